/- Laws that the row leans on; no condition. -/
import Derived.Test.YtjlhhnkhcbpnjaaGreatDoorJ26
import Derived.Shelf.SlSortCmp.WholeK
import Derived.Shelf.SlSortCmp.NoneTotal
import Derived.Shelf.SlGeneric
namespace Go.Proofs.YtjlhhnkhcbpnjaaGreatDoor
open Go Go.RowKit Go.Shelf List Tryz
set_option linter.unusedVariables false
set_option linter.unusedSectionVars false
set_option linter.unusedSimpArgs false
set_option maxHeartbeats 40000000
set_option maxRecDepth 100000
theorem TU{w:World}{B:Nat}{e:TypeId}{z n c:Nat}{a:aN}{m:Nat}{xs:aO}(h:w.ownsRow B e z (.slice a n c) m xs):c<=9223372036854775807:=by
 rcases h.2 with⟨j,_⟩|⟨g,I,cu,j,_,_,_,E,_⟩
 ·injection j with _ _ u;omega
 ·injection j with _ _ u;subst u;unfold maxLen at E;omega
def kP(n:Int):Nat:=(BitVec.ofInt 64 n &&& BitVec.ofInt 64 (3:Int)).toNat
theorem rX(n:Int)(m:Nat)(j:m<9223372036854775808):(BitVec.ofInt 64 n &&& BitVec.ofInt 64 (m:Int)).toNat<=m:=by
 rw[BitVec.toNat_and];refine Nat.le_trans Nat.and_le_right ?_;rw[BitVec.toNat_ofInt];omega
theorem TV(n:Int):kP n<=3:=rX n 3 J
theorem rY(n:Int)(m:Nat)(j:m<9223372036854775808):bits BinOp.and IntKind.i64 n (m:Int)=((BitVec.ofInt 64 n &&& BitVec.ofInt 64 (m:Int)).toNat:Int):=by
 have h:bits BinOp.and IntKind.i64 n (m:Int)=IntKind.i64.wrap ((BitVec.ofInt 64 n &&& BitVec.ofInt 64 (m:Int)).toNat:Int):=F;rw[h];exact IntWalk.i64_in _ (by have:=rX n m j;omega)
theorem TW(n:Int):bits BinOp.and IntKind.i64 n 3=(kP n:Int):=rY n 3 J
def kQ(i:Nat):aj:=List.replicate 15 0++[UInt8.ofNat (1+i)]
def CY(i:Nat):aj:=7::(List.replicate 14 0++[UInt8.ofNat i])
theorem qN(i:Nat):(kQ i).length=16:=by unfold kQ;simp
theorem MF(i:Nat):(CY i).length=16:=by unfold CY;simp
theorem tC(n:Int)(w:World):Calls prog 47 #[.int .i64 n] w fun x w'=>x= .returned (.agg ((kQ (kP n)).map Y).toArray)/\X w w':=by
 have ai:=TW n;have al:=TV n;generalize kP n=i at*;have ad:wrap64 1=1:=by unfold wrap64;omega
 have ae:wrap64 2=2:=by unfold wrap64;omega
 have af:wrap64 3=3:=by unfold wrap64;omega
 have ag:wrap64 4=4:=by unfold wrap64;omega
 rcases(show i=0∨i=1∨i=2∨i=3 by omega)with rfl|rfl|rfl|rfl
 all_goals
  (
   go_enter func47,ntmps47;go_upto_region 1 with fail;generalize j:World.alloc w _=I;have u:ah I w.heap.size (List.replicate 16 (.int .u8 0)) 29:=by rw[<-j];exact ah.aI F F
   have E:X w I:=by rw[<-j];exact(X.refl w).alloc _
   obtain⟨R,aa⟩:=aB u E;clear j u E;go_wp2_with (refine bg F _ _ _ F F F R dh aF F (by repeat (first|exact forall_mem_nil _|refine forall_mem_cons.2 ⟨F,?_⟩)) ?_);intro am ab ac;go_wp2_with fail;exact gG F F ab dh F F ⟨F,ac.ext aa bG⟩)
theorem MG(n:Int)(w:World):Calls prog 49 #[.int .i64 n] w fun x w'=>x= .returned (.agg ((CY (kP n)).map Y).toArray)/\X w w':=by
 have ai:=TW n;have al:=TV n;generalize kP n=i at*;have ad:wrap64 1=1:=by unfold wrap64;omega
 have ae:wrap64 2=2:=by unfold wrap64;omega
 have af:wrap64 3=3:=by unfold wrap64;omega
 have ag:wrap64 4=4:=by unfold wrap64;omega
 rcases(show i=0∨i=1∨i=2∨i=3 by omega)with rfl|rfl|rfl|rfl
 all_goals
  (
   go_enter func49,ntmps49;go_upto_region 1 with fail;generalize j:World.alloc w _=I;have u:ah I w.heap.size (List.replicate 16 (.int .u8 0)) 29:=by rw[<-j];exact ah.aI F F
   have E:X w I:=by rw[<-j];exact(X.refl w).alloc _
   obtain⟨R,aa⟩:=aB u E;clear j u E;go_wp2_with (refine bg F _ _ _ F F F R dh aF F (by repeat (first|exact forall_mem_nil _|refine forall_mem_cons.2 ⟨F,?_⟩)) ?_);intro am ab ac;go_wp2_with fail;exact gG F F ab dh F F ⟨F,ac.ext aa bG⟩)
section
open Go Go.RowKit Go.Shelf Go.Sort
section
variable {α:Type} [Inhabited α] {enc:α->aO} {k:Nat}
def fU(enc:α->aO)(j:List α):aO:=j.flatMap enc
variable (hk:∀x,(enc x).length=k)
include hk
omit [Inhabited α]in
theorem yY(j:List α):(fU enc j).length=k*j.length:=by
 unfold fU;induction j with
 |nil=>rfl
 |cons x l u=>rw[flatMap_cons,length_append,hk,u,length_cons,Nat.mul_succ];omega
omit [Inhabited α]in
theorem MH{j:Nat}(hj:j<k){x:α}:∀(ls:List α) (i:Nat),ls[i]? =some x->(fU enc ls)[k*i+j]? =(enc x)[j]?
 |[],_,h=>by simp at h
 |y::ls,0,h=>by
  simp only[List.getElem?_cons_zero,Option.some.injEq]at h;subst h;show(enc y++fU enc ls)[k*0+j]? =_;rw[List.getElem?_append_left (by rw[hk];omega),Nat.mul_zero,Nat.zero_add]
 |y::ls,i+1,h=>by
  rw[List.getElem?_cons_succ]at h;show(enc y++fU enc ls)[k*(i+1)+j]? =_;rw[List.getElem?_append_right (by rw[hk,Nat.mul_succ];omega),hk,show k*(i+1)+j - k=k*i+j by rw[Nat.mul_succ];omega];exact MH hj ls i h
theorem TY(d:Array α):flatK enc k d=(fU enc d.toList).toArray:=by
 have ab:(fU enc d.toList).length=d.size*k:=by rw[yY hk,Nat.mul_comm];simp
 refine ext_get! (by rw[size_flatK];simp[ab]) fun t ht=> ?_;rw[size_flatK]at ht;rw[get_flatK enc k d t ht];have E:0<k:=by
  rcases Nat.eq_zero_or_pos k with h|h
  ·subst h;simp at ht
  ·exact h
 have j:t / k<d.size:=Nat.div_lt_of_lt_mul (by rw[Nat.mul_comm];exact ht);have ac:d.toList[t / k]? =some (d[t / k]'j):=by rw[Array.getElem?_toList,Array.getElem?_eq_getElem j]
 have u:=MH hk (Nat.mod_lt t E) d.toList (t / k) ac;rw[Nat.div_add_mod]at u;have aa:(enc d[t / k]!)[t%k]! =(enc (d[t / k]'j))[t%k]! :=by rw[getElem!_pos d (t / k) j]
 rw[aa];have I:t%k<(enc (d[t / k]'j)).length:=by rw[hk];exact Nat.mod_lt t E
 have R:t<(fU enc d.toList).length:=J;rw[getElem!_pos (enc (d[t / k]'j)) (t%k) I,getElem!_pos (fU enc d.toList).toArray t (by simpa using R)];rw[List.getElem?_eq_getElem I,List.getElem?_eq_getElem R]at u;simpa using(Option.some.inj u).symm
theorem ab6{w:World}{g:Nat}{d:Array α}{rest:aO}{T:TypeId}(hb:ah w g (fU enc d.toList++rest) T):HoldsK enc k w g 0 d:=by
 unfold HoldsK;rw[TY hk];intro j E;have u:j<(fU enc d.toList).length:=by simpa using E
 refine⟨?_,hb.frozen _⟩;rw[Nat.zero_add];refine hb.cell' ?_;rw[List.getElem?_append_left u,List.getElem?_eq_getElem u,getElem!_pos _ _ (by simpa using u)];simp
theorem ab7{w:World}{g:Nat}{j:List α}{rest:aO}{T:TypeId}(hb:ah w g (fU enc j++rest) T)(d:Array α)(n:Nat)(u:Array Obj)(hs:d.size=j.length):
 ah (sortWorldK enc k w g 0 n d u) g (fU enc d.toList++rest) T/\w.grownBy (sortWorldK enc k w g 0 n d u) (some g):=by
 have I:=hb.lt;have aa:(fU enc d.toList).length=(fU enc j).length:=by rw[yY hk,yY hk];simp[hs]
 constructor
 ·unfold ah at hb⊢;unfold sortWorldK putRowK putRow mapBlock grow;show(Array.modify w.heap g _++u)[g]? =_;rw[Array.getElem?_append_left (by simpa using I),Array.getElem?_modify,if_pos F,hb,TY hk];simp only[Option.map_some,onCells,Option.some.injEq,Obj.cells.injEq,and_true];unfold putCells;apply Array.ext_getElem?;intro i;simp only[Array.getElem?_mapIdx,List.getElem?_toArray,Nat.zero_add,Nat.zero_le,true_and,Nat.sub_zero,id_eq,size_toArray];by_cases E:i<(fU enc j).length
  ·rw[List.getElem?_append_left E,List.getElem?_eq_getElem E,List.getElem?_append_left J,List.getElem?_eq_getElem (by omega:i<(fU enc d.toList).length)];simp only[Option.map_some];rw[if_pos J,getElem!_pos _ _ (by simpa using(by omega:i<(fU enc d.toList).length))];simp
  ·rw[List.getElem?_append_right J,List.getElem?_append_right J,aa];cases rest[i - (fU enc j).length]? with
   |none=>rfl
   |some v=>
    simp only[Option.map_some];rw[if_neg J]
 ·refine⟨F,F,F,?_,fun i E ab=> ?_⟩
  ·unfold sortWorldK putRowK putRow mapBlock grow;show w.heap.size<=(Array.modify w.heap g _++u).size;simp
  ·unfold sortWorldK putRowK putRow mapBlock grow;show(Array.modify w.heap g _++u)[i]? =_;have R:¬g=i:=fun h=>ab (by rw[h]);rw[Array.getElem?_append_left (by simpa using E),Array.getElem?_modify,if_neg R];try rfl
omit hk in
theorem ab8{E:α->α->Int}{d u:Array α}{n:Nat}(hn:d.size=n)(ai:PermIn 0 n d u)(hs:SortedIn (ltOf E) 0 n u):
 u.size=n/\u.toList.Perm d.toList/\u.toList.Pairwise (fun x y=>¬E y x<0):=by
 obtain⟨al,_,I⟩:=ai;have R:u.size=n:=J;have aa:(u.extract 0 n).toList=u.toList:=by rw[<-R];simp
 have e2:(d.extract 0 n).toList=d.toList:=by rw[<-hn];simp
 rw[aa,e2]at I;refine⟨R,I,?_⟩;refine pairwise_iff_getElem.2 fun i j ac af ae=> ?_;have ad:i<u.size:=by simpa using ac
 have ag:j<u.size:=by simpa using af
 have h:=hs i j (Nat.zero_le _) ae J;rw[getElem!_pos u i ad,getElem!_pos u j ag]at h;have ab:decide (E u[j] u[i]<0)=false:=h;simpa using ab
end
theorem MI{P:Program}{I:Ren}{α:Type}[Inhabited α]{enc:α->aO}{k:Nat}(L:SlLaysF0.n6 P I)(ag:∀w,(isAgg (I.t 24)).run P w= .ok true w)(a2:∀w,(Go.sizeOf (I.t 24)).run P w= .ok k w)(hk:∀x,(enc x).length=k)(ao:∀x,∀v∈enc x,v.oneCell'=true)
 (u:α->α->Int)(aq:SWO (ltOf u))(f:Nat)(hf:∀(x y:α) (w:World),Calls P f #[.agg (enc x).toArray,.agg (enc y).toArray] w fun e w'=>e= .returned (.int .i64 (u x y))/\iT w w')(an:∀ad w,(callFunc f ad).run P w= .ok (.enter f ad) w)
 {w:World}{B n:Nat}{e:TypeId}{v:Value}{j:List α}(own:w.ownsRow B e k v n (fU enc j))(hn:j.length=n)(aE:n<4611686018427387904):
 Calls P (I.f 6) #[v,.func (.func f) #[] #[]] w fun x w'=>x= .returned (.tuple #[])/\∃es,es.Perm j/\es.Pairwise (fun x y=>¬u y x<0)/\w'.ownsRow B e k v n (fU enc es)/\w.grownBy w' v.ownBlock:=by
 rcases own.2 with⟨rfl,rfl⟩|⟨g,R,cu,rfl,hb,az,af,ar,aw,ax⟩
 ·refine(AnyF.slices_SortFunc_none L none 0 (.func (.func f) #[] #[]) w).mono ?_;rintro x w' ⟨rfl,rfl⟩;have:j=[]:=length_eq_zero_iff.1 hn;subst this;exact⟨F,[],List.Perm.refl _,List.Pairwise.nil,own,yA w' _⟩
 ·have aa:ah w g (fU enc j++cu.toList.drop (n*k)) e:=by
   unfold ah;rw[az,<-ax,take_append_drop]
  have ap:HoldsK enc k w g 0 j.toArray:=ab6 hk (rest:=cu.toList.drop (n*k)) (T:=e) (by simpa using aa);have ae:=AnyQ.slices_SortFunc L k ag a2 enc hk ao u aq f #[] g 0 R j.toArray w an (fun m ac am _ x y=>hf x y (sortWorldK enc k w g 0 m am ac)) ap aa.lt (by simpa[hn]using aE);have hs:j.toArray.size=n:=by simpa using hn
  rw[hs]at ae;refine ae.mono ?_;rintro x w' ⟨rfl,E,n',ac,a1,a0,rfl⟩;obtain⟨k1,k2,k3⟩:=ab8 hs a1 a0;obtain⟨ai,al⟩:=ab7 hk aa E n' ac (by rw[k1,hn]);refine⟨F,E.toList,by simpa using k2,k3,?_,al⟩;have ab:(fU enc E.toList).length=n*k:=by rw[yY hk,Nat.mul_comm];simp[k1]
  refine⟨ab,.inr ⟨g,R,(fU enc E.toList++cu.toList.drop (n*k)).toArray,F,hb,ai,af,ar,?_,?_⟩⟩
  ·have:=own.1;rw[size_toArray,length_append,ab,length_drop,Array.length_toList,aw];have:n*k<=R*k:=Nat.mul_le_mul_right _ af;omega
  ·rw[<-ab];simp
theorem MJ{P:Program}{f:FuncId}{B:Func}(h:(((P.funcs[f]?).map (fun x=>x.name)).getD "" == "runtime.NumGoroutine")=false)(j:P.funcs[f]? =some {B with name:=((P.funcs[f]?).map (fun x=>x.name)).getD ""}):Bears P f B:=⟨_,h,j⟩
end
def ab9:Go.Shelf.Ren:=⟨fun|6=>196 |15=>176 |14=>256 |28=>223 |29=>224 |20=>309 |21=>310 |22=>311 |23=>312 |24=>313 |25=>314 |26=>315 |27=>316 |46=>340 |47=>286 |48=>287 |49=>341 |50=>342 |57=>349 |n=>n,fun|22=>225 |24=>228 |25=>284 |3=>3 |39=>141 |0=>0 |53=>239 |55=>246 |4=>4 |46=>314 |45=>313 |50=>82 |5=>5 |9=>9 |66=>360 |70=>364 |76=>389 |77=>390 |n=>n,fun|n=>n⟩
theorem acd:Go.Proofs.SlLaysF0.n6 prog ab9:=by repeat' first|kernel_rfl|(intro _;kernel_rfl)|exact MJ au au|constructor
structure lJ where
 id:aj
 r:iF
def lJ.v(m:lJ):aO:=m.id.map Y++[m.r.v]
def lJ.zero:lJ:=⟨fO,.nil⟩
theorem EX:(prog.info? 228).map (fun i=>(i.zero,i.size,i.bytes))=some (some (.agg lJ.zero.v.toArray),17,40):=au
theorem ace:(prog.underlying 228).bind (fun d=>match d with| .struct j=>j.toList.mapM (fun f=>(prog.info? f.type).map fun i=>(f.offset,i.size))|_=>none)=some [(0,16),(16,1)]:=au
structure nK where
 ask:aj
 who:aj
 x:dX
def nK.v(r:nK):aO:=r.ask.map Y++(r.who.map Y++[r.x.r.v,.int .i64 r.x.t])
def nK.zero:nK:=⟨kN,fO,.zero⟩
theorem EY:(prog.info? 232).map (fun i=>(i.zero,i.size,i.bytes))=some (some (.agg nK.zero.v.toArray),50,80):=au
theorem acf:(prog.underlying 232).bind (fun d=>match d with| .struct j=>j.toList.mapM (fun f=>(prog.info? f.type).map fun i=>(f.offset,i.size))|_=>none)=some [(0,32),(32,16),(48,2)]:=au
theorem acg(x:aj)(sa:aN)(sn sc:Nat)(l:aT)(j:x.length=16):prog.built 228 [(0,Value.agg (x.map Y).toArray),(1,Value.slice sa sn sc)]=some (lJ.v ⟨x,⟨sa,sn,sc,l⟩⟩).toArray:=by
 obtain⟨aa,u,E,R,I⟩:=info_parts EX;have hf:=ace;rw[underlying228]at hf;simp only[Option.bind_some]at hf;unfold Program.built;rw[u,underlying228];simp only[E,hf];have g0:(Value.agg lJ.zero.v.toArray).cells=((([]:aO))++(zb 16)++([Value.slice none 0 0])).toArray:=F;rw[g0,jh (([]:aO)) (zb 16) ([Value.slice none 0 0]) F (by simp[zb,j]) (by simp[Value.cells,j]) (by simp[zb])];have g1:(([]:aO))++(Value.agg (x.map Y).toArray).cells.toList++([Value.slice none 0 0])=((x.map Y))++[Value.slice none 0 0]++(([]:aO)):=by simp[Value.cells,zb]
 rw[g1,jh ((x.map Y)) [Value.slice none 0 0] (([]:aO)) F (by simp[zb,j]) (by simp[Value.cells,j]) (by simp[zb])];rw[Instr.fill];simp[Value.cells,zb,lJ.v,iF.v]
theorem ach{o:Oper}{a:Act}{j u:Operand}{x:aj}{sa:aN}{sn sc:Nat}{l:aT}(ab:o.op= .build 228 #[(0,j),(1,u)])(E:a.eval j=Value.agg (x.map Y).toArray)(I:a.eval u=Value.slice sa sn sc)(ac:x.length=16)(w:World):(execOp a.eval o).run prog w= .ok (.value (.agg (lJ.v ⟨x,⟨sa,sn,sc,l⟩⟩).toArray)) w:=by
 have h:=run_build (P:=prog) w 228 #[(0,Value.agg (x.map Y).toArray),(1,Value.slice sa sn sc)] _ (acg x sa sn sc l ac);have aa:(#[(0,j),(1,u)].map fun(r:Nat×Operand)=>(r.1,a.eval r.2))= #[(0,Value.agg (x.map Y).toArray),(1,Value.slice sa sn sc)]:=by simp[E,I]
 unfold execOp;simp only[ab,Sem.run_bind];have R:(Instr.build 228 (#[(0,j),(1,u)].map fun(r:Nat×Operand)=>(r.1,a.eval r.2))).run prog w= .ok (.agg (lJ.v ⟨x,⟨sa,sn,sc,l⟩⟩).toArray) w:=by rw[aa];exact h
 rw[R];rfl
theorem aci(x y:aj)(sa:aN)(sn sc:Nat)(l:aT)(t:Int)(j:x.length=32)(u:y.length=16):prog.built 232 [(0,Value.agg (x.map Y).toArray),(1,Value.agg (y.map Y).toArray),(2,Value.agg #[Value.slice sa sn sc,Value.int .i64 t])]=some (nK.v ⟨x,y,⟨⟨sa,sn,sc,l⟩,t⟩⟩).toArray:=by
 obtain⟨ac,I,R,ab,aa⟩:=info_parts EY;have hf:=acf;rw[underlying232]at hf;simp only[Option.bind_some]at hf;unfold Program.built;rw[I,underlying232];simp only[R,hf];have g0:(Value.agg nK.zero.v.toArray).cells=((([]:aO))++(zb 32)++((zb 16)++[Value.slice none 0 0,Value.int .i64 0])).toArray:=F;rw[g0,jh (([]:aO)) (zb 32) ((zb 16)++[Value.slice none 0 0,Value.int .i64 0]) F (by simp[zb,j,u]) (by simp[Value.cells,j,u]) (by simp[zb])];have g1:(([]:aO))++(Value.agg (x.map Y).toArray).cells.toList++((zb 16)++[Value.slice none 0 0,Value.int .i64 0])=((x.map Y))++(zb 16)++([Value.slice none 0 0,Value.int .i64 0]):=by simp[Value.cells,zb]
 rw[g1,jh ((x.map Y)) (zb 16) ([Value.slice none 0 0,Value.int .i64 0]) F (by simp[zb,j,u]) (by simp[Value.cells,j,u]) (by simp[zb])];have E:((x.map Y))++(Value.agg (y.map Y).toArray).cells.toList++([Value.slice none 0 0,Value.int .i64 0])=((x.map Y)++(y.map Y))++[Value.slice none 0 0,Value.int .i64 0]++(([]:aO)):=by simp[Value.cells,zb]
 rw[E,jh ((x.map Y)++(y.map Y)) [Value.slice none 0 0,Value.int .i64 0] (([]:aO)) F (by simp[zb,j,u]) (by simp[Value.cells,j,u]) (by simp[zb])];rw[Instr.fill];simp[Value.cells,zb,nK.v,iF.v]
theorem acj{o:Oper}{a:Act}{j u E:Operand}{x y:aj}{sa:aN}{sn sc:Nat}{l:aT}{t:Int}(ac:o.op= .build 232 #[(0,j),(1,u),(2,E)])(I:a.eval j=Value.agg (x.map Y).toArray)(R:a.eval u=Value.agg (y.map Y).toArray)(e2:a.eval E=Value.agg #[Value.slice sa sn sc,Value.int .i64 t])(ad:x.length=32)(ae:y.length=16)(w:World):(execOp a.eval o).run prog w= .ok (.value (.agg (nK.v ⟨x,y,⟨⟨sa,sn,sc,l⟩,t⟩⟩).toArray)) w:=by
 have h:=run_build (P:=prog) w 232 #[(0,Value.agg (x.map Y).toArray),(1,Value.agg (y.map Y).toArray),(2,Value.agg #[Value.slice sa sn sc,Value.int .i64 t])] _ (aci x y sa sn sc l t ad ae);have ab:(#[(0,j),(1,u),(2,E)].map fun(r:Nat×Operand)=>(r.1,a.eval r.2))= #[(0,Value.agg (x.map Y).toArray),(1,Value.agg (y.map Y).toArray),(2,Value.agg #[Value.slice sa sn sc,Value.int .i64 t])]:=by simp[I,R,e2]
 unfold execOp;simp only[ac,Sem.run_bind];have aa:(Instr.build 232 (#[(0,j),(1,u),(2,E)].map fun(r:Nat×Operand)=>(r.1,a.eval r.2))).run prog w= .ok (.agg (nK.v ⟨x,y,⟨⟨sa,sn,sc,l⟩,t⟩⟩).toArray) w:=by rw[ab];exact h
 rw[aa];rfl
def acn:Go.Shelf.Ren:=⟨fun|6=>139 |15=>176 |14=>194 |28=>223 |29=>224 |20=>247 |21=>248 |22=>249 |23=>250 |24=>251 |25=>252 |26=>253 |27=>254 |46=>302 |47=>286 |48=>287 |49=>303 |50=>304 |57=>335 |n=>n,fun|22=>166 |24=>159 |25=>224 |3=>3 |39=>141 |0=>0 |53=>239 |55=>246 |4=>4 |46=>314 |45=>313 |50=>82 |5=>5 |9=>9 |66=>360 |70=>364 |76=>389 |77=>390 |n=>n,fun|n=>n⟩
theorem aco:Go.Proofs.SlLaysF0.n6 prog acn:=by repeat' first|kernel_rfl|(intro _;kernel_rfl)|exact MJ au au|constructor
section
open Go Go.RowKit Go.Shelf Go.Sort
structure qg where
 k:bC
 ok:k.Ok
instance:Inhabited qg:=⟨⟨bC.zero,bC.vk⟩⟩
def uK(x:qg):aO:=x.k.v
theorem Aw(x:qg):(uK x).length=84:=bC.len x.ok
theorem MK(x:qg):∀v∈uK x,v.oneCell'=true:=yT x.k
def CZ(x y:qg):Int:=eH x.k.key y.k.key
theorem acp:Sort.SWO (ltOf CZ) where
 irrefl x:=Ju x.k.key
 trans x y z h1 h2:=FT h1 h2
 ntrans x y z h1 h2:=Jv h1 h2
theorem acr(x y:qg)(w:World):Calls prog 140 #[.agg (uK x).toArray,.agg (uK y).toArray] w fun e w'=>e= .returned (.int .i64 (CZ x y))/\iT w w':=by
 obtain⟨hc,ac,ad,ag,ai⟩:=dM (fun w=>Gg x.k.key y.k.key w x.ok.hk y.ok.hk) (bC.wB x.ok) (bC.wB y.ok) (show(x.k.key.map Y).length=16 by rw[length_map];exact x.ok.hk) (show(y.k.key.map Y).length=16 by rw[length_map];exact y.ok.hk);go_enter func140,ntmps140;go_upto_region 1 with(fail);generalize j:World.alloc (World.alloc w _) _=u;have I:ah u w.heap.size x.k.v 159:=by rw[<-j];exact(ah.aI F F).alloc _
 have R:ah u (w.heap.size+1) y.k.v 159:=by rw[<-j];exact ah.aI aF F
 have ab:Hid (iT w u):=by rw[<-j];exact O (((iT.refl w).alloc _).alloc _)
 obtain⟨ae,af⟩:=aB I R;clear j I R;go_wp2_with (first|(refine bF F (bQ F F (dF ae ac) dh ag) ?_)|(refine bF F (bQ F F (dF af ad) dh ai) ?_));refine(hc u).mono ?_;rintro e w' ⟨rfl,E⟩;have aa:=O (ab.trans E);clear E;go_wp2_with fail;go_ret;exact⟨F,aa⟩
theorem acs:∀j w,(callFunc 140 j).run prog w= .ok (.enter 140 j) w:=enters_of func140 au F
theorem acu{w:World}{B n:Nat}{v:Value}{j:List qg}(own:w.ownsRow B 159 84 v n (fU uK j))(hn:j.length=n)(u:n<4611686018427387904):
 Calls prog 139 #[v,.func (.func 140) #[] #[]] w fun x w'=>x= .returned (.tuple #[])/\∃es,es.Perm j/\es.Pairwise (fun x y=>¬CZ y x<0)/\w'.ownsRow B 159 84 v n (fU uK es)/\w.grownBy w' v.ownBlock:=
 MI aco isAgg159 sizeOf159 Aw MK CZ acp _ acr acs own hn u
theorem T_:pO prog 166 159 84 120:=⟨underlying166,⟨_,_,(info_parts EM).choose_spec.1,(info_parts EM).choose_spec.2.1,(info_parts EM).choose_spec.2.2.1,(info_parts EM).choose_spec.2.2.2,F⟩,aX⟩
theorem ML{α:Type}(enc:α->aO)(j:List α)(x:α):fU enc (j++[x])=fU enc j++enc x:=by unfold fU;rw[flatMap_append];simp
theorem Ua{K V:Type}[DecidableEq K]{hs:List (K×V)}(h:(hs.map Prod.fst).Nodup):∀l:List (K×V),(∀x∈l,x∈hs)->(l.map Prod.fst).filterMap (fun q=>bW hs q)=l.map Prod.snd
 |[],_=>rfl
 |x::l,hl=>by
  rw[map_cons,map_cons,filterMap_cons,xI h (k:=x.1) (v:=x.2) (hl x aF)];exact congrArg (x.2:: ·) (Ua h l (fun y hy=>hl y (mem_cons_of_mem _ hy)))
theorem Ub(p:Nat)(S:aV)(w:World)(h:dJ w p S)(hn:S.ks.length<=65536):
 Calls prog 87 #[.pointer (some ⟨p,0,none⟩)] w fun x w'=>∃v es,x= .returned v/\w'.ownsRow w.heap.size 159 84 v S.ks.length (fU uK es)/\(es.map qg.k).Perm (S.ks.map Prod.snd)/\es.Pairwise (fun x y=>0<=CZ y x)/\X w w':=by
 have a8:=O h;have cc:=h.blk.cell' (aV.nV h.hl h.hf);have am:=O h.ek.nodup;have b5:=O h.kr;obtain⟨cl,aq⟩:=jE (fun x w'=>∃v es,x= .returned v/\w'.ownsRow w.heap.size 159 84 v S.ks.length (fU uK es)/\(es.map qg.k).Perm (S.ks.map Prod.snd)/\es.Pairwise (fun x y=>0<=CZ y x)/\X w w':Ending->World->Prop);rw[<-aq];have b':=O aq;clear h aq;go_enter func87,ntmps87;go_wp2_with (at_range;refine zZ F 143 29 159 underlying143 _ F F a8.key ?_);intro cj bo bc ci;obtain⟨ao,a1⟩:=aB bo bc;clear bo bc cc;obtain⟨j,br⟩:=aC w.heap.size;have I:=O (show w.heap.size<=j/\j<cj.heap.size by omega);rw[br]at ao⊢;clear br ci;go_wp2_with fail;go_loopw [3] (fun v wr=>∃lf es,gJ eX bC.va wr S.gk j S.ks lf/\lf.Nodup/\es.length+lf.length=S.ks.length/\(es.map (fun x:qg=>x.k)++(lf.filterMap fun q=>bW S.ks q)).Perm (S.ks.map Prod.snd)/\wr.ownsRow (j+1) 159 84 v es.length (fU uK es)/\X w wr) (fun _ wr=>wr.rangeLeft S.gk j)
 case atStart=>
  refine⟨S.ks.map Prod.fst,[],ao,am,aF,?_,⟨F,.inl ⟨F,F⟩⟩,a1⟩;rw[map_nil,nil_append,Ua am.out S.ks (fun _ h=>h)]
 case round=>
  obtain⟨lf,es,az,bk,bh,bm,own,ba⟩:=hrel;obtain⟨a4,b7,al,a3,E,aa⟩:=iq az bk bh bm own ba;have ch:=az.qL;clear az bk bh bm own ba ao a1;go_wp2_with (at_next;refine z_ F (fun x y h=>xJ h) _ F F a4 ?_ ?_)
  ·intro cg;subst cg;have cf:es.length=S.ks.length:=by have:=al.out;simpa using this
   go_wp2_with fail;refine(acu E F J).mono ?_;rintro cm w2 ⟨rfl,cd,bl,bt,bu,bd⟩;obtain⟨ab,ad,b8,ca⟩:=bU (aa.grown bd (fun q u=>by have:=(E.lt q u).1;have:=I.out;omega)) bu bl bt;clear bu bd bl bt E aa;go_wp2_with fail
   (try go_ret)
   rw[b'.out];refine⟨_,cd,F,?_,?_,ca,ab⟩
   ·rw[<-cf];exact mg ad (by have:=I.out;omega)
   ·have:=a3.out;simp only[filterMap_nil,append_nil]at this;exact(b8.map _).trans this
  ·intro x k w2 lf2 aw ax bj bp aE bi;obtain⟨b6,a5,an,a2⟩:=bU (Au b7 ax) bp bj (b5 _ aw);have ac:=O (bC.len a2);obtain⟨R,ar⟩:=jE (⟨k,a2⟩:qg);obtain⟨b4,b3⟩:=aB (show uK R=k.v by rw[ar];rfl) (show R.k=k by rw[ar]);clear ar;obtain⟨b9,b2,ab,ad⟩:=bU ax (xI am aw) (aE.ext aa I.1) (um E (qC aE) (fun g ce=>by have:=(E.lt g ce).1;simp;omega));rw[show bC.va k= .agg k.v.toArray from F]at bi⊢;clear aw ax bp aE a4 bj E aa;go_wp2_with (refine bg F _ (.tmp 5) _ F F F (ah.aI (vs:=bC.zero.v) F F) pX (bC.len bC.vk) ac (yT k) ?_);intro a0 a_ bw;have ae:X w2 a0:=bw.ext ((X.refl _).alloc _) bG;obtain⟨bz,b0,a9,a6⟩:=bU a_ (ab.ext ae) (dQ ad ae) (a5.ext ae);have cq:=a6.lt;clear a_ bw ae bi ad a5 ab;generalize w2.heap.size=cn at*;have cp:es.length+1<=65536:=by have:=al.out;have:=an.out;omega
   go_wp2_with (first|(refine bV F 159 (.tmp 5) F F bz pX ac ?_)|(refine Cc T_ aX F F F ac ?_)|(refine qB T_ F _ _ F (j+1) (m:=1) (news:=k.v) F F (dQ a9 ((X.refl _).alloc _)) (by rw[ac.out]) bG (by intro h;cases h) (aK.eG (ah.aI (vs:=k.v) F F)) (yT k) J J (by rw[gU];omega) ?_));intro ck bx bv ap _;have af:X a0 (World.alloc a0 (.cells k.v.toArray 159)):=(X.refl _).alloc _;have ai:=dQ a9 af;have b1:Hid (X w bx):=O ((b0.ext af).grown ap (fun q u=>by have:=(ai.lt q u).1;have:=I.out;omega));obtain⟨a7,cb⟩:=aB ((a6.ext af).grown ap (fun u=>by have be:=(ai.lt _ u.symm).1;have ag:=a8.key.lt;have co:=I.out;omega) (fun u=>by have:=(ai.lt j u.symm).1;omega)) (show bx.ownsRow (j+1) 159 84 ck (es++[R]).length (fU uK (es++[R])) by rw[ML,length_append,b4.out];exact bv);clear bv ap af ai;go_wp2_with fail;go_roundw
   case rel=>
    refine⟨lf2,es++[R],a7,b6.2,?_,?_,cb,b1⟩
    ·rw[length_append,length_singleton];have:=al.out;have:=an.out;omega
    ·have be:=a3.out;refine List.Perm.trans ?_ be;rw[map_append,append_assoc];refine List.Perm.append_left _ ?_;have ag:=(b9.filterMap (fun q=>bW S.ks q)).symm;rw[filterMap_cons,b2.out]at ag;rw[<-b3.out]at ag;exact ag
   case measure=>rw[a7.qL,ch,an.out];omega
end
section
open Go Go.RowKit Go.Shelf Go.Sort
structure mY where
 m:lJ
 h:m.id.length=16
instance:Inhabited mY:=⟨⟨lJ.zero,F⟩⟩
def qh(x:mY):aO:=x.m.v
theorem EZ(x:mY):(qh x).length=17:=by unfold qh lJ.v;simp[x.h]
theorem MN(x:mY):∀v∈qh x,v.oneCell'=true:=by
 intro v j;unfold qh lJ.v at j;rcases mem_append.1 j with h|h
 ·exact b_ _ v h
 ·rw[mem_singleton.1 h];rfl
def C9(x y:mY):Int:=eH x.m.id y.m.id
theorem acv:Sort.SWO (ltOf C9) where
 irrefl x:=Ju x.m.id
 trans x y z h1 h2:=FT h1 h2
 ntrans x y z h1 h2:=Jv h1 h2
theorem Uc:iH prog 228 17:=⟨⟨_,underlying228,F⟩,au⟩
theorem lJ.MO{m:lJ}(h:m.id.length=16):(m.v.drop 0).take 16=m.id.map Y:=by
 unfold lJ.v;rw[drop_zero,take_left' (by rw[length_map,h])]
theorem acw(x y:mY)(w:World):Calls prog 197 #[.agg (qh x).toArray,.agg (qh y).toArray] w fun e w'=>e= .returned (.int .i64 (C9 x y))/\iT w w':=by
 obtain⟨hc,ac,ad,ag,ai⟩:=dM (fun w=>Gg x.m.id y.m.id w x.h y.h) (lJ.MO x.h) (lJ.MO y.h) (show(x.m.id.map Y).length=16 by rw[length_map];exact x.h) (show(y.m.id.map Y).length=16 by rw[length_map];exact y.h);go_enter func197,ntmps197;go_upto_region 1 with(fail);generalize j:World.alloc (World.alloc w _) _=u;have I:ah u w.heap.size x.m.v 228:=by rw[<-j];exact(ah.aI F F).alloc _
 have R:ah u (w.heap.size+1) y.m.v 228:=by rw[<-j];exact ah.aI aF F
 have ab:Hid (iT w u):=by rw[<-j];exact O (((iT.refl w).alloc _).alloc _)
 obtain⟨ae,af⟩:=aB I R;clear j I R;go_wp2_with (first|(refine bF F (bQ F F (dF ae ac) dh ag) ?_)|(refine bF F (bQ F F (dF af ad) dh ai) ?_));refine(hc u).mono ?_;rintro e w' ⟨rfl,E⟩;have aa:=O (ab.trans E);clear E;go_wp2_with fail;go_ret;exact⟨F,aa⟩
theorem acy:∀j w,(callFunc 197 j).run prog w= .ok (.enter 197 j) w:=enters_of func197 au F
theorem acz{w:World}{B n:Nat}{v:Value}{j:List mY}(own:w.ownsRow B 228 17 v n (fU qh j))(hn:j.length=n)(u:n<4611686018427387904):
 Calls prog 196 #[v,.func (.func 197) #[] #[]] w fun x w'=>x= .returned (.tuple #[])/\∃es,es.Perm j/\es.Pairwise (fun x y=>¬C9 y x<0)/\w'.ownsRow B 228 17 v n (fU qh es)/\w.grownBy w' v.ownBlock:=
 MI acd isAgg228 sizeOf228 EZ MN C9 acv _ acw acy own hn u
theorem Ud:pO prog 225 228 17 40:=⟨underlying225,⟨_,_,(info_parts EX).choose_spec.1,(info_parts EX).choose_spec.2.1,(info_parts EX).choose_spec.2.2.1,(info_parts EX).choose_spec.2.2.2,F⟩,aX⟩
theorem MP:pO prog 98 9 1 16:=⟨underlying98,⟨_,_,(info_parts (show(prog.info? 9).map (fun i=>(i.zero,i.size,i.bytes))=some (some (.string ⟨#[]⟩),1,16) by kernel_rfl)).choose_spec.1,(info_parts (show(prog.info? 9).map (fun i=>(i.zero,i.size,i.bytes))=some (some (.string ⟨#[]⟩),1,16) by kernel_rfl)).choose_spec.2.1,(info_parts (show(prog.info? 9).map (fun i=>(i.zero,i.size,i.bytes))=some (some (.string ⟨#[]⟩),1,16) by kernel_rfl)).choose_spec.2.2.1,(info_parts (show(prog.info? 9).map (fun i=>(i.zero,i.size,i.bytes))=some (some (.string ⟨#[]⟩),1,16) by kernel_rfl)).choose_spec.2.2.2,F⟩,aX⟩
theorem acA(xs:aO)(a:aN)(n c:Nat)(w:World)(u:xs.length=n)(hn:n<=1000)(al:n<=c)(E:∀v∈xs,v.oneCell'=true)(j:aK w a xs):
 Calls prog 119 #[.slice a n c] w fun e w'=>∃v,e= .returned v/\w'.ownsRow w.heap.size 9 1 v n xs/\X w w':=by
 obtain⟨ac,ad,ab,af⟩:=bU j u E MP;have ao:∀(w:World) (a:aN) (n c n' c':Nat),(binOp .eql 98 (.slice a n c) (.slice none n' c')).run prog w= .ok (.bool a.isNone) w:=fun w a n c n' c'=>Lib.run_eql_slice_nil w _ _ a n c n' c' underlying98;cases a with
 |none=>
  have an:xs=[]:=by
   rcases j with h|⟨_,_,h,_⟩
   ·exact h
   ·cases h
  subst an;have ai:n=0:=u.symm;subst ai;clear u E j;go_enter func119,ntmps119;go_wp2;go_ret;exact⟨_,F,⟨F,.inl ⟨F,F⟩⟩,X.refl _⟩
 |some A=>
  clear u E j;go_enter func119,ntmps119;go_wp2_with (refine qB (n:=0) (m:=n) (c:=c) (xs:=[]) (news:=xs) af F _ _ F w.heap.size F F (World.ownsRow_made w #[] 0 bG (Nat.zero_le _) aF) (by have:=ad.out;omega) al (fun h=>by cases h) (ac.ext ((X.refl w).alloc _)) ab J J (by rw[gU];omega) ?_);intro v' aa R I am;have ag:X w aa:=((X.refl w).alloc _).grown I (by intro k hk;simp[Value.ownBlock]at hk;omega);have ae:Hid (aa.ownsRow w.heap.size 9 1 v' n xs):=O (by simpa using R);clear I R am;go_wp2;go_ret;exact⟨v',F,ae,ag⟩
def mY.Own(w:World)(B:Nat)(x:mY):Prop:=w.ownsRow B 9 1 x.m.r.v x.m.r.n (x.m.r.l.map bM)
def mY.p(x:mY):aj×aT:=(x.m.id,x.m.r.l)
theorem MQ{K V U:Type}[DecidableEq K](f:V->U){hs:List (K×V)}(h:(hs.map Prod.fst).Nodup):∀l:List (K×V),(∀x∈l,x∈hs)->(l.map Prod.fst).filterMap (fun q=>(bW hs q).map fun v=>(q,f v))=l.map fun x=>(x.1,f x.2)
 |[],_=>rfl
 |x::l,hl=>by
  rw[map_cons,map_cons,filterMap_cons,xI h (k:=x.1) (v:=x.2) (hl x aF)];exact congrArg ((x.1,f x.2):: ·) (MQ f h l (fun y hy=>hl y (mem_cons_of_mem _ hy)))
theorem acB(p:Nat)(S:aV)(w:World)(h:dJ w p S)(hn:S.ms.length<=65536):
 Calls prog 143 #[.pointer (some ⟨p,0,none⟩)] w fun x w'=>∃v es,x= .returned v/\w'.ownsRow w.heap.size 228 17 v S.ms.length (fU qh es)/\(es.map mY.p).Perm S.p.ms/\es.Pairwise (fun x y=>0<=C9 y x)/\(∀x∈es,x.Own w' w.heap.size/\x.m.r.n<=16/\∀s∈x.m.r.l,s.size<=32)/\X w w':=by
 have ca:=O h;have cM:=h.blk.cell' (aV.mD h.hl h.hf);have a3:=O h.em.nodup;have cy:=O h.em.good;have b3:=O h.mr;obtain⟨cY,bj⟩:=jE (fun x w'=>∃v es,x= .returned v/\w'.ownsRow w.heap.size 228 17 v S.ms.length (fU qh es)/\(es.map mY.p).Perm S.p.ms/\es.Pairwise (fun x y=>0<=C9 y x)/\(∀x∈es,x.Own w' w.heap.size/\x.m.r.n<=16/\∀s∈x.m.r.l,s.size<=32)/\X w w':Ending->World->Prop);rw[<-bj];have cH:=O bj;clear h bj;go_enter func143,ntmps143;go_wp2_with (at_range;refine zZ F 142 29 98 underlying142 _ F F ca.mem ?_);intro cW co cf cU;obtain⟨a9,b0⟩:=aB co cf;clear co cf cM;obtain⟨j,cq⟩:=aC w.heap.size;have ad:=O (show w.heap.size<=j/\j<cW.heap.size by omega);rw[cq]at a9⊢;clear cq cU;go_wp2_with fail;go_loopw [3] (fun v wr=>∃lf es,gJ eX iF.v wr S.gm j S.ms lf/\lf.Nodup/\es.length+lf.length=S.ms.length/\(es.map mY.p++(lf.filterMap fun q=>(bW S.ms q).map fun v=>(q,v.l))).Perm S.p.ms/\wr.ownsRow (j+1) 228 17 v es.length (fU qh es)/\(∀x∈es,x.Own wr (j+1)/\x.m.r.n<=16/\∀s∈x.m.r.l,s.size<=32)/\X w wr) (fun _ wr=>wr.rangeLeft S.gm j)
 case atStart=>
  refine⟨S.ms.map Prod.fst,[],a9,a3,aF,?_,⟨F,.inl ⟨F,F⟩⟩,aF,b0⟩;rw[map_nil,nil_append,MQ (fun v:iF=>v.l) a3.out S.ms (fun _ h=>h)];exact List.Perm.refl _
 case round=>
  obtain⟨lf,es,bt,cl,ch,cn,own,cm,ce⟩:=hrel;obtain⟨a_,cC,a2,b5,R,af,am⟩:=su bt cl ch cn own cm ce;have cT:=bt.qL;clear bt cl ch cn own cm ce a9 b0;go_wp2_with (at_next;refine z_ F (fun x y h=>xJ h) _ F F a_ ?_ ?_)
  ·intro cR;subst cR;have cQ:es.length=S.ms.length:=by have:=a2.out;simpa using this
   go_wp2_with fail;refine(acz R F J).mono ?_;rintro cN w2 ⟨rfl,cg,bp,cr,cs,bi⟩;obtain⟨aw,az,cE,cJ⟩:=bU (am.grown bi (fun q ab=>by have:=(R.lt q ab).1;have:=ad.out;omega)) cs bp cr;have ae:=O (show∀x∈cg,x.Own w2 (j+1)/\x.m.r.n<=16/\∀s∈x.m.r.l,s.size<=32 from fun x hx=>by
    have aa:=af.out x (bp.mem_iff.1 hx);exact⟨(nP.yL R aa.1 aX).keep aa.1 bi,aa.2⟩)
   clear cs bi bp cr R am af;go_wp2_with fail
   (try go_ret)
   rw[cH.out];refine⟨_,cg,F,?_,?_,cJ,fun x hx=>⟨mg (ae x hx).1 (by have:=ad.out;omega),(ae x hx).2⟩,aw⟩
   ·rw[<-cQ];exact mg az (by have:=ad.out;omega)
   ·have:=b5.out;simp only[filterMap_nil,append_nil]at this;exact(cE.map _).trans this
  ·intro id r w2 lf2 ao br ck cp aq ci;obtain⟨cA,b7,a5,a4⟩:=bU (Au cC br) cp ck (show id.length=16 from cy _ ao);obtain⟨b1,b9,cF,cz,aw,b',az,ae⟩:=jg (show(id.map Y).length=16 by rw[length_map];exact a4) ((b3 _ ao)) br (xI a3 ao) (aq.ext am ad.1) (show r.Hi w2 (p+1)from((b3 _ ao).ext am).fF aq.fF (.inr (CW a_))) (um R (qC aq) (fun g bl=>by have:=(R.lt g bl).1;simp;omega)) (show∀x∈es,x.Own w2 (j+1)/\x.m.r.n<=16/\∀s∈x.m.r.l,s.size<=32 from fun x hx=>⟨um (af x hx).1 (qC aq) (fun g bl=>by have:=((af x hx).1.lt g bl).1;simp;omega),(af x hx).2⟩);rw[show iF.v r= .slice r.a r.n r.c from F]at ci⊢;clear ao br cp aq a_ ck R am af;go_upto_region 5 with(refine bg F _ (.tmp 4) _ F F F (ah.aI (vs:=List.replicate 16 (.int .u8 0)) F F) dh aF b1 (b_ id) ?_);intro ar cd cw;have ag:X w2 ar:=cw.ext ((X.refl _).alloc _) bG;obtain⟨bx,a1,cb,a7,ba,b6⟩:=iq cd (aw.ext ag) (dQ az ag) (show∀x∈es,x.Own ar (j+1)/\x.m.r.n<=16/\∀s∈x.m.r.l,s.size<=32 from fun x hx=>⟨dQ (ae x hx).1 ag,(ae x hx).2⟩) (b7.ext ag) (b'.ext ag);have cI:=O ba.lt;clear cd cw ag ci az b7 aw ae b';generalize w2.heap.size=g4 at*;go_upto_region 5 with fail;obtain⟨C,I,aJ⟩:=jJ ar;have bP:C ar:=(I _).2 (X.refl _);have c1:es.length+1<=65536:=by have:=a2.out;have:=a5.out;omega
   refine jQ (W:=[6]) fun Z=> ?_;refine bK 0 ?_;refine k_ 1 F (oC F 29 _ F F (fun bv h=>bx.ext ((I bv).1 h)) dh b1) ?_;refine bK 2 ?_;refine fC 3 ?_;generalize World.drew ar=al at Z⊢;have ax:=O (b6.ext ((I al).1 Z));intro an E;go_wp2_with fail;refine(acA (r.l.map bM) r.a r.n r.c al (by rw[length_map];exact ax.hl) (by have:=ax.n16;omega) ax.nc (fun v cV=>by obtain⟨s,_,rfl⟩:=mem_map.1 cV;rfl) ax.cell.cells).mono ?_;rintro cN ac ⟨v,rfl,bu,u⟩;have bk:=aJ _ _ Z u;obtain⟨be,bh,rfl,c2, -, -⟩:=iJ bu;have cc:=O bu;have cP:w.heap.size<=al.heap.size:=(a1.ext ((I al).1 Z)).size;have cj:j+1<=al.heap.size:=by have aa:=((I al).1 Z).size;have a0:=cI.out;omega
   go_wp2_with fail;refine E _ _ bk ?_;clear E an Z bu u;have Z:=bk;clear bk;refine aH ?_;refine FW 4 F (bf F (fun bv _=>ach (x:=id) (sa:=be) (sn:=r.n) (sc:=bh) (l:=r.l) F F F a4 bv)) ?_;obtain⟨mk,bo⟩:=jE (⟨⟨id,⟨be,r.n,bh,r.l⟩⟩,a4⟩:mY);rw[show lJ.v ⟨id,⟨be,r.n,bh,r.l⟩⟩=qh mk by rw[bo];rfl];obtain⟨b2,a6⟩:=aB (EZ mk) bo;clear bo;refine fC 5 ?_;intro an E;go_wp2_with (refine Cc Ud aX F F F b2 ?_);refine E _ _ (aJ _ _ Z ((X.refl ac).alloc _)) ?_;clear E an;have u:=(I ac).1 Z;have cv:=dQ cb u;obtain⟨bz,bc,a8,b4,bd⟩:=dM (a1.ext u) (ba.ext u) (show∀x∈es,x.Own ac (j+1)/\x.m.r.n<=16/\∀s∈x.m.r.l,s.size<=32 from fun x hx=>⟨dQ (a7 x hx).1 u,(a7 x hx).2⟩) (mg cc cj) cv;clear u cv Z cc cj cP a1 cb ba a7 b6 bx I aJ bP;refine aH ?_;refine iU 6 ?_;intro an E;go_wp2_with (refine qB Ud F _ _ F (j+1) (m:=1) (news:=qh mk) F F (dQ bd ((X.refl _).alloc _)) (by rw[b2.out]) bG (by intro h;cases h) (aK.eG (ah.aI (vs:=qh mk) F F)) (MN mk) J J (by have:=bc.lt;rw[gU];omega) ?_);intro cX bw ct aE _;refine E _ _ trivial ?_;clear E an;refine aH ?_;refine bK 7 ?_;refine jR ?_;have ai:X ac (World.alloc ac (.cells (qh mk).toArray 228)):=(X.refl _).alloc _;have ap:=dQ bd ai;obtain⟨cx,b8⟩:=aB ((bz.ext ai).grown aE (fun q ab=>by have:=(ap.lt q ab).1;have:=ad.out;omega)) ((bc.ext ai).grown aE (fun ab=>by have aa:=(ap.lt _ ab.symm).1;have a0:=ca.mem.lt;have c0:=ad.out;omega) (fun ab=>by have:=(ap.lt j ab.symm).1;omega));have bm:∀x:mY,x.Own ac (j+1)->x.Own bw (j+1):=fun x hx=>(nP.yL ap (dQ hx ai) aX).keep (dQ hx ai) aE;have cD:=O (show∀x∈es++[mk],x.Own bw (j+1)/\x.m.r.n<=16/\∀s∈x.m.r.l,s.size<=32 from fun x hx=>by
    rcases mem_append.1 hx with hx|hx
    ·exact⟨bm x (a8 x hx).1,(a8 x hx).2⟩
    ·rw[mem_singleton.1 hx];have cS:mk.Own ac (j+1):=by rw[a6.out];exact b4
     refine⟨bm mk cS,?_⟩;rw[a6.out];exact⟨b9.n16,b9.sz⟩)
   obtain⟨cL,cG⟩:=aB (show bw.ownsRow (j+1) 228 17 cX (es++[mk]).length (fU qh (es++[mk])) by rw[ML,length_append];exact ct) (show mk.p=(id,r.l) by rw[a6.out];rfl);clear ct aE ai ap bm a8 bc bz bd b4;go_wp2_with fail;go_roundw
   case rel=>
    refine⟨lf2,es++[mk],b8,cA.2,?_,?_,cL,cD,cx⟩
    ·rw[length_append,length_singleton];have:=a2.out;have:=a5.out;omega
    ·have aa:=b5.out;refine List.Perm.trans ?_ aa;rw[map_append,append_assoc];refine List.Perm.append_left _ ?_;have a0:=(cF.filterMap (fun q=>(bW S.ms q).map fun v=>(q,v.l))).symm;rw[filterMap_cons,cz.out]at a0;rw[map_singleton,cG.out];exact a0
   case measure=>rw[b8.qL,cT,a5.out];omega
end
section
open Go Go.RowKit
section
variable {P:Program} {ops:Array Oper} {rest:List Oper} {o:Oper} {a:Act} {w:World} {Q:Exit->Act->World->Prop}
theorem acC{g off:Nat}{vs:aO}{v:Value}{T ty:TypeId}(hb:ah w g vs T)(hs:(P.info? ty).map (·.size)=some 1)(hc:v.cells= #[v])(hn:off<vs.length)(E:v.oneCell'=true):
 (storeVar ty ⟨g,off,none⟩ v).run P w= .ok () (w.setRow g (fV vs off [v]).toArray):=by
 have u:=run_storeCells_at P g off T [v] 0 vs.toArray w hb (by simp;omega) (by simpa using E);cases j:P.info? ty with
 |none=>simp[j]at hs
 |some i=>
  have I:i.size=1:=by simpa[j]using hs
  simp only[Nat.add_zero,toList_toArray]at u;simp[storeVar,sizeOf,typeInfo,j,hc,I,u,fV]
theorem acD{vs:aO}{off:Nat}{v:Value}(h:off<vs.length):fV vs off [v]=vs.set off v:=by
 unfold fV;rw[set_eq_take_append_cons_drop,if_pos h];simp
theorem kY(E:o.guard=none)(ty:TypeId)(x y:Operand)(I:o.op= .store ty x y){g off:Nat}{vs:aO}{v:Value}{T:TypeId}
 (R:a.eval x= .pointer (some ⟨g,off,none⟩))(aa:a.eval y=v)(hb:ah w g vs T)(hs:(P.info? ty).map (·.size)=some 1)(hc:v.cells= #[v])(hn:off<vs.length)(j:v.oneCell'=true)
 (h:∀w',ah w' g (vs.set off v) T->aU w g w'->wpList P ops Q rest (a.put o.dst undef) w'):wpList P ops Q (o::rest) a w:=
 wpList_plain E fun K u=>by
  unfold Oper.wp execOp;simp only[I,R,aa,Instr.storeAt,Instr.sureAddr,Sem.run_bind,Sem.run_pure,Result.andThen_ok,acC hb hs hc hn j];refine u _ _ (h _ ?_ (aU.setRow _));rw[<-acD hn];exact hb.setRow _
end
theorem uM:(prog.info? 3).map (·.size)=some 1:=au
theorem IJ:(prog.info? 98).map (·.size)=some 1:=au
theorem Ue:(prog.info? 99).map (·.size)=some 1:=au
structure jD where
 wait:Int
 act:Int
 bI:Int
 key:Int
 n:Int
 m:Int
def jD.v(a:jD):aO:=[.int .i64 a.wait,.int .i64 a.act,.int .i64 a.bI,.int .i64 a.key,.int .i64 a.n,.int .i64 a.m]
theorem C_:iH prog 103 6:=⟨⟨_,underlying103,F⟩,au⟩
theorem Uf(a:jD):∀v∈a.v,v.oneCell'=true:=by
 intro v j;unfold jD.v at j;simp only[mem_cons,not_mem_nil,or_false]at j;rcases j with rfl|rfl|rfl|rfl|rfl|rfl<;>rfl
structure eF(w0:World)(g3 g4 g5 g6:Nat)(a:jD)(k:bC)(hb:aN)(hn hc:Nat)(hs:List (aj))(w:World):Prop where
 ex:X w0 w
 b3:ah w g3 a.v 103
 b4:ah w g4 dI.v 101
 n4:g4<g5
 Ug:w0.heap.size<=g4
 b6:ah w g6 k.v 159
 ok:k.Ok
 hl:hs.length=hn
 hnc:hn<=hc
 h3:hn<=3
 h16:oP hs
 hcell:bJ w (g5+1) hb (dB hs)
 ge:w0.heap.size<=g5
 bo:∃b:ay,b.Fit/\bJ w (g5+1) b.ra (b.roles.map bM)/\bJ w (g5+1) b.ha (dB b.bH)/\ah w g5 b.v 101
section
variable {w0 w w':World} {g3 g4 g5 g6:Nat} {a:jD} {k:bC} {hb:aN} {hn hc:Nat} {hs:List (aj)}
theorem eF.ext(h:eF w0 g3 g4 g5 g6 a k hb hn hc hs w)(e:X w w'):eF w0 g3 g4 g5 g6 a k hb hn hc hs w':=by
 obtain⟨b,j,u,E,I⟩:=h.bo;exact{h with ex:=h.ex.ext e,b3:=h.b3.ext e,b4:=h.b4.ext e,b6:=h.b6.ext e,hcell:=h.hcell.ext e,bo:=⟨b,j,u.ext e,E.ext e,I.ext e⟩}
theorem eF.fT(h:eF w0 g3 g4 g5 g6 a k hb hn hc hs w):g3≠g5:=by
 intro e;subst e;obtain⟨b,_,_,_,u⟩:=h.bo;have j:=h.b3;unfold ah at u j;rw[u]at j;injection j with j;injection j with _ j _;exact absurd j aX
theorem eF.gD(h:eF w0 g3 g4 g5 g6 a k hb hn hc hs w):g6≠g5:=by
 intro e;subst e;obtain⟨b,_,_,_,u⟩:=h.bo;have j:=h.b6;unfold ah at u j;rw[u]at j;injection j with j;injection j with _ j _;exact absurd j aX
theorem eF.store(h:eF w0 g3 g4 g5 g6 a k hb hn hc hs w)(u:aU w g5 w'){b:ay}(hf:b.Fit)(I:bJ w (g5+1) b.ra (b.roles.map bM))(E:bJ w (g5+1) b.ha (dB b.bH))(j:ah w' g5 b.v 101):eF w0 g3 g4 g5 g6 a k hb hn hc hs w':=
 {h with ex:=u.ext h.ex h.ge,b3:=h.b3.upd u h.fT,b4:=h.b4.upd u (Nat.ne_of_lt h.n4),b6:=h.b6.upd u h.gD,hcell:=h.hcell.upd u (Nat.lt_succ_self _),bo:=⟨b,hf,I.upd u (Nat.lt_succ_self _),E.upd u (Nat.lt_succ_self _),j⟩}
variable {bb:ay}
theorem eF.E5(h:eF w0 g3 g4 g5 g6 a k hb hn hc hs w)(u:aU w g5 w')(hf:bb.Fit)(I:bJ w (g5+1) bb.ra (bb.roles.map bM))(E:bJ w (g5+1) bb.ha (dB bb.bH)){n:Int}(j:ah w' g5 (bb.v.set 51 (.int .i64 n)) 101):eF w0 g3 g4 g5 g6 a k hb hn hc hs w':=by
 rw[ay.D6 bb _ hf.hm hf.hcm]at j;exact h.store u (b:={bb with epoch:=n}) {hf with} I E j
theorem eF.acE(h:eF w0 g3 g4 g5 g6 a k hb hn hc hs w)(u:aU w g5 w')(hf:bb.Fit)(I:bJ w (g5+1) bb.ra (bb.roles.map bM))(E:bJ w (g5+1) bb.ha (dB bb.bH)){n:Int}(j:ah w' g5 (bb.v.set 52 (.int .i64 n)) 101):eF w0 g3 g4 g5 g6 a k hb hn hc hs w':=by
 rw[ay.JY bb _ hf.hm hf.hcm]at j;exact h.store u (b:={bb with purpose:=n}) {hf with} I E j
theorem eF.acF(h:eF w0 g3 g4 g5 g6 a k hb hn hc hs w)(u:aU w g5 w')(hf:bb.Fit)(I:bJ w (g5+1) bb.ra (bb.roles.map bM))(E:bJ w (g5+1) bb.ha (dB bb.bH)){n:Int}(j:ah w' g5 (bb.v.set 53 (.int .i64 n)) 101):eF w0 g3 g4 g5 g6 a k hb hn hc hs w':=by
 rw[ay.JZ bb _ hf.hm hf.hcm]at j;exact h.store u (b:={bb with reason:=n}) {hf with} I E j
theorem eF.acG(h:eF w0 g3 g4 g5 g6 a k hb hn hc hs w)(u:aU w g5 w')(hf:bb.Fit)(I:bJ w (g5+1) bb.ra (bb.roles.map bM))(E:bJ w (g5+1) bb.ha (dB bb.bH)){n:Int}(j:ah w' g5 (bb.v.set 54 (.int .i64 n)) 101):eF w0 g3 g4 g5 g6 a k hb hn hc hs w':=by
 rw[ay.J3 bb _ hf.hm hf.hcm]at j;exact h.store u (b:={bb with need:=n}) {hf with} I E j
theorem eF.Uh(h:eF w0 g3 g4 g5 g6 a k hb hn hc hs w)(u:aU w g5 w')(hf:bb.Fit)(I:bJ w (g5+1) bb.ra (bb.roles.map bM))(E:bJ w (g5+1) bb.ha (dB bb.bH)){n:Int}(j:ah w' g5 (bb.v.set 55 (.int .i64 n)) 101):eF w0 g3 g4 g5 g6 a k hb hn hc hs w':=by
 rw[ay.J4 bb _ hf.hm hf.hcm]at j;exact h.store u (b:={bb with version:=n}) {hf with} I E j
theorem eF.acH(h:eF w0 g3 g4 g5 g6 a k hb hn hc hs w)(u:aU w g5 w')(hf:bb.Fit)(I:bJ w (g5+1) bb.ra (bb.roles.map bM))(E:bJ w (g5+1) bb.ha (dB bb.bH)){n:Int}(j:ah w' g5 (bb.v.set 56 (.int .i64 n)) 101):eF w0 g3 g4 g5 g6 a k hb hn hc hs w':=by
 rw[ay.J5 bb _ hf.hm hf.hcm]at j;exact h.store u (b:={bb with count:=n}) {hf with} I E j
theorem eF.st0(h:eF w0 g3 g4 g5 g6 a k hb hn hc hs w)(u:aU w g5 w')(hf:bb.Fit)(I:bJ w (g5+1) bb.ra (bb.roles.map bM))(E:bJ w (g5+1) bb.ha (dB bb.bH)){s:ByteArray}(j:ah w' g5 (bb.v.set 0 (.string s)) 101)(R:s.size<=140737488355328):eF w0 g3 g4 g5 g6 a k hb hn hc hs w':=
 h.store u (b:={bb with text:=s}) {hf with ts:=R} I E j
theorem eF.MR(h:eF w0 g3 g4 g5 g6 a k hb hn hc hs w)(u:aU w g5 w')(hf:bb.Fit)(I:bJ w (g5+1) bb.ra (bb.roles.map bM))(E:bJ w (g5+1) bb.ha (dB bb.bH)){s:ByteArray}(j:ah w' g5 (bb.v.set 18 (.string s)) 101)(R:s.size<=140737488355328):eF w0 g3 g4 g5 g6 a k hb hn hc hs w':=by
 rw[ay.D5 bb _ hf.hm]at j;exact h.store u (b:={bb with label:=s}) {hf with ls:=R} I E j
theorem eF.Ui(h:eF w0 g3 g4 g5 g6 a k hb hn hc hs w)(u:aU w g5 w')(hf:bb.Fit)(E:bJ w (g5+1) bb.ra (bb.roles.map bM))(j:ah w' g5 (bb.v.set 57 (.slice hb hn hc)) 101):eF w0 g3 g4 g5 g6 a k hb hn hc hs w':=by
 rw[ay.J6 bb _ _ _ hs hf.hm hf.hcm]at j;exact h.store u (b:={bb with ha:=hb,hn:=hn,hc:=hc,bH:=hs}) {hf with hl:=h.hl,hnc:=h.hnc,vZ:=(show hn<=256 from Nat.le_trans h.h3 J),h16:=h.h16} E h.hcell j
theorem eF.IK(h:eF w0 g3 g4 g5 g6 a k hb hn hc hs w)(u:aU w g5 w')(hf:bb.Fit)(ac:bJ w (g5+1) bb.ha (dB bb.bH)){ra:aN}{rn rc:Nat}(rs:aT)(j:ah w' g5 (bb.v.set 17 (.slice ra rn rc)) 101)(E:rs.length=rn)(I:rn<=rc)(R:rn<=256)(aa:∀s∈rs,s.size<=140737488355328)(ab:bJ w (g5+1) ra (rs.map bM)):eF w0 g3 g4 g5 g6 a k hb hn hc hs w':=by
 rw[ay.DZ bb _ _ _ rs hf.hm]at j;exact h.store u (b:={bb with ra:=ra,rn:=rn,rc:=rc,roles:=rs}) {hf with rl:=E,qZ:=I,rm:=R,rs:=aa} ab ac j
theorem eF.x9(h:eF w0 g3 g4 g5 g6 a k hb hn hc hs w)(u:aU w g5 w')(hf:bb.Fit)(R:bJ w (g5+1) bb.ra (bb.roles.map bM))(I:bJ w (g5+1) bb.ha (dB bb.bH)){x:aj}(j:ah w' g5 (fV bb.v 19 (x.map Y)) 101)(E:x.length=32):eF w0 g3 g4 g5 g6 a k hb hn hc hs w':=by
 rw[ay.Gn bb _ hf.hm hf.hcm E]at j;exact h.store u (b:={bb with commit:=x}) {hf with hcm:=E} R I j
theorem eF.st1(h:eF w0 g3 g4 g5 g6 a k hb hn hc hs w)(u:aU w g5 w')(hf:bb.Fit)(R:bJ w (g5+1) bb.ra (bb.roles.map bM))(I:bJ w (g5+1) bb.ha (dB bb.bH)){x:aj}(j:ah w' g5 (fV bb.v 1 (x.map Y)) 101)(E:x.length=16):eF w0 g3 g4 g5 g6 a k hb hn hc hs w':=by
 rw[ay.JX bb _ hf.hm E]at j;exact h.store u (b:={bb with member:=x}) {hf with hm:=E} R I j
end
def E8:aT:=[⟨#[97,108,108,111,119,10]⟩,⟨#[97,108,108,111,119,32,114,111,108,101,32,97,100,109,105,110,10,97,108,108,111,119,32,114,111,108,101,32,117,115,101,114,32,97,99,116,32,117,115,101,32,97,112,112,114,111,118,101,32,111,110,32,97,112,112,42,10]⟩,⟨#[97,108,108,111,119,32,114,111,108,101,32,97,100,109,105,110,32,110,101,101,100,32,49,32,117,115,101,114,10,97,108,108,111,119,32,114,111,108,101,32,117,115,101,114,32,97,99,116,32,117,115,101,10,100,101,110,121,32,97,99,116,32,114,101,118,111,107,101,32,97,116,32,48,45,54,10]⟩,⟨#[97,108,108,111,119,32,114,111,108,101,32,97,100,109,105,110,32,97,99,116,32,112,111,108,105,99,121,32,101,110,114,111,108,108,32,100,105,115,109,105,115,115,32,99,114,101,97,116,101,32,110,101,101,100,32,50,32,117,115,101,114,10,97,108,108,111,119,32,97,99,116,32,114,111,116,97,116,101,32,117,115,101,32,101,115,99,114,111,119,32,114,101,99,111,118,101,114,32,98,97,99,107,117,112,32,111,110,32,97,112,112,42,32,100,98,10,100,101,110,121,32,114,111,108,101,32,117,115,101,114,32,97,99,116,32,114,101,118,111,107,101,10]⟩,⟨#[100,101,110,121,32,97,99,116,32,97,112,112,114,111,118,101,32,114,111,108,101,32,117,115,101,114,10,97,108,108,111,119,32,114,111,108,101,32,97,100,109,105,110,10]⟩,⟨#[97,108,108,111,119,32,97,99,116,32,101,110,114,111,108,108,32,112,111,108,105,99,121,32,99,114,101,97,116,101,32,117,115,101,32,114,111,116,97,116,101,10,97,108,108,111,119,32,97,99,116,32,100,105,115,109,105,115,115,32,114,101,118,111,107,101,32,114,101,115,116,111,114,101,32,110,101,101,100,32,49,32,97,100,109,105,110,10]⟩]
theorem acI:∀s∈E8,s.size<=1000:=by decide+kernel
theorem acJ(w:World):Calls prog 88 #[] w fun x w'=>x= .returned (.slice (some ⟨w.heap.size,0,none⟩) 6 6)/\aK w' (some ⟨w.heap.size,0,none⟩) (E8.map bM)/\X w w':=by
 go_enter func88,ntmps88;go_wp2_with fail;go_ret;exact⟨F,aK.eG (ah.aI (vs:=E8.map bM) F F),(X.refl w).alloc _⟩
theorem acK(x y z:aj)(E:x.length=16)(I:y.length=16)(R:z.length=16)(j:Array Value)(hc:j.size=48):Instr.fill (fun i=>some (i*16,16)) j [(0,.agg (x.map Y).toArray),(1,.agg (y.map Y).toArray),(2,.agg (z.map Y).toArray)]=some (dB [x,y,z]).toArray:=by
 have h:=Great.fill_whole (s:=16) J [.agg (x.map Y).toArray,.agg (y.map Y).toArray,.agg (z.map Y).toArray] j (by intro v u;simp only[mem_cons,not_mem_nil,or_false]at u;rcases u with rfl|rfl|rfl<;>simp[Value.cells,E,I,R]) (by simp[hc]);simpa[Value.cells,dB]using h
theorem acL{ops:Array Oper}{rest:List Oper}{o:Oper}{a:Act}{w:World}{Q:Exit->Act->World->Prop}(aa:o.guard=none){p q r:Operand}{x y z:aj}(ac:o.op= .buildSlice 99 3 #[(0,p),(1,q),(2,r)])(ad:a.eval p= .agg (x.map Y).toArray)(ae:a.eval q= .agg (y.map Y).toArray)(j:a.eval r= .agg (z.map Y).toArray)(af:x.length=16)(ag:y.length=16)(ai:z.length=16)
 (h:wpList prog ops Q rest (a.put o.dst (.slice (some ⟨w.heap.size,0,none⟩) 3 3)) (w.alloc (.cells (dB [x,y,z]).toArray 29))):wpList prog ops Q (o::rest) a w:=by
 obtain⟨am,ab,al,u,an⟩:=info_parts J7;refine wpList_plain aa fun K I=> ?_;have j:(execOp a.eval o).run prog w= .ok (.value (.slice (some ⟨w.heap.size,0,none⟩) 3 3)) (w.alloc (.cells (dB [x,y,z]).toArray 29)):=by
  have h:=run_buildSlice (P:=prog) w 99 29 3 #[(0,.agg (x.map Y).toArray),(1,.agg (y.map Y).toArray),(2,.agg (z.map Y).toArray)] (dB [x,y,z]).toArray am _ underlying99 ab al (by rw[u];omega) (by rw[u];omega) (by rw[u];exact acK x y z af ag ai _ aF);have R:(#[(0,p),(1,q),(2,r)].map fun(p:Nat×Operand)=>(p.1,a.eval p.2))= #[(0,.agg (x.map Y).toArray),(1,.agg (y.map Y).toArray),(2,.agg (z.map Y).toArray)]:=by simp[ad,ae,j]
  unfold execOp;simp only[ac,Sem.run_bind];have E:(Instr.buildSlice 99 3 (#[(0,p),(1,q),(2,r)].map fun(p:Nat×Operand)=>(p.1,a.eval p.2))).run prog w= .ok (.slice (some ⟨w.heap.size,0,none⟩) 3 3) (w.alloc (.cells (dB [x,y,z]).toArray 29)):=by rw[R];exact h
  rw[E];rfl
 unfold Oper.wp;rw[j,Oper.upon_value];exact I _ _ h
theorem bJ.front{w:World}{B:Nat}{a:aN}{xs ys:aO}(h:bJ w B a (xs++ys)):bJ w B a xs:=by
 rcases h with h|⟨b,off,ha,hb,h⟩
 ·exact .inl (append_eq_nil_iff.1 h).1
 ·exact .inr ⟨b,off,ha,hb,fun i u j=>h i u (by rw[List.getElem?_append_left (List.getElem?_eq_some_iff.1 j).1];exact j)⟩
theorem acM(a b:List (aj)):dB (a++b)=dB a++dB b:=by unfold dB;rw[flatten_append,map_append]
theorem bJ.FP{w:World}{B:Nat}{a:aN}{l:List (aj)}(n:Nat)(h:bJ w B a (dB l)):bJ w B a (dB (l.take n)):=by
 rw[<-take_append_drop n l,acM]at h;exact h.front
theorem IL{w:World}{B g:Nat}{xs:aO}{T:TypeId}(h:ah w g xs T)(hb:B<=g):bJ w B (some ⟨g,0,none⟩) xs:=
 .inr ⟨g,0,F,hb,fun i u j=>by rw[Nat.zero_add];exact h.cell' j⟩
end
noncomputable def lK(es:List dW):aj:=es.flatMap fun e=>iZ e.r
noncomputable def rZ(es:List dW):List (aj):=es.map fun e=>dY 1 (iZ e.r)
noncomputable def Az:List dW->Nat->List Int
 |[],_=>[]
 |e::es,b=>((b+(iZ e.r).length:Nat):Int)::Az es (b+(iZ e.r).length)
noncomputable def wV(es:List dW):Int:=match es.getLast? with|none=>0 |some e=>e.time
theorem Uj(es:List dW)(e:dW):lK (es++[e])=lK es++iZ e.r:=by unfold lK;rw[flatMap_append];simp
theorem acN(es:List dW)(e:dW):rZ (es++[e])=rZ es++[dY 1 (iZ e.r)]:=by unfold rZ;rw[map_append];rfl
theorem acO(es:List dW)(e:dW):wV (es++[e])=e.time:=by unfold wV;rw[List.getLast?_append];rfl
theorem acP(es:List dW)(e:dW):∀b,Az (es++[e]) b=Az es b++[((b+(lK es).length+(iZ e.r).length:Nat):Int)]:=by
 induction es with
 |nil=>intro b;unfold lK;simp[Az]
 |cons x es j=>
  intro b;rw[cons_append,Az,Az,j,cons_append];have:(lK (x::es)).length=(iZ x.r).length+(lK es).length:=by unfold lK;rw[flatMap_cons,length_append]
  rw[this,Nat.add_assoc b,Nat.add_assoc b]
theorem oF:∀(es:List dW) (b:Nat),(Az es b).length=es.length
 |[],_=>rfl
 |_::es,b=>by rw[Az,length_cons,length_cons,oF es]
theorem acQ{es:List aG}(h:∀e∈es,e.body.length=e.bn):lK (es.map aG.p)=kG es:=by
 induction es with
 |nil=>rfl
 |cons x es E=>
  have j:=E (fun e u=>h e (mem_cons_of_mem _ u));unfold lK kG at*;rw[map_cons,flatMap_cons,flatMap_cons,j,CB x (h x aF)]
noncomputable def MS(es:List aG):aj:=match es.getLast? with|none=>kN|some e=>ig e
theorem acS{es:List aG}(h:∀e∈es,e.body.length=e.bn):lq (es.map aG.p)=MS es:=by
 unfold lq MS;rw[List.getLast?_map];cases j:es.getLast? with
 |none=>rfl
 |some e=>exact Ii e (h e (mem_of_getLast? j))
def oM(vo ve:Value)(T:Int)(j:aj)(vl:Value):aO:=vo::ve:: .int .i64 T::(j.map Y++[vl])
theorem yZ{vo ve:Value}{T:Int}{j:aj}{vl:Value}(h:j.length=32):(oM vo ve T j vl).length=36:=by unfold oM;simp[h]
theorem Ul{vo ve:Value}{T:Int}{j:aj}{vl:Value}(h:j.length=32):((oM vo ve T j vl).drop 3).take 32=j.map Y:=by
 show((j.map Y++[vl])).take 32=_;rw[take_left' (by rw[length_map,h])]
theorem Um{vo ve:Value}{T:Int}{j:aj}{vl:Value}(h:j.length=32):(oM vo ve T j vl)[35]? =some vl:=by
 unfold oM;show(j.map Y++[vl])[32]? =_;rw[List.getElem?_append_right (by rw[length_map,h];exact Nat.le_refl _),length_map,h];rfl
structure nM(w:World)(B g:Nat)(es:List dW):Prop where
 ex:∃vo ve vl,ah w g (oM vo ve (wV es) (lq es) vl) 117/\w.ownsRow B 5 1 vo (lK es).length ((lK es).map Y)/\w.ownsRow B 3 1 ve es.length ((Az es 0).map lN)/\w.ownsRow B 31 32 vl es.length (dB (rZ es))
 le:B<=w.heap.size
 n:es.length<=65536
 sz:(lK es).length<=32889*es.length
theorem nM.ext{w w':World}{B g:Nat}{es:List dW}(h:nM w B g es)(e:X w w'):nM w' B g es:=by
 obtain⟨vo,ve,vl,j,u,E,I⟩:=h.ex;exact⟨⟨vo,ve,vl,j.ext e,dQ u e,dQ E e,dQ I e⟩,Nat.le_trans h.le e.size,h.n,h.sz⟩
theorem nM.lower{w:World}{B B' g:Nat}{es:List dW}(h:nM w B g es)(hb:B'<=B):nM w B' g es:=by
 obtain⟨vo,ve,vl,j,u,E,I⟩:=h.ex;exact⟨⟨vo,ve,vl,j,mg u hb,mg E hb,mg I hb⟩,Nat.le_trans hb h.le,h.n,h.sz⟩
theorem acT(w:World):Calls prog 20 #[] w fun x w'=>∃g,x= .returned (.pointer (some ⟨g,0,none⟩))/\w.heap.size<=g/\nM w' w.heap.size g []/\X w w':=by
 go_enter func20,ntmps20;go_wp2_with fail;go_ret;exact⟨w.heap.size,F,Nat.le_refl _,⟨⟨_,_,_,ah.aI (vs:=oM (.slice none 0 0) (.slice none 0 0) 0 kN (.slice none 0 0)) F F,⟨F,.inl ⟨F,F⟩⟩,⟨F,.inl ⟨F,F⟩⟩,⟨F,.inl ⟨F,F⟩⟩⟩,by rw[gU];omega,aF,by simp[lK]⟩,(X.refl w).alloc _⟩
theorem acU(B g:Nat)(es:List dW)(w:World)(h:nM w B g es):
 Calls prog 12 #[.pointer (some ⟨g,0,none⟩)] w fun x w'=>x= .returned (.int .i64 (es.length:Int))/\X w w':=by
 obtain⟨vo,ve,vl,j,R,u,aa⟩:=h.ex;obtain⟨E,I,rfl, -, -, -⟩:=iJ u;have ab:=j.cell' (i:=1) (v:= .slice E es.length I) F;clear h j R u aa;go_enter func12,ntmps12;go_wp2_with fail;go_ret;exact⟨F,X.refl _⟩
noncomputable def qO(es:List dW)(e:dW):Int:=if jX e≠0 then jX e else if e.num≠(es.length:Int)then 9 else if e.prev≠lq es then 13 else 0
noncomputable def y5(es:List dW)(e:dW):List dW:=if qO es e=0 then es++[e]else es
theorem acY{vo ve:Value}{T:Int}{j:aj}{vl:Value}(h:j.length=32)(v:Value):(oM vo ve T j vl).set 35 v=oM vo ve T j v:=by
 unfold oM;rw[show 35=32+1+1+1 from F,set_cons_succ,set_cons_succ,set_cons_succ,set_append,if_neg (by rw[length_map,h];omega),length_map,h];rfl
theorem acZ{vo ve:Value}{T:Int}{u j:aj}{vl:Value}(h:u.length=32)(hb:j.length=32):fV (oM vo ve T u vl) 3 (j.map Y)=oM vo ve T j vl:=by
 unfold oM fV;rw[length_map,hb,show 3+32=32+1+1+1 from F,drop_succ_cons,drop_succ_cons,drop_succ_cons,drop_left' (by rw[length_map,h])];simp
theorem ac0{W w:World}{L:List Nat}{b o:Nat}{xs:aO}(k:dV W L w)(hb:b∈L)(h:dP W ⟨b,o,none⟩ xs):dP w ⟨b,o,none⟩ xs:=by
 intro j u I;have E:=h j u I;rw[dn]at E⊢;exact wu E (k.2.2 b hb)
theorem ac1:(prog.info? 32).map (·.size)=some 1:=au
theorem ac2:(prog.info? 106).map (·.size)=some 1:=au
theorem ac3:(prog.info? 59).map (·.size)=some 1:=au
theorem ac4{w:World}{b o B:Nat}{xs:aO}(h:aK w (some ⟨b,o,none⟩) xs)(hb:B<=b):bJ w B (some ⟨b,o,none⟩) xs:=by
 rcases h with h|⟨u,E,e,h⟩
 ·exact .inl h
 ·injection e with e;injection e with j e2 _;subst j e2;exact .inr ⟨b,o,F,hb,h⟩
noncomputable def MV(n:Nat):Array Oper:=xZ f21 n
theorem ac5(B g:Nat)(es:List dW)(e:aG)(w0 w:World)(h:nM w B g es)(c6:e.Ok w)(fk:X w0 w)(c1:w0.heap.size<=B)(b6:w0.heap.size<=g):
 Calls prog 21 #[.pointer (some ⟨g,0,none⟩),.agg e.v.toArray] w fun x w'=>x= .returned (.int .i64 (qO es e.p))/\nM w' B g (y5 es e.p)/\X w0 w':=by
 obtain⟨g9,c2⟩:=jE (fun x w'=>x= .returned (.int .i64 (qO es e.p))/\nM w' B g (y5 es e.p)/\X w0 w':Ending->World->Prop);rw[<-c2];have cc:=O c2.symm;obtain⟨ef,f2,cL,fS⟩:=bU c6 (aG.len c6) h fk;clear h c6 c2 fk;go_enter func21,ntmps21;go_upto_region 1 with fail;generalize c9:World.alloc w _=ar;have fd:ah ar w.heap.size e.v 34:=by rw[<-c9];exact ah.aI F F
 have cg:X w ar:=by rw[<-c9];exact(X.refl w).alloc _
 obtain⟨B0,b8,bo,a7⟩:=bU fd (fS.ext cg) (cL.ext cg) (ef.ext cg);clear c9 fd cg;have ca:=O (show g<w.heap.size by obtain⟨vo,ve,vl,R,_⟩:=cL.ex;exact R.lt);generalize w.heap.size=g3 at*;have f1:=O (show g3<ar.heap.size from B0.lt);clear cL ef;go_wp2_with (refine bV F 34 _ F F B0 cZ f2 ?_);refine(Yw e ar a7).mono ?_;rintro g2 a_ ⟨an,⟨z,v,rfl,ow⟩|⟨z,rfl⟩⟩
 ·have b2:=O z;obtain⟨ct,b9,a6,e1⟩:=bU (B0.ext an) (b8.ext an) (bo.ext an) (a7.ext an);obtain⟨ho,cq,rfl,R,aq,gn,cY⟩:=nT ow;have c7:(iZ e).length=121+e.bn:=GR a7;have hi:e.bn<=32768:=(qy a7 z).2.2.2.2.2.2;have gv:e.num<=65535:=(qy a7 z).2.1;obtain⟨ao,cr,rfl,fw⟩:=cY.gQ (by rw[length_map,c7];omega);obtain⟨eM,cQ⟩:=aB cY (show ar.heap.size<=ao from(ow.lt ao F).1);have f':=O an.size;have eK:=O (show ao<a_.heap.size from by
   have:=fw 0 (Y ((iZ e)[0]'J)) (by rw[List.getElem?_map,List.getElem?_eq_getElem J];rfl);exact block_lt_of_cell this)
  have bk:=O c7;have gf:=O a7.hb;have cT:Hid (∀q vo ve vl,ah a_ g (oM vo ve (wV es) (lq es) vl) 117->vo.ownBlock=some q->q<ar.heap.size):=O (fun q vo ve vl hb ae=>by
   obtain⟨g1,gR,gS,c3,c8,_⟩:=bo.ex;have c4:=c3.ext an;have a2:=c4.cell' (i:=0) F;rw[hb.cell' (i:=0) F]at a2;injection a2 with a2;rw[a2]at ae;exact(c8.lt q ae).2)
  have gd:Hid (∀q vo ve vl,ah a_ g (oM vo ve (wV es) (lq es) vl) 117->ve.ownBlock=some q->q<ar.heap.size):=O (fun q vo ve vl hb ae=>by
   obtain⟨g1,gR,gS,c3,_,c8,_⟩:=bo.ex;have c4:=c3.ext an;have a2:=c4.cell' (i:=1) F;rw[hb.cell' (i:=1) F]at a2;injection a2 with a2;rw[a2]at ae;exact(c8.lt q ae).2)
  clear z an ow gn cY c7 B0 b8 bo a7 fw;have fr:121+e.bn<=cq:=R;have gw:cq<=9223372036854775807:=by unfold maxLen at aq;omega
  clear R aq;go_upto_region 4 with fail;obtain⟨vo,ve,vl,hb,fv,bh,fp⟩:=a6.ex;obtain⟨ch,cj,rfl, -, -, -⟩:=iJ bh;obtain⟨cT,eW,bv,eE,cN,cG,cd⟩:=su (fun q ae=>cT q vo _ vl hb ae) (show∀k,ar.heap.size<=k->(Value.slice ch es.length cj).ownBlock=some k->False from fun k hk h=>by have:=gd.out k vo _ vl hb h;omega) hb fv bh fp (And.intro a6.n (And.intro a6.sz a6.le));obtain⟨N,a3⟩:=aC es.length;have bm:=O a3;obtain⟨a9,cp⟩:=aC (lq es);obtain⟨eo,ap⟩:=aB cp (show a9.length=32 by rw[<-cp];exact Lh es);have f4:=O (show(a9.map Y).length=32 by rw[length_map];exact ap);obtain⟨dc,fy⟩:=aC (wV es);rw[a3]at cN cG eW;rw[cp,fy]at bv;rw[a3]at bv;clear hb fv bh fp a3 cp fy;obtain⟨C,aa,aJ⟩:=jJ a_;have bP:C a_:=(aa _).2 (X.refl _);have bp:∀E,C E->E.cell? ⟨g3,0,none⟩=some (.int .i64 e.num):=fun E R=>(ct.ext ((aa E).1 R)).cell' F;have fh:∀E,C E->E.cell? ⟨g,1,none⟩=some (.slice ch N cj):=fun E R=>(bv.ext ((aa E).1 R)).cell' F;obtain⟨cl,bh⟩:=aC e.num;have cF:=O bh;rw[bh]at bp gv;obtain⟨bn,co⟩:=aC ((cl != (N:Int)):Bool);clear bh;refine fJ (ops:=(MV 4)) fun Z=> ?_;refine aA 0 ?_;refine dA 1 (bp) ?_;refine aA 2 ?_;refine aA 3 ?_;refine aA 4 ?_;refine dA 5 (fh) ?_;refine aA 6 ?_;refine aA 7 ?_;refine dH ?_;have af:=O (X.refl a_ |>.drew);generalize World.drew a_=v2 at Z⊢af;obtain⟨B2,cy,eI,ew,eg,b3,eN,eL⟩:=jg (ct.ext af) (bv.ext af) (dQ eE af) (dQ cN af) (dQ cG af) (e1.ext af) (eM.ext af) (Nat.lt_of_lt_of_le eK af.size);obtain⟨cw,cM,d3⟩:=aW (b9.ext af) (a6.ext af) (Nat.le_trans cd.2.2 af.size);have ga:=O af.size;clear Z aJ aa bP bp fh C ct bv eE cN cG e1 eM eK b9 a6 af
  by_cases a3:cl=(N:Int)
  ·subst a3;have gr:bn=false:=by rw[<-co];simp
   subst gr;have f9:=O (show(e.prev.map Y).length=32 by rw[length_map];exact b3.hp);obtain⟨bs,c5⟩:=aC ((!(e.prev==a9)));obtain⟨f6,eb⟩:=aB (fun E=>(vY underlying31 e.prev a9 b3.hp ap E).trans (by rw[c5])) c5;clear c5 co;go_upto_region 6 with fail;obtain⟨C,aa,aJ⟩:=jJ v2;have bP:C v2:=(aa _).2 (X.refl _);refine fJ (ops:=(MV 6)) fun Z=> ?_;refine aA 0 ?_;refine bD 1 F (bf F (fun E h=>bQ F F (dF (B2.ext ((aa E).1 h)) (aG.BH b3)) bY f9)) ?_;refine aA 2 ?_;refine aA 3 ?_;refine aA 4 ?_;refine bD 5 F (bf F (fun E h=>bQ F F (dF (cy.ext ((aa E).1 h)) (Ul ap)) bY f4)) ?_;refine bD 6 F (bf F (fun E _=>jm F F F EI (fun w=>f6 w) E)) ?_;refine dH ?_;have ag:=O ((aa _).1 Z);generalize World.drew v2=v3 at Z⊢ag;obtain⟨de,d4,eJ,ex,eh,ge,cR,f7⟩:=jg (B2.ext ag) (cy.ext ag) (dQ eI ag) (dQ ew ag) (dQ eg ag) (b3.ext ag) (eN.ext ag) (Nat.lt_of_lt_of_le eL ag.size);obtain⟨cx,el,d5,gc⟩:=bU (cw.ext ag) (cM.ext ag) (Nat.le_trans d3 ag.size) (show a_.heap.size<=v3.heap.size from Nat.le_trans ga ag.size);clear Z aJ aa bP C B2 cy eI ew eg b3 eN eL cw cM d3 ag;cases bs with
   |true=>
    have am:=O (show qO es e.p=13 by
     have R:=eb.out;unfold qO;rw[if_neg (by simpa[xH]using b2.out),if_neg (by show¬e.num≠_;rw[cF.out,bm.out];simp),if_pos];intro h;rw[show e.prev=lq es from h,eo.out]at R;simp at R)
    go_wp2_with fail
    (try go_ret)
    rw[<-cc.out];exact⟨by rw[am.out];rfl,by unfold y5;rw[am.out,if_neg aX];exact el,cx⟩
   |false=>
    have fx:e.prev=a9:=by have R:=eb.out;simpa using R
    have am:=O (show qO es e.p=0 by
     unfold qO;rw[if_neg (by simpa[xH]using b2.out),if_neg (by show¬e.num≠_;rw[cF.out,bm.out];simp),if_neg];show¬e.prev≠lq es;rw[fx,eo.out];simp)
    clear fx;go_wp2_with fail;refine(abT (iZ e) (some ⟨ao,cr,none⟩) (121+e.bn) cq v3 bk J fr (by have:=gw;omega) (by intro h;cases h) cR).mono ?_;rintro g2 dd ⟨rfl,b4⟩;obtain⟨lf,b7⟩:=aC (dY 1 (iZ e));obtain⟨f3,em,en⟩:=aW b7 (show lf.length=32 by rw[<-b7];exact j_ _ _) (show(lf.map Y).length=32 by rw[length_map,<-b7];exact j_ _ _);rw[b7];obtain⟨du,cb⟩:=aB b4 (show ar.heap.size<=dd.heap.size from Nat.le_trans f' (Nat.le_trans gc b4.size));clear b7 b4;go_upto_region 9 with(refine bg F _ (.tmp 7) _ F F F (ah.aI (vs:=List.replicate 32 (.int .u8 0)) F F) bY aF (xs:=lf.map Y) en (b_ lf) ?_);intro hp fe fz;obtain⟨aE,di⟩:=aB (du.ext (fz.ext ((X.refl dd).alloc _) bG)) fe;clear fe fz du;generalize dd.heap.size=hg at*;obtain⟨df,cA,a5,cP,cH,cS,dv,cC⟩:=jg (de.ext aE) (d4.ext aE) (dQ eJ aE) (dQ ex aE) (dQ eh aE) ((ac4 cR cQ).ext aE) (cx.ext aE) (Nat.le_trans d5 aE.size);clear de d4 eJ ex eh ge cR f7 cx el d5 aE;have cf:=cA.cell' (i:=0) F;have hl:(lK es).length<=32889*65536:=by have R:=cd.1;have aq:=cd.2.1;omega
    go_upto_region 12 with(refine sH F _ _ F B (ys:=iZ e) F F a5 bk (by intro h;cases h) cS.cells J cC ?_);intro hv hq db a1;obtain⟨bt,bu,rfl, -, -, -⟩:=iJ db;obtain⟨bx,ey,ei,dg,dj⟩:=dM (cA.besides a5 a1 aX) ((nP.yL a5 cP aX).keep cP a1) ((nP.yL a5 cH aX).keep cH a1) (df.besides a5 a1 aX) (di.besides a5 a1 aX);have eQ:=O (Me cS (fun q ae=> .inr fun A c0=>by
     injection c0 with c0;rw[<-c0];have:=cT.out q ae;have:=cQ.out;show ao≠q;omega) a1)
    obtain⟨e5,dC,d7,bd⟩:=bU db (dv.grown a1 (fun q ae=>Nat.le_trans c1 (a5.lt q ae).1)) (Nat.le_trans cC a1.size) (show g<ar.heap.size from by have R:=ca.out;have aq:=f1.out;omega);clear db a1 cf a5 cA cP cH df di cS dv cC;go_upto_region 12 with(refine kY F _ _ _ F F F bx ac1 F (by rw[yZ ap.out];decide) F ?_);intro aw ac I;obtain⟨bz,ce,ez,cI,dk,dp,eR,dE⟩:=jg (show ah aw g (oM (.slice bt ((lK es).length+(121+e.bn)) bu) (.slice ch N cj) dc a9 vl) 117 from ac) (n_ e5 I bx aX) (n_ ey I bx aX) (n_ ei I bx aX) (dj.upd I (by have R:=cb.out;have aq:=bd.out;omega)) (dg.upd I (by have R:=ca.out;omega)) (eQ.upd I bd) (I.ext dC b6);have d8:=O (show B<=aw.heap.size by rw[I.size];exact d7);clear ac I bx e5 ey ei dj dg eQ dC d7;go_upto_region 12 with fail;obtain⟨L,cn⟩:=aC ((lK es).length+(121+e.bn));rw[cn]at bz ce
    conv=>rw[cn]
    obtain⟨f5,g8⟩:=aB cn (show L<=32889*65536+32889 by omega);clear cn;obtain⟨C,aa,aJ,bP⟩:=iw (show bT aw aw [] [] aw from bT.jA (X.refl _) (dV.none _));have bp:∀E,C E->E.cell? ⟨g,1,none⟩=some (.slice ch N cj):=fun E R=>(bz.ext ((aa E).1 R).base).cell' F;have cf:∀E,C E->E.cell? ⟨g,0,none⟩=some (.slice bt L bu):=fun E R=>(bz.ext ((aa E).1 R).base).cell' F;refine jQ (W:=[11,14]) fun Z=> ?_;refine bK 0 ?_;refine bK 1 ?_;refine bK 2 ?_;refine bK 3 ?_;refine eY 4 (bp) ?_;refine bK 5 ?_;refine bK 6 ?_;refine bK 7 ?_;refine eY 8 (cf) ?_;refine bK 9 ?_;have cX:X aw (World.drew aw):=(X.refl aw).drew;generalize World.drew aw=cs at Z cX⊢;refine fC 10 ?_;intro ad ab;go_wp2_with fail;refine ab _ _ (aJ _ _ Z ((X.refl _).alloc _)) ?_;clear ab ad;generalize bi:World.alloc cs _=ba;have ft:aK ba (some ⟨cs.heap.size,0,none⟩) [.int .i64 (L:Int)]:=by rw[<-bi];exact aK.eG (ah.aI (T:=3) F F)
    have fj:X aw ba:=by rw[<-bi];exact cX.alloc _
    obtain⟨eC,al⟩:=aB ft fj;clear bi ft fj cX Z aJ aa bP bp cf;refine aH ?_;obtain⟨a4,cE⟩:=aB (dQ ez al) (Nat.le_trans d8 al.size);refine iU 11 ?_;intro ad ab;go_wp2_with (refine qB Rz F _ _ F B (m:=1) (news:=[.int .i64 (L:Int)]) F F a4 F bG (by intro h;cases h) eC (by intro v gz;rw[mem_singleton.1 gz];rfl) J J cE ?_);intro hr ai c_ a0 _;obtain⟨ci,ck,rfl, -, -, -⟩:=iJ c_;obtain⟨b0,e6,ej,dl,dt,eS,e3,dT⟩:=jg ((bz.ext al).besides a4 a0 aX) ((nP.yL a4 (dQ ce al) aX).keep (dQ ce al) a0) ((nP.yL a4 (dQ cI al) aX).keep (dQ cI al) a0) ((dk.ext al).besides a4 a0 aX) ((dp.ext al).besides a4 a0 aX) ((eR.ext al).turn (fun k hk gA=>a0.block k gA (fun h=>eW k hk h.symm))) c_ ((dE.ext al).grown a0 (fun q ae=>Nat.le_trans c1 (a4.lt q ae).1));have d':=O (Nat.le_trans cE a0.size);refine ab _ _ trivial ?_;clear ab ad c_ a0 a4 cE eC al bz ce ez cI dk dp eR dE d8;refine aH ?_;refine bK 12 ?_;refine bK 13 ?_;refine iU 14 ?_;intro ad ab;go_wp2_with (refine kY F _ _ _ F F F b0 ac2 F (by rw[yZ ap.out];decide) F ?_);intro ax ac I;obtain⟨cD,e7,e_,ek,dm,cv,eV,d0⟩:=jg (show ah ax g (oM (.slice bt L bu) (.slice ci (N+1) ck) dc a9 vl) 117 from ac) (n_ e6 I b0 aX) (n_ e3 I b0 aX) (n_ ej I b0 aX) (dl.upd I (by have R:=cb.out;have aq:=bd.out;omega)) (dt.upd I (by have R:=ca.out;omega)) (eS.upd I bd) (I.ext dT b6);have ea:=O (show B<=ax.heap.size by rw[I.size];exact d');refine ab _ _ trivial ?_;clear ab ad ac I b0 e6 e3 ej dl dt eS dT d';refine aH ?_;refine jR ?_;go_upto_region 13 with fail;obtain⟨K,fl⟩:∃K,121+e.bn=K+32:=⟨89+e.bn,J⟩
    rw[fl]at fr
    conv=>rw[fl]
    have hh:IntKind.i64.wrap (K:Int)=(K:Int):=IntWalk.i64_in _ J;obtain⟨e0,bc,f0⟩:=aW (show qX (some ⟨ao,cr,none⟩) cq K 1=some ⟨ao,cr+K*1,none⟩ by unfold qX;rw[if_neg J,Option.map_some,dn]) (nZ e) (show((ig e).map Y).length=32 by rw[length_map];exact nZ e);have cJ:=O (show dP ax ⟨ao,cr+K*1,none⟩ ((ig e).map Y)from fun j u gx=>by
     rw[dn];rcases eV.out with h|⟨g',hm,e2,_,h⟩
     ·have R:(iZ e).length=0:=by have:=congrArg List.length h;simpa using this
      have aq:=bk.out;omega
     ·injection e2 with e2;injection e2 with gm b4 _;subst gm b4;have R:=h (K+j) u (by
       have gp:(ny e).length=K:=by
        have R:=bk.out;unfold iZ at R;rw[length_append,nZ]at R;omega
       unfold iZ;rw[map_append,List.getElem?_append_right (by rw[length_map];omega),length_map,gp,Nat.add_sub_cancel_left];exact gx)
      rw[Nat.mul_one,Nat.add_assoc];exact R)
    have f8:=O (show ao<ax.heap.size from by
     have R:=cJ.out 0 (Y ((ig e)[0]'(by rw[nZ];omega))) (by rw[List.getElem?_map,List.getElem?_eq_getElem (by rw[nZ];omega)];rfl);rw[dn]at R;exact block_lt_of_cell R)
    have fo:g≠ao:=by have R:=bd.out;have aq:=cQ.out;omega
    have fn:g≠g3:=by have:=ca.out;omega
    have ep:=O (yZ (vo:= .slice bt L bu) (ve:= .slice ci (N+1) ck) (T:=dc) (vl:=vl) ap);obtain⟨C,aa,aJ,bP⟩:=iw (show bT w0 ax [g3,ao] [(g,36,117)] ax from bT.yw d0 (dV.two cv.lt f8) cD ep);have ff:∀E,C E->E.cell? ⟨g3,1,none⟩=some (.int .i64 e.time):=fun E R=>(((aa E).1 R).blk cv aF).cell' (aG.rH e);refine fJ (ops:=(MV 13)) fun Z=> ?_;refine aA 0 ?_;refine aA 1 ?_;refine aA 2 ?_;refine dA 3 (ff) ?_;refine aA 4 ?_;refine aA 5 ?_;refine aA 6 ?_;refine aA 7 ?_;refine bD 8 F (bf F (fun E _=>Mc (k:=K) e0 F F F underlying32 gu J E)) ?_;refine bD 9 F (bf F (fun E _=>rC (n:=32) F F underlying31 J E)) ?_;refine bD 10 F (bf F (fun E h=>bQ F F (ac0 ((aa E).1 h).kept aF cJ) bY f0)) ?_;refine aA 11 ?_;refine aA 12 ?_;have a8:X ax (World.drew ax):=(X.refl ax).drew;generalize World.drew ax=cs at Z a8⊢;obtain⟨b1,fb,e',et,dr,ed⟩:=iq (cD.ext a8) (dQ e7 a8) (dQ e_ a8) (dQ ek a8) (dm.ext a8) (Nat.le_trans ea a8.size);clear a8 cD e7 e_ ek dm ea cv eV d0 cJ;refine aZ 13 ?_;intro ad ab;go_wp2_with (refine kY F _ _ _ F F F b1 uM F (by rw[yZ ap.out];decide) F ?_);intro ba ac I;have bj:=O (show ah ba g (oM (.slice bt L bu) (.slice ci (N+1) ck) e.time a9 vl) 117 from ac);have be:C ba:=(aa ba).2 (((aa cs).1 Z).store I bj (by simp[yZ ap.out]) b6 (by simp;exact⟨fn,fo⟩));obtain⟨fc,fa,ev,ds,ee⟩:=dM (n_ fb I b1 aX) (n_ e' I b1 aX) (n_ et I b1 aX) (dr.upd I (by have R:=cb.out;have aq:=bd.out;omega)) (show B<=ba.heap.size by rw[I.size];exact ed);go_wp2_with fail;refine ab _ _ be ?_;clear ab ad ac I Z b1 fb e' et dr ed
    have Z:=be;clear be;refine aH ?_;refine aA 14 ?_;refine aA 15 ?_;refine aZ 16 ?_;intro ad ab;go_wp2_with (refine kR F _ _ _ F F F bj (by rw[length_map,bc.out];exact bY) (by rw[length_map,bc.out,yZ ap.out];decide) (b_ _) ?_);intro ai ac I;rw[acZ ap.out bc.out]at ac;have b':=O ac;have be:C ai:=(aa ai).2 (((aa ba).1 Z).store I b' (by simp[yZ bc.out]) b6 (by simp;exact⟨fn,fo⟩));obtain⟨cV,cU,er,dq,ec⟩:=dM (n_ fc I bj aX) (n_ fa I bj aX) (n_ ev I bj aX) (ds.upd I (by have R:=cb.out;have aq:=bd.out;omega)) (show B<=ai.heap.size by rw[I.size];exact ee);go_wp2_with fail;refine ab _ _ be ?_;have d2:=O ((aa ai).1 be).base;clear ab ad ac I Z bj fc fa ev ds ee be;refine aH ?_;refine dH ?_;clear aJ aa bP ff C e0 ep;go_upto_region 14 with fail;obtain⟨C,aa,aJ,bP⟩:=iw (show bT ai ai [] [] ai from bT.jA (X.refl _) (dV.none _));have fg:∀E,C E->E.cell? ⟨g,35,none⟩=some vl:=fun E R=>(b'.ext ((aa E).1 R).base).cell' (Um bc);refine jQ (W:=[7,10]) fun Z=> ?_;refine bK 0 ?_;refine bK 1 ?_;refine bK 2 ?_;refine bK 3 ?_;refine eY 4 (fg) ?_;refine k_ 5 F (oC F 31 _ F F (fun E h=>dq.ext ((aa E).1 h).base) bY en) ?_;have cW:X ai (World.drew ai):=(X.refl ai).drew;generalize World.drew ai=fL at Z cW⊢;refine fC 6 ?_;intro ad ab;go_wp2_with (refine TR F F F em ?_);refine ab _ _ (aJ _ _ Z ((X.refl _).alloc _)) ?_;clear ab ad;generalize bi:World.alloc fL _=fN;have fs:ah fN fL.heap.size (lf.map Y) 31:=by rw[<-bi];exact ah.aI F F
    have fi:X ai fN:=by rw[<-bi];exact cW.alloc _
    obtain⟨eA,az⟩:=aB fs fi;clear bi fs fi cW Z aJ aa bP fg;obtain⟨bl,cz⟩:=aB (dQ er az) (Nat.le_trans ec az.size);refine aH ?_;refine iU 7 ?_;intro ad ab;go_wp2_with (refine TS F _ _ F B F F bl em eA J cz ?_);intro hu hw da br _;obtain⟨gC,gE,rfl, -, -, -⟩:=iJ da;obtain⟨bw,e4,e9,e8,dy,d6⟩:=iq ((b'.ext az).besides bl br aX) ((nP.yL bl (dQ cV az) aX).keep (dQ cV az) br) ((nP.yL bl (dQ cU az) aX).keep (dQ cU az) br) da ((d2.ext az).grown br (fun q ae=>Nat.le_trans c1 (bl.lt q ae).1)) (Nat.le_trans cz br.size);refine ab _ _ trivial ?_;clear ab ad da br bl cz eA az b' cV cU er dq d2 ec;refine aH ?_;refine bK 8 ?_;refine bK 9 ?_;refine iU 10 ?_;intro ad ab;go_wp2_with (refine kY F _ _ _ F F F bw ac3 F (by rw[yZ bc.out];decide) F ?_);intro g7 ac I;rw[acY bc.out]at ac;obtain⟨fW,gg,gl,gh,fR,fX⟩:=iq ac (n_ e4 I bw aX) (n_ e9 I bw aX) (n_ e8 I bw aX) (I.ext dy b6) (show B<=g7.heap.size by rw[I.size];exact d6);refine ab _ _ trivial ?_;clear ab ad ac I bw e4 e9 e8 dy d6;refine aH ?_;refine jR ?_;go_wp2_with fail
    (try go_ret)
    rw[<-cc.out];have hj:(dW.r e.p).bn=e.body.length:=F;have b5:=gf.out;have fm:L=(lK es).length+(iZ e.p.r).length:=by rw[<-f5.out,CB e b5,bk.out]
    refine⟨by rw[am.out];rfl,?_,fR⟩;unfold y5;rw[if_pos am.out];refine⟨⟨.slice bt L bu,.slice ci (N+1) ck,.slice gC (N+1) gE,?_,?_,?_,?_⟩,fX,?_,?_⟩
    ·rw[acO,SC,Ii e b5];exact fW
    ·rw[Uj,length_append,<-fm,CB e b5,map_append];exact gg
    ·rw[length_append,length_singleton,bm.out,acP,map_append,map_singleton,Nat.zero_add,<-fm];exact gl
    ·rw[length_append,length_singleton,bm.out,acN,CB e b5,f3.out];exact gh
    ·rw[length_append,length_singleton,bm.out];omega
    ·rw[Uj,length_append,length_append,length_singleton,CB e b5,bk.out];have:=cd.2.1;omega
  ·have gt:bn=true:=by rw[<-co];simp;exact a3
   subst gt;have am:=O (show qO es e.p=9 by
    unfold qO;rw[if_neg (by simpa[xH]using b2.out),if_pos];show e.num≠_;rw[cF.out,bm.out];exact a3)
   have he:(cl != (N:Int))=true:=co;have hd:decide (cl=(N:Int))=false:=aP a3;go_wp2_with fail
   (try go_ret)
   rw[<-cc.out];exact⟨by rw[am.out];rfl,by unfold y5;rw[am.out,if_neg aX];exact cM,cw⟩
 ·have b2:=O z;have gO:(dN e != 0)=true:=by simp;exact z
  have n2:decide (dN e=0)=false:=aP z;obtain⟨b9,a6⟩:=aB (b8.ext an) (bo.ext an);obtain⟨d1,cm⟩:=aC (dN e);have am:=O (show qO es e.p=d1 by
   unfold qO;rw[if_pos (show jX e.p≠0 from by rw[<-xH];exact z),<-xH,cm])
  have fY:=O (show d1≠0 by rw[<-cm];exact z);rw[cm]at gO n2⊢;clear z an cm b2 B0 b8 bo a7;go_wp2_with fail
  (try go_ret)
  rw[<-cc.out];exact⟨by rw[am.out];rfl,by unfold y5;rw[am.out,if_neg fY.out];exact a6,b9⟩
theorem ac6{l:aj}{p:Nat}{es:List dW}(h:lW l p es)(E:p<l.length)(u:(fQ l p).2.2=0):
 (qO es (fQ l p).1=0->∃q:Nat,(fQ l p).2.1=(q:Int)/\p<q/\lW l q (es++[(fQ l p).1]))/\(qO es (fQ l p).1≠0->nI l=(es,qO es (fQ l p).1)):=by
 obtain⟨_,_,_,_,R⟩:=Lj u;unfold qO;rw[if_neg (by simp[R])];by_cases hn:(fQ l p).1.num≠(es.length:Int)
 ·rw[if_pos hn];exact⟨fun j=>absurd j aX,fun _=>h.order E u hn⟩
 rw[if_neg hn];have I:=Decidable.not_not.1 hn;by_cases hs:(fQ l p).1.prev≠lq es
 ·rw[if_pos hs];exact⟨fun j=>absurd j aX,fun _=>h.seal E u I hs⟩
 rw[if_neg hs];exact⟨fun _=>h.step E u I (Decidable.not_not.1 hs),fun j=>absurd F j⟩
theorem nM.ends{w:World}{B g:Nat}{es:List dW}(h:nM w B g es):∃j u,w.cell? ⟨g,1,none⟩=some (.slice j es.length u):=by
 obtain⟨vo,ve,vl,E,R,I,aa⟩:=h.ex;obtain⟨j,u,rfl, -, -, -⟩:=iJ I;exact⟨j,u,E.cell' (i:=1) F⟩
noncomputable def Un(n:Nat):Array Oper:=xZ f10 n
theorem ac7(l:aj)(a:aN)(n c:Nat)(w:World)(ba:l.length=n)(cj:n<=c)(hn:n<=1000000000)(hc:c<=9223372036854775807)(b0:aK w a (l.map Y)):
 Calls prog 10 #[.slice a n c] w fun x w'=>∃g,x= .returned (.tuple #[.pointer (some ⟨g,0,none⟩),.int .i64 ((nI l).1.length:Int),.int .i64 (nI l).2])/\nM w' w.heap.size g (nI l).1/\w.heap.size<=g/\X w w':=by
 have bp:=O ba;obtain⟨cm,a_⟩:=jE (fun x w'=>∃g,x= .returned (.tuple #[.pointer (some ⟨g,0,none⟩),.int .i64 ((nI l).1.length:Int),.int .i64 (nI l).2])/\nM w' w.heap.size g (nI l).1/\w.heap.size<=g/\X w w':Ending->World->Prop);rw[<-a_];obtain⟨bt,cc⟩:=aB a_ (fun(p:Nat) j (aq:X w j)=>abz l a n c (p:Int) j ba cj J hc (b0.ext aq));clear ba b0 a_;go_enter func10,ntmps10;go_wp2_with fail;refine(acT w).mono ?_;rintro cl co ⟨g,rfl,b2,al,bx⟩;obtain⟨a1,bl,be⟩:=aW b2 al bx;clear b2 al bx;go_wp2_with fail;go_loopw [6] (fun i wr=>∃(p:Nat) (es:List dW),i= .int .i64 (p:Int)/\lW l p es/\nM wr w.heap.size g es/\X w wr) (fun i _=>n - (intOf i).toNat)
 case atStart=>exact⟨0,[],F,lW.start l,bl,be⟩
 case round=>
  obtain⟨p,es,rfl,b4,al,aq⟩:=hrel;obtain⟨a3,ao,am⟩:=aW b4 al aq;clear b4 al aq bl be;by_cases aw:p<n
  ·have bo:=O (show p<l.length by rw[bp.out];exact aw);have cf:decide ((p:Int)<(n:Int))=true:=aQ J;have cg:decide (p<n)=true:=aQ aw;go_wp2_with fail;refine(cc p wr am).mono ?_;rintro cl w2 ⟨e,rfl,bc,b1,e2⟩;have bj:=O b1;have br:=O bc.1;have bm:=O (aG.len bc.1);obtain⟨E,a8⟩:=aC ((fQ l p).2.2);obtain⟨Q,a9⟩:=aC ((fQ l p).2.1);rw[a8,a9];obtain⟨aE,ce,bv,bh⟩:=bU a8 a9 (ao.ext e2) (am.ext e2);clear b1 bc a8 a9 e2 am ao;go_upto_region 5 with(refine bg F _ (.tmp 7) _ F F F (ah.aI (vs:=dS.v) F F) cZ (aG.len (EJ w)) bm (i_ e) ?_);intro b9 bw b8;have ar:X w2 b9:=b8.ext ((X.refl _).alloc _) bG;obtain⟨ax,ap,an,a4⟩:=bU bw (bv.ext ar) (bh.ext ar) (br.ext ar);clear bw b8 ar bv bh br;generalize w2.heap.size=cn at*;go_upto_if 23 with fail;go_cut [9] (fun v wx=>∃R:Int,v= .int .i64 R/\(R=0->∃q:Nat,Q=(q:Int)/\p<q/\lW l q (es++[e.p])/\nM wx w.heap.size g (es++[e.p]))/\(R≠0->nI l=(es,R)/\nM wx w.heap.size g es)/\X w wx)
   case first=>
    by_cases ae:E=0
    ·have bu:=O (ac6 a3 bo (aE.trans ae));subst ae;go_wp2_with (refine bV F 34 _ F F ax cZ bm ?_);refine(ac5 w.heap.size g es e w b9 ap a4 an bG a1).mono ?_;rintro cq cp ⟨rfl,b3,bz⟩;obtain⟨bk,ca⟩:=aB b3 bz;clear b3 bz;go_wp2_with fail;go_meet;refine⟨_,F,fun h=> ?_,fun h=> ?_,ca⟩
     ·have hs:=bu.out;rw[<-bj.out]at hs;obtain⟨q,u,ac,ad⟩:=hs.1 h;refine⟨q,ce.symm.trans u,ac,ad,?_⟩;have ab:=bk.out;unfold y5 at ab;rw[if_pos h]at ab;exact ab
     ·have hs:=bu.out;rw[<-bj.out]at hs;refine⟨hs.2 h,?_⟩;have ab:=bk.out;unfold y5 at ab;rw[if_neg h]at ab;exact ab
    ·have aa:=O (a3.bad bo (by rw[aE.out];exact ae));have ch:(E==0)=false:=by simp;exact ae
     have ci:decide (E=0)=false:=aP ae;go_wp2_with fail;go_meet;exact⟨E,F,fun h=>absurd h ae,fun _=>⟨by rw[aa.out,aE.out],ap⟩,an⟩
   case rest=>
   obtain⟨R,rfl,u,ac,ad⟩:=hcut;obtain⟨b',bd⟩:=aC wc;rw[bd]at u ac ad⊢;have bi:=O ad;by_cases hF:R=0
   ·obtain⟨q,ck,b6,b5,af⟩:=u hF;subst hF;subst ck;obtain⟨cd,cb,a2⟩:=aW b6 b5 af;clear bd wc u ac ad b6 b5 af ap ax a4 an;go_wp2_with fail;go_roundw
    case rel=>exact⟨q,es++[e.p],F,cb,a2,bi⟩
    case measure=>simp[intOf];have:=cd.out;omega
   ·obtain⟨b7,af⟩:=ac hF;obtain⟨aa,a2⟩:=aB b7 af;obtain⟨a6,a7,ai⟩:=af.ends;have ag:=O ai;have ch:(R != 0)=true:=by simp;exact hF
    have ci:decide (R=0)=false:=aP hF;clear bd wc u ac ad b7 af ai ap ax a4 an;go_upto_region 8 with fail;obtain⟨C,I,aJ⟩:=jJ b';have bP:C b':=(I _).2 (X.refl _);have a5:∀j,C j->j.cell? ⟨g,1,none⟩=some (.slice a6 es.length a7):=fun j u=>by rw[((I j).1 u).cell (block_lt_of_cell ag)];exact ag
    refine fJ (ops:=(Un 8)) fun Z=> ?_;refine aA 0 ?_;refine aA 1 ?_;refine aA 2 ?_;refine aA 3 ?_;refine dA 4 (a5) ?_;refine aA 5 ?_;refine aA 6 ?_;refine aA 7 ?_;refine aA 8 ?_;refine aA 9 ?_;refine dH ?_;obtain⟨a0,az⟩:=aB (a2.ext ((I _).1 Z)) (bi.ext ((I _).1 Z));go_wp2_with fail;refine bodyPost_ret (results_tmp3 F _ _ _) F ?_;rw[bt.out];refine⟨g,by rw[aa.out];rfl,?_,a1,az⟩;rw[aa.out];exact a0
  ·have cf:decide ((p:Int)<(n:Int))=false:=aP J;have cg:decide (p<n)=false:=aP aw;have aa:=O (a3.fin (by rw[bp.out];exact aw));obtain⟨a6,a7,ai⟩:=ao.ends;have ag:=O ai;clear ai;go_upto_region 10 with fail;obtain⟨C,I,aJ⟩:=jJ wr;have bP:C wr:=(I _).2 (X.refl _);have a5:∀j,C j->j.cell? ⟨g,1,none⟩=some (.slice a6 es.length a7):=fun j u=>by rw[((I j).1 u).cell (block_lt_of_cell ag)];exact ag
   refine fJ (ops:=(Un 10)) fun Z=> ?_;refine aA 0 ?_;refine aA 1 ?_;refine aA 2 ?_;refine aA 3 ?_;refine dA 4 (a5) ?_;refine aA 5 ?_;refine aA 6 ?_;refine aA 7 ?_;refine aA 8 ?_;refine dH ?_;obtain⟨a0,az⟩:=aB (ao.ext ((I _).1 Z)) (am.ext ((I _).1 Z));go_wp2_with fail;refine bodyPost_ret (results_tmp3 F _ _ _) F ?_;rw[bt.out];refine⟨g,by rw[aa.out];rfl,?_,a1,az⟩;rw[aa.out];exact a0
def ac8:Go.Shelf.Ren:=⟨fun|6=>145 |15=>176 |14=>201 |28=>223 |29=>224 |20=>259 |21=>260 |22=>261 |23=>262 |24=>263 |25=>264 |26=>265 |27=>266 |46=>319 |47=>286 |48=>287 |49=>320 |50=>321 |57=>343 |n=>n,fun|22=>230 |24=>232 |25=>236 |3=>3 |39=>141 |0=>0 |53=>239 |55=>246 |4=>4 |46=>314 |45=>313 |50=>82 |5=>5 |9=>9 |66=>360 |70=>364 |76=>389 |77=>390 |n=>n,fun|n=>n⟩
theorem ac9:Go.Proofs.SlLaysF0.n6 prog ac8:=by repeat' first|kernel_rfl|(intro _;kernel_rfl)|exact MJ au au|constructor
section
open Go Go.RowKit Go.Shelf Go.Sort
theorem ada(x y:aj)(w:World)(hx:x.length=32)(R:y.length=32):
 Calls prog 148 #[.agg (x.map Y).toArray,.agg (y.map Y).toArray] w fun e w'=>e= .returned (.int .i64 (eH x y))/\iT w w':=by
 obtain⟨ad,ae⟩:=aB hx R;clear hx R;go_enter func148,ntmps148;go_upto_region 1 with fail;generalize u:World.alloc (World.alloc w _) _=j;have aa:ah j w.heap.size (x.map Y) 30:=by rw[<-u];exact(ah.aI F F).alloc _
 have ab:ah j (w.heap.size+1) (y.map Y) 30:=by rw[<-u];exact ah.aI aF F
 have E:iT w j:=by rw[<-u];exact((iT.refl w).alloc _).alloc _
 obtain⟨hb,ac⟩:=aB (fun n=>JK x y ⟨w.heap.size,0,none⟩ ⟨w.heap.size+1,0,none⟩ 32 32 32 32 (j.drewN n) ad ae (Bg aa.drewN) (Bg ab.drewN)) E;clear u aa ab E;refine wp_region_held_drew (S:=fun w'=>∃n,w'=j.drewN n) au ⟨1,F⟩ (fun Z=> ?_);refine aA 0 ?_;refine aA 1 ?_;refine aZ 2 ?_;intro af I;obtain⟨nq,ag⟩:=Z;generalize j.drew=ai at*;subst ag;go_wp2_with fail;refine(hb nq).mono ?_;rintro e w' ⟨rfl,rfl⟩;go_wp2_with fail;refine I _ _ ⟨nq,F⟩ ?_;clear I af;have Z:∃n,j.drewN nq=j.drewN n:=⟨nq,F⟩;refine aH ?_;refine aA 3 ?_;refine dH ?_;go_wp2_with fail;go_ret;exact⟨F,ac.drewN nq⟩
theorem adb(a b:Int)(g:Nat)(w:World)(hb:ah w g [.int .i64 a,.int .i64 b] 3):
 Calls prog 147 #[.slice (some ⟨g,0,none⟩) 2 2] w fun e w'=>e= .returned (.int .i64 (if a≠0 then a else b))/\w=w':=by
 have R:=hb.cell' (i:=0) F;have k1:=hb.cell' (i:=1) F;clear hb;by_cases ha:a=0
 ·subst ha;have j:((0:Int) != 0)=false:=F;by_cases hb:b=0
  ·subst hb;go_enter func147,ntmps147;go_wp2;go_loopw [5,8] (fun _ x wr=>∃i:Nat,i<=2/\x= .int .i64 i/\w=wr) (fun _ x _=>2 - (intOf x).toNat)
   case atStart=>exact⟨0,J,F,F⟩
   case round=>
    obtain⟨i,E,rfl,rfl⟩:=hrel;rcases(show i=0∨i=1∨i=2 by omega)with rfl|rfl|rfl
    ·go_wp2;go_roundw
     case rel=>exact⟨1,J,by first|rfl|trivial,by first|rfl|trivial⟩
     case measure=>simp[intOf]
    ·go_wp2;go_roundw
     case rel=>exact⟨2,J,by first|rfl|trivial,by first|rfl|trivial⟩
     case measure=>simp[intOf]
    ·go_wp2
     (try go_ret)
     exact⟨F,F⟩
  ·have I:(b != 0)=true:=by simp;exact hb
   have u:decide (b=0)=false:=aP hb;go_enter func147,ntmps147;go_wp2;go_loopw [5,8] (fun _ x wr=>∃i:Nat,i<=1/\x= .int .i64 i/\w=wr) (fun _ x _=>2 - (intOf x).toNat)
   case atStart=>exact⟨0,J,F,F⟩
   case round=>
    obtain⟨i,E,rfl,rfl⟩:=hrel;rcases(show i=0∨i=1 by omega)with rfl|rfl
    ·go_wp2;go_roundw
     case rel=>exact⟨1,J,by first|rfl|trivial,by first|rfl|trivial⟩
     case measure=>simp[intOf]
    ·go_wp2
     (try go_ret)
     exact⟨F,F⟩
 ·have j:(a != 0)=true:=by simp;exact ha
  have u:decide (a=0)=false:=aP ha;rw[if_pos ha];go_enter func147,ntmps147;go_wp2;go_loopw [5,8] (fun _ x wr=>x= .int .i64 0/\w=wr) (fun _ x _=>2 - (intOf x).toNat)
  case atStart=>exact⟨F,F⟩
  case round=>
   obtain⟨rfl,rfl⟩:=hrel;go_wp2
   (try go_ret)
   exact⟨F,F⟩
theorem ade:∀{a b:aj} (c d:aj),a.length=b.length->eH (a++c) (b++d)=if eH a b≠0 then eH a b else eH c d:=by
 intro a;induction a with
 |nil=>
  intro b c d h;have:b=[]:=length_eq_zero_iff.1 h.symm;subst this;rw[Js];rfl
 |cons x a I=>
  intro b c d h;cases b with
  |nil=>simp at h
  |cons y b=>
   have E:a.length=b.length:=by simpa using h
   have hc:=I c d E;unfold eH at hc⊢;simp only[cons_append,Lib.compareBytes]at hc⊢;by_cases j:x<y
   ·simp[j]
   ·by_cases u:y<x
    ·simp[j,u]
    ·simp only[j,u,if_false];exact hc
structure iD where
 r:nK
 ha:r.ask.length=32
 hw:r.who.length=16
instance:Inhabited iD:=⟨⟨nK.zero,F,F⟩⟩
def o9(x:iD):aO:=x.r.v
theorem IQ(x:iD):(o9 x).length=50:=by unfold o9 nK.v;simp[x.ha,x.hw]
theorem MW(x:iD):∀v∈o9 x,v.oneCell'=true:=by
 intro v j;unfold o9 nK.v at j;rcases mem_append.1 j with h|h
 ·exact b_ _ v h
 rcases mem_append.1 h with h|h
 ·exact b_ _ v h
 simp only[mem_cons,not_mem_nil,or_false]at h;rcases h with rfl|rfl<;>rfl
def yc(x y:iD):Int:=if eH x.r.ask y.r.ask≠0 then eH x.r.ask y.r.ask else eH x.r.who y.r.who
theorem Uo(x y:iD):yc x y=eH (x.r.ask++x.r.who) (y.r.ask++y.r.who):=(ade _ _ (x.ha.trans y.ha.symm)).symm
theorem MX(x y:iD):ltOf yc x y=qp (x.r.ask++x.r.who) (y.r.ask++y.r.who):=by
 unfold ltOf qp;rw[Uo]
theorem adf:Sort.SWO (ltOf yc) where
 irrefl x:=by rw[MX];exact Ju _
 trans x y z h1 h2:=by rw[MX]at*;exact FT h1 h2
 ntrans x y z h1 h2:=by rw[MX]at*;exact Jv h1 h2
theorem Ur:iH prog 232 50:=⟨⟨_,underlying232,F⟩,au⟩
theorem iD.MZ(x:iD):(x.r.v.drop 0).take 32=x.r.ask.map Y:=by
 unfold nK.v;rw[drop_zero,take_left' (by rw[length_map,x.ha])]
theorem iD.M_(x:iD):(x.r.v.drop 32).take 16=x.r.who.map Y:=by
 unfold nK.v;rw[drop_left' (by rw[length_map,x.ha]),take_left' (by rw[length_map,x.hw])]
theorem adg(x y:iD)(w:World):Calls prog 146 #[.agg (o9 x).toArray,.agg (o9 y).toArray] w fun e w'=>e= .returned (.int .i64 (yc x y))/\iT w w':=by
 obtain⟨a4,a5,aE,a1,a0,a2,a7,a9⟩:=jg (fun w=>ada x.r.ask y.r.ask w x.ha y.ha) (fun w=>Gg x.r.who y.r.who w x.hw y.hw) (iD.MZ x) (iD.MZ y) (iD.M_ x) (iD.M_ y) (show(x.r.ask.map Y).length=32 by rw[length_map];exact x.ha) (show(y.r.ask.map Y).length=32 by rw[length_map];exact y.ha);obtain⟨a8,a_,a6⟩:=aW (show(x.r.who.map Y).length=16 by rw[length_map];exact x.hw) (show(y.r.who.map Y).length=16 by rw[length_map];exact y.hw) (show yc x y=(if eH x.r.ask y.r.ask≠0 then eH x.r.ask y.r.ask else eH x.r.who y.r.who)from F);generalize yc x y=ba at*;generalize eH x.r.ask y.r.ask=ai at*;generalize eH x.r.who y.r.who=al at*;go_enter func146,ntmps146;go_upto_region 1 with(fail);generalize ab:World.alloc (World.alloc w _) _=R;have aw:ah R w.heap.size x.r.v 232:=by rw[<-ab];exact(ah.aI F F).alloc _
 have ax:ah R (w.heap.size+1) y.r.v 232:=by rw[<-ab];exact ah.aI aF F
 have az:Hid (iT w R):=by rw[<-ab];exact O (((iT.refl w).alloc _).alloc _)
 obtain⟨am,an⟩:=aB aw ax;clear ab aw ax;obtain⟨C,ao⟩:=jE (fun w'=>iT R w':World->Prop);have ap:∀w',C w'↔iT R w':=fun w'=>by rw[ao]
 clear ao;have j:=O ap;clear ap;have bP:C R:=(j _).2 (iT.refl _);refine wp_region_held_drew (S:=C) au ((j _).2 ((iT.refl _).drewN 1)) (fun Z=> ?_);refine aA 0 ?_;refine bD 1 F (bf F (fun E h=>bQ F F (dF (am.ext ((j E).1 h).ext) aE) bY a7)) ?_;refine aA 2 ?_;refine bD 3 F (bf F (fun E h=>bQ F F (dF (an.ext ((j E).1 h).ext) a1) bY a9)) ?_;refine aA 5 ?_;refine bD 6 F (bf F (fun E h=>bQ F F (dF (am.ext ((j E).1 h).ext) a0) dh a8)) ?_;refine aA 7 ?_;refine bD 8 F (bf F (fun E h=>bQ F F (dF (an.ext ((j E).1 h).ext) a2) dh a_)) ?_;generalize R.drew=E at Z⊢;refine aZ 4 ?_;intro I u;go_wp2_with fail;refine(a4 E).mono ?_;rintro e w2 ⟨rfl,aq⟩;have ad:C w2:=(j _).2 (((j _).1 Z).trans aq);go_wp2_with fail;refine u _ _ ad ?_;clear u I Z aq;refine aH ?_;refine aZ 9 ?_;intro I u;go_wp2_with fail;refine(a5 w2).mono ?_;rintro e ac ⟨rfl,ar⟩;have aa:C ac:=(j _).2 (((j _).1 ad).trans ar);go_wp2_with fail;refine u _ _ aa ?_;clear u I ad ar;refine aH ?_;refine aZ 10 ?_;intro I u;go_wp2_with fail;refine u _ _ ((j _).2 (((j _).1 aa).alloc _)) ?_;clear u I;generalize af:World.alloc ac _=ag;have a3:ah ag ac.heap.size [.int .i64 ai,.int .i64 al] 3:=by rw[<-af];exact ah.aI F F
 have ae:C ag:=by rw[<-af];exact(j _).2 (((j _).1 aa).alloc _)
 clear af aa;refine aH ?_;refine aZ 11 ?_;intro I u;go_wp2_with fail;refine(adb ai al ac.heap.size ag a3).mono ?_;rintro e bc ⟨rfl,rfl⟩;rw[<-a6.out];go_wp2_with fail;refine u _ _ ae ?_;clear u I;have Z:=ae;refine aH ?_;refine aA 12 ?_;refine dH ?_;go_wp2_with fail;go_ret;exact⟨F,az.trans ((j _).1 ae)⟩
theorem adh:∀j w,(callFunc 146 j).run prog w= .ok (.enter 146 j) w:=enters_of func146 au F
theorem adi{w:World}{B n:Nat}{v:Value}{j:List iD}(own:w.ownsRow B 232 50 v n (fU o9 j))(hn:j.length=n)(u:n<4611686018427387904):
 Calls prog 145 #[v,.func (.func 146) #[] #[]] w fun x w'=>x= .returned (.tuple #[])/\∃es,es.Perm j/\es.Pairwise (fun x y=>¬yc y x<0)/\w'.ownsRow B 232 50 v n (fU o9 es)/\w.grownBy w' v.ownBlock:=
 MI ac9 isAgg232 sizeOf232 IQ MW yc adf _ adg adh own hn u
theorem Us:pO prog 230 232 50 80:=⟨underlying230,⟨_,_,(info_parts EY).choose_spec.1,(info_parts EY).choose_spec.2.1,(info_parts EY).choose_spec.2.2.1,(info_parts EY).choose_spec.2.2.2,F⟩,aX⟩
end
def IU(j u:Int)(last:aj):aj:=[99,111,117,110,116,32]++Lib.itoa j++[32,116,105,109,101,32]++Lib.itoa u++[32,108,97,115,116,32]++aD last++[10]
def Na(ji:aj):aj:=[102,111,117,110,100,101,114,32]++aD ji++[10]
noncomputable def IV(rs:List aS):aj:=[112,111,108,105,99,121,32]++aD (dY 0 (lI rs rs.length))++[10]
def Dc(m:aj×aT):aj:=Lib.join ([109,101,109,98,101,114]::aD m.1::m.2.map (·.data.toList)) [32]++[10]
def Df(k:bC):aj:=[107,101,121,32]++aD k.key++[32]++k.label.data.toList++[32]++Lib.itoa k.epoch++[32]++aD k.commit++[32]++Lib.itoa (if k.rev then 1 else 0)++[32]++Lib.itoa k.esc++[32]++aD k.shared++[10]
def Dh(r:aj×(aj×(aT×Int))):aj:=Lib.join ([97,112,112,114,111,118,97,108]::aD r.1::aD r.2.1::Lib.itoa r.2.2.2::r.2.2.1.map (·.data.toList)) [32]++[10]
def uN(A:List (aj×List (aj×(aT×Int)))):List (aj×(aj×(aT×Int))):=A.flatMap fun x=>x.2.map fun y=>(x.1,y)
noncomputable def Ut(S:dw)(j:List (aj×aT))(ks:List bC)(rs:List (aj×(aj×(aT×Int)))):aj:=
 IU S.cnt S.tm S.last++(if 0<S.cnt then Na S.ji else[])++(match S.pol with|none=>[]|some q=>IV q)++j.flatMap Dc++ks.flatMap Df++rs.flatMap Dh
structure Nb(S:dw):Prop where
 m:S.ms.length<=65536
 k:S.ks.length<=65536
 r:(uN S.av).length<=65536
structure Nc(S:dw)(t:aj):Prop where
 ex:∃ms ks rs,ms.Perm S.ms/\ms.Pairwise (fun x y=>0<=eH y.1 x.1)/\ks.Perm (S.ks.map Prod.snd)/\ks.Pairwise (fun x y=>0<=eH y.key x.key)/\rs.Perm (uN S.av)/\
  rs.Pairwise (fun x y=>0<=eH (y.1++y.2.1) (x.1++x.2.1))/\t=Ut S ms ks rs
theorem Uu(x:aj)(l:List (aj))(N:Nat)(j:∀y∈l,y.length<=N):(Lib.join (x::l) [32]).length<=x.length+l.length*(N+1):=by
 induction l generalizing x with
 |nil=>simp[Lib.join]
 |cons y l E=>
  have I:=E y (fun z u=>j z (mem_cons_of_mem _ u));have R:=j y aF;have e:Lib.join (x::y::l) [32]=x++[32]++Lib.join (y::l) [32]:=by simp[Lib.join]
  rw[e];simp only[length_append,length_cons,length_nil,Nat.succ_mul,Nat.add_mul]at*;omega
theorem adk(s:ByteArray):aY s.data.toList=s:=by
 apply ByteArray.ext;simp[aY]
section
open Go Go.RowKit
section
variable {K V:Type} [DecidableEq K]
theorem Uw(hs:List (K×V))(k:K)(v:V):(dU hs k v).length<=hs.length+1:=by
 unfold dU;split<;>simp
theorem Ux(hs:List (K×V))(k:K):(iQ hs k).length<=hs.length:=(BP hs k).length_le
def vn{U:Type}(A:List (K×List U)):Nat:=(A.map fun x=>x.2.length).sum
theorem adl{U:Type}{A B:List (K×List U)}(h:A.Sublist B):vn A<=vn B:=by
 induction h with
 |slnil=>exact Nat.le_refl _
 |cons x _ j=>unfold vn at*;rw[map_cons,sum_cons];omega
 |cons_cons x _ j=>unfold vn at*;rw[map_cons,sum_cons,map_cons,sum_cons];omega
theorem Nh{U:Type}(f:List U->List U)(hf:∀l,(f l).length<=l.length):∀A:List (K×List U),vn (A.map fun y=>(y.1,f y.2))<=vn A
 |[]=>Nat.le_refl _
 |x::A=>by
  have h1:=Nh f hf A;have j:=hf x.2;unfold vn at*;rw[map_cons,map_cons,sum_cons,map_cons,sum_cons];exact Nat.add_le_add j h1
theorem Uy{U:Type}{x y:K×List U}:∀{A:List (K×List U)} {i:Nat},A[i]? =some x->vn (A.set i y)+x.2.length=vn A+y.2.length
 |[],i,h=>by simp at h
 |z::A,0,h=>by
  have e:z=x:=by simpa using h
  subst e;unfold vn;rw[set_cons_zero,map_cons,sum_cons,map_cons,sum_cons];omega
 |z::A,i+1,h=>by
  have j:=Uy (y:=y) (A:=A) (i:=i) (by simpa using h);unfold vn at*;rw[set_cons_succ,map_cons,sum_cons,map_cons,sum_cons];omega
theorem adn{M U:Type}[DecidableEq M](A:List (K×List (M×U)))(k:K)(m:M)(u:U):vn (dU A k (dU ((bW A k).getD []) m u))<=vn A+1:=by
 cases h:jq k A with
 |none=>
  have e:bW A k=none:=by unfold bW;rw[h]
  rw[e,Option.getD_none];unfold dU;rw[h];unfold vn;rw[map_append,sum_append];exact Nat.le_refl _
 |some i=>
  obtain⟨l,E⟩:=zX h;have e:bW A k=some l:=by unfold bW;rw[h];show(A[i]?).map _=_;rw[E];rfl
  rw[e,Option.getD_some];have I:=Uw l m u;generalize dU l m u=j at I;unfold dU;rw[h];show vn (A.set i (k,j))<=_;have R:=Uy (y:=(k,j)) E;have aa:((k,l):K×List (M×U)).2.length=l.length:=F;have ab:((k,j):K×List (M×U)).2.length=j.length:=F;omega
end
theorem ado(A:List (aj×List (aj×(aT×Int)))):(uN A).length=vn A:=by
 induction A with
 |nil=>rfl
 |cons x A j=>
  unfold uN vn at*;rw[flatMap_cons,length_append,length_map,map_cons,sum_cons,j]
theorem adp(S:dw)(e:aG)(x:bZ):(S.act e x).cnt=S.cnt/\(S.act e x).ms.length<=S.ms.length+1/\(S.act e x).ks.length<=S.ks.length+1/\vn (S.act e x).av<=vn S.av+1:=by
 have j:vn (S.av.map fun y=>(y.1,iQ y.2 x.member))<=vn S.av:=Nh _ (fun l=>Ux l _) S.av;have hs:=adn S.av x.commit e.bI ((bW S.ms e.bI).getD [],e.time);unfold dw.act;dsimp only
 repeat' split
 all_goals refine⟨F,?_,?_,?_⟩
 all_goals first|exact Nat.le_succ _|exact Uw _ _ _|exact Nat.le_succ_of_le (Ux _ _)|exact Nat.le_succ_of_le j|exact hs
theorem Uz(S:dw)(e:aG):(S.next e).cnt=S.cnt+1/\(S.next e).ms.length<=S.ms.length+1/\(S.next e).ks.length<=S.ks.length+1/\vn (S.next e).av<=vn S.av+1/\(S.next e).last=ig e/\(S.next e).tm=e.time:=by
 have h:=adp {S with ji:=if S.cnt=0 then e.bI else S.ji} e (mO e);generalize j:dw.act {S with ji:=if S.cnt=0 then e.bI else S.ji} e (mO e)=T at h;unfold dw.next;dsimp only;rw[j];refine⟨F,h.2.1,h.2.2.1,?_,F,F⟩;refine Nat.le_trans (Nh _ (fun l=>length_filter_le _ _) _) (Nat.le_trans ?_ h.2.2.2);split
 ·exact adl (BP _ _)
 ·exact Nat.le_refl _
theorem o_.sz{es:List aG}{S:dw}(h:o_ es S):S.cnt=es.length/\S.ms.length<=es.length/\S.ks.length<=es.length/\vn S.av<=es.length:=by
 induction h with
 |nil=>exact⟨F,Nat.le_refl _,Nat.le_refl _,Nat.le_refl _⟩
 | @snoc es S e j u I=>
  have E:=Uz S e;rw[length_append,length_singleton];omega
theorem o_.gM{es:List aG}{S:dw}(h:o_ es S)(hn:es.length<=65536):Nb S:=by
 have j:=h.sz;refine⟨J,J,?_⟩;rw[ado];omega
theorem Nj{S:dw}{e:aG}(h:S.ref e=0):dN e=0/\e.num=(S.cnt:Int)/\e.prev=S.last/\S.tm<=e.time:=by
 unfold dw.ref at h;by_cases j:dN e≠0
 ·rw[if_pos j]at h;exact absurd h j
 rw[if_neg j]at h;by_cases u:e.num≠(S.cnt:Int)
 ·rw[if_pos u]at h;cases h
 rw[if_neg u]at h;by_cases E:e.prev≠S.last
 ·rw[if_pos E]at h;cases h
 rw[if_neg E]at h;by_cases I:e.time<S.tm
 ·rw[if_pos I]at h;cases h
 exact⟨Decidable.not_not.1 j,Decidable.not_not.1 u,Decidable.not_not.1 E,J⟩
noncomputable def IW(es:List aG):aj:=match es.getLast? with|none=>kN|some e=>ig e
theorem adq(es:List aG)(e:aG):IW (es++[e])=ig e:=by
 unfold IW;rw[List.getLast?_append];rfl
theorem o_.last{es:List aG}{S:dw}(h:o_ es S):S.last=IW es:=by
 cases h with
 |nil=>rfl
 |snoc j u=>rw[adq];exact(Uz _ _).2.2.2.2.1
theorem o_.at{es:List aG}{S:dw}(h:o_ es S):∀{k:Nat} {e:aG},es[k]? =some e->dN e=0/\e.num=(k:Int)/\e.prev=IW (es.take k):=by
 induction h with
 |nil=>intro k e hk;simp at hk
 | @snoc es S E j R af=>
  intro k e hk;by_cases ae:k<es.length
  ·rw[List.getElem?_append_left ae]at hk;rw[take_append_of_le_length J];exact af hk
  ·rw[List.getElem?_append_right J]at hk;have ad:k - es.length=0:=by
    have:=(List.getElem?_eq_some_iff.1 hk).1;rw[length_singleton]at this;omega
   have u:k=es.length:=J;rw[ad]at hk;have I:E=e:=by simpa using hk
   subst I;obtain⟨aa,ab,ac,_⟩:=Nj R;refine⟨aa,by rw[ab,j.sz.1,u],?_⟩;rw[ac,j.last,u,take_left'];rfl
end
end Go.Proofs.YtjlhhnkhcbpnjaaGreatDoor
