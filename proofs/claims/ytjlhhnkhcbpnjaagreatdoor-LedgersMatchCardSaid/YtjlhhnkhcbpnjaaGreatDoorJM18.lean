/- Laws that the row leans on; no condition. -/
import Derived.Test.YtjlhhnkhcbpnjaaGreatDoorJM17
import Derived.ProofKit
import Derived.OpenShut
import Derived.Deep.Matrix
import Derived.ChangeSlices
import Derived.WideShapes
import Derived.SizedLaws
namespace Go.Proofs.YtjlhhnkhcbpnjaaGreatDoor
open Go Go.RowKit List Tryz
set_option linter.unusedVariables false
set_option linter.unusedSectionVars false
set_option linter.unusedSimpArgs false
set_option maxHeartbeats 40000000
set_option maxRecDepth 100000
section
open Go Go.RowKit
section
variable {K V:Type} [DecidableEq K]
theorem aa1{hs:List (K×V)}(h:(hs.map Prod.fst).Nodup)(x:K):iQ hs x=hs.filter fun p=>decide (p.1≠x):=by
 unfold iQ;cases u:jq x hs with
 |none=>
  refine(filter_eq_self.2 fun p I=> ?_).symm;have:=BM.1 u p I;simp[this]
 |some i=>
  induction hs generalizing i with
  |nil=>simp[jq]at u
  |cons a l R=>
   rw[map_cons,nodup_cons]at h;unfold jq at u;rw[List.findIdx?_cons]at u;by_cases ha:a.1=x
   ·rw[if_pos (by simp[ha])]at u;injection u with u;subst u;rw[filter_cons_of_neg (by simp[ha])];show l=_;refine(filter_eq_self.2 fun p I=> ?_).symm;have:p.1≠x:=fun e=>h.1 (ha▸e▸mem_map_of_mem I);simp[this]
   ·rw[if_neg (by simp[ha])]at u;cases E:l.findIdx? (fun p=>decide (p.1=x))with
    |none=>rw[E]at u;cases u
    |some j=>
     rw[E]at u;injection u with u;subst u;rw[filter_cons_of_pos (by simp[ha])];show(a::l).eraseIdx (j+1)=_;rw[eraseIdx_cons_succ];exact congrArg (a:: ·) (R h.2 j E)
def xY(keep:K×V->Bool)(lf:List K)(L:List (K×V)):List (K×V):=L.filter fun y=>decide (y.1∈lf)||keep y
theorem aa2(keep:K×V->Bool)(L:List (K×V)):xY keep (L.map Prod.fst) L=L:=
 filter_eq_self.2 fun y j=>by simp[mem_map_of_mem (f:=Prod.fst) j]
theorem aa3(keep:K×V->Bool)(L:List (K×V)):xY keep [] L=L.filter keep:=by unfold xY;simp
variable {keep:K×V->Bool} {lf lf2:List K} {L:List (K×V)} {x:K} {v:V}
theorem Tj(h:(L.map Prod.fst).Nodup)(I:(x,v)∈L){y:K×V}(R:y∈L)(e:y.1=x):y=(x,v):=by
 obtain⟨i,E⟩:=List.getElem?_of_mem I;obtain⟨j,u⟩:=List.getElem?_of_mem R;obtain⟨a,b⟩:=y;simp only at e;subst e;have:=Em h E u;subst this;rw[E]at u;injection u with u;exact u.symm
theorem aa4(h:(L.map Prod.fst).Nodup)(E:(x,v)∈L)(u:lf.Perm (x::lf2))(hk:keep (x,v)=true):xY keep lf2 L=xY keep lf L:=by
 refine filter_congr fun y I=> ?_;have j:y.1∈lf↔y.1=x∨y.1∈lf2:=by rw[u.mem_iff,mem_cons]
 by_cases e:y.1=x
 ·rw[Tj h E I e,hk];simp
 ·have:(y.1∈lf)=(y.1∈lf2):=propext ⟨fun h=>(j.1 h).resolve_left e,fun h=>j.2 (.inr h)⟩;simp only[this]
theorem aa5(h:(L.map Prod.fst).Nodup)(E:(x,v)∈L)(u:lf.Perm (x::lf2))(hn:x∉lf2)(hk:keep (x,v)=false):iQ (xY keep lf L) x=xY keep lf2 L:=by
 unfold xY;rw[aa1 ((filter_sublist.map Prod.fst).nodup h)];rw[filter_filter];refine filter_congr fun y I=> ?_;have j:y.1∈lf↔y.1=x∨y.1∈lf2:=by rw[u.mem_iff,mem_cons]
 by_cases e:y.1=x
 ·rw[Tj h E I e,hk];simp[hn]
 ·have:(y.1∈lf)=(y.1∈lf2):=propext ⟨fun h=>(j.1 h).resolve_left e,fun h=>j.2 (.inr h)⟩;simp[this,e]
theorem gJ.qL{kv:K->Value}{vv:V->Value}{w:World}{g r:Nat}{hs:List (K×V)}{lf:List K}(h:gJ kv vv w g r hs lf):w.rangeLeft g r=lf.length:=by
 obtain⟨es,I,af,ae,E,hb,ac,ad,u,R,aa,ab,j⟩:=h;have:=congrArg List.length j;simp only[length_map,Array.length_toList]at this;rw[<-this];simp[World.rangeLeft,hb,u]
theorem gJ.same{kv:K->Value}{vv:V->Value}{w:World}{g r:Nat}{hs j:List (K×V)}{lf:List K}(h:gJ kv vv w g r hs lf)(e:j.map (fun p=>(kv p.1,vv p.2))=hs.map (fun p=>(kv p.1,vv p.2))):gJ kv vv w g r j lf:=by
 obtain⟨es,E,aa,R,u,hb,I,h⟩:=h;exact⟨es,E,aa,R,u,hb,by rw[e];exact I,h⟩
theorem gJ.mut{M:Nat->Prop}{kv:K->Value}{vv:V->Value}{w w':World}{g r:Nat}{hs:List (K×V)}{lf:List K}(h:gJ kv vv w g r hs lf)(m:gB M w w')(j:¬M g)(u:¬M r):gJ kv vv w' g r hs lf:=
 h.keep (m.block g h.map.lt j) (m.block r h.lt u)
end
def mV(f:List (aj×dX)->List (aj×dX))(lf:List (aj))(A:List (aj×(Nat×List (aj×dX)))):List (aj×(Nat×List (aj×dX))):=
 A.map fun x=>if x.1∈lf then x else(x.1,(x.2.1,f x.2.2))
section
variable {f:List (aj×dX)->List (aj×dX)} {lf lf2:List (aj)} {x:aj} {A:List (aj×(Nat×List (aj×dX)))}
theorem Iw(A:List (aj×(Nat×List (aj×dX)))):mV f (A.map Prod.fst) A=A:=by
 unfold mV
 conv=>rhs;rw[<-map_id A]
 refine map_congr_left fun x j=> ?_;rw[if_pos (mem_map_of_mem j)];rfl
theorem Iy(lf:List (aj))(A:List (aj×(Nat×List (aj×dX)))):(mV f lf A).map (fun p=>(eX p.1,oH p.2))=A.map (fun p=>(eX p.1,oH p.2)):=by
 unfold mV;rw[map_map];refine map_congr_left fun x j=> ?_;show(eX (if x.1∈lf then x else(x.1,(x.2.1,f x.2.2))).1,oH (if x.1∈lf then x else(x.1,(x.2.1,f x.2.2))).2)=_;split<;>rfl
theorem Tm(h:(A.map Prod.fst).Nodup)(R:lf.Perm (x::lf2))(hn:x∉lf2){v:Nat×List (aj×dX)}(ac:(x,v)∈mV f lf A):
 ∃i,(mV f lf A)[i]? =some (x,v)/\mV f lf2 A=(mV f lf A).set i (x,(v.1,f v.2)):=by
 obtain⟨i,E⟩:=List.getElem?_of_mem ac;refine⟨i,E,?_⟩;have Dr:x∈lf:=by rw[R.mem_iff];simp
 unfold mV at E⊢;rw[List.getElem?_map]at E;cases ha:A[i]? with
 |none=>rw[ha]at E;cases E
 |some a=>
  rw[ha]at E;simp only[Option.map_some,Option.some.injEq]at E;have Cv:a.1=x:=by
   by_cases aa:a.1∈lf
   ·rw[if_pos aa]at E;rw[E]
   ·rw[if_neg aa]at E;exact congrArg Prod.fst E
  rw[if_pos (by rw[Cv];exact Dr)]at E;subst E;apply ext_getElem?;intro j;rw[List.getElem?_map,List.getElem?_set,length_map,List.getElem?_map];by_cases I:i=j
  ·subst I;rw[if_pos F,if_pos (List.getElem?_eq_some_iff.1 ha).1,ha];simp only[Option.map_some];rw[if_neg hn]
  ·rw[if_neg I];cases hb:A[j]? with
   |none=>rfl
   |some b=>
    simp only[Option.map_some];have ab:b.1≠x:=fun e=>I (Em (k:=x) h (v:=v) (u:=b.2) ha (by rw[hb,<-e]));have:(b.1∈lf)=(b.1∈lf2):=propext ⟨fun h=>by rw[R.mem_iff,mem_cons]at h;exact h.resolve_left ab,fun h=>by rw[R.mem_iff];exact mem_cons_of_mem _ h⟩;simp only[this]
end
def iC(g:Nat)(a:aN)(n:Nat):Prop:=n=0∨∀A,a=some A->A.block≠g
structure aV.Off(S:aV)(g:Nat):Prop where
 ms:∀x∈S.ms,iC g x.2.a x.2.n
 av:∀x∈S.av,∀y∈x.2.2,iC g y.2.r.a y.2.r.n
 po:∀P,S.pol=some P->P.q≠g/\iC g P.a P.n/\∀r∈P.rs,iC g r.ra r.rn/\iC g r.aa r.an/\iC g r.la r.ln
theorem bJ.off{w:World}{B g n z:Nat}{a:aN}{xs:aO}(h:bJ w B a xs)(E:xs.length=z*n)(I:0<z)(R:g<B):iC g a n:=by
 rcases h with h|⟨b,off,ha,hb,_⟩
 ·rw[h]at E;rcases Nat.eq_zero_or_pos n with u|u
  ·exact .inl u
  ·have:=Nat.mul_pos I u;simp at E;omega
 ·refine .inr fun A j=> ?_;rw[ha]at j;injection j with j;rw[<-j];show b≠g;omega
theorem oG.Hi.mono{w:World}{B B':Nat}{P:oG}(h:P.Hi w B)(hb:B'<=B):P.Hi w B':=
 ⟨h.blk,Nat.le_trans hb h.ge,h.hl,h.nc,h.n100,h.cell.mono hb,h.rM,fun r j=>⟨(h.jF r j).1.mono hb,(h.jF r j).2.1.mono hb,(h.jF r j).2.2.mono hb⟩⟩
theorem oG.Hi.off{w:World}{B g:Nat}{P:oG}(h:P.Hi w B)(u:g<B):P.q≠g/\iC g P.a P.n/\∀r∈P.rs,iC g r.ra r.rn/\iC g r.aa r.an/\iC g r.la r.ln:=by
 refine⟨by have:=h.ge;omega,h.cell.off (z:=8) (by rw[Hg,h.hl]) J u,fun r j=>⟨?_,?_,?_⟩⟩
 ·exact(h.jF r j).1.off (z:=1) (by rw[length_map,(h.rM r j).rl,Nat.one_mul]) J u
 ·exact(h.jF r j).2.1.off (z:=1) (by rw[length_map,(h.rM r j).al,Nat.one_mul]) J u
 ·exact(h.jF r j).2.2.off (z:=1) (by rw[length_map,(h.rM r j).ll,Nat.one_mul]) J u
theorem aV.Off.jO{S:aV}{g:Nat}(h:S.Off g)(id:aj):iC g (S.jO id).a (S.jO id).n:=by
 unfold aV.jO;cases j:bW S.ms id with
 |none=>exact .inl F
 |some r=>exact h.ms _ (BO j)
theorem LY{g i q:Nat}{k:aj}{l:List (aj×dX)}{A:List (aj×(Nat×List (aj×dX)))}(h:∀x∈A,∀y∈x.2.2,iC g y.2.r.a y.2.r.n)(u:∀y∈l,iC g y.2.r.a y.2.r.n):∀x∈A.set i (k,(q,l)),∀y∈x.2.2,iC g y.2.r.a y.2.r.n:=by
 intro x j;rcases mem_or_eq_of_mem_set j with j|rfl
 ·exact h x j
 ·exact u
def CU(p:Nat)(e:aG):Prop:=∀A,e.ba=some A->A.block≠p
theorem aG.Ok.fF{w w':World}{g p:Nat}{e:aG}(h:e.Ok w)(u:mP g w w')(j:g=p∨jr w g)(R:CU p e):e.Ok w':=by
 refine{h with hcl:= ?_};rcases h.hcl with I|⟨b,off,ha,I⟩
 ·exact .inl I
 refine .inr ⟨b,off,ha,fun i x aa=> ?_⟩;have E:=I i x aa;refine wu E (u.block b (block_lt_of_cell E) (fun hb=> ?_));subst hb;rcases j with j|j
 ·exact R _ ha j
 ·rw[j.cell]at E;cases E
structure lu(w:World)(p:Nat)(S:aV)(e:aG)(r:ay)(ak:aj)(G3 G6 G8:Nat)(T:aV)(wx:World):Prop where
 st:dJ wx p T
 mu:gB (S.M p) w wx
 new:∀g,T.M p g->S.M p g∨w.heap.size<=g
 be:ah wx G3 e.v 34
 bb:ah wx G6 r.v 101
 ba:ah wx G8 (ak.map Y) 31
 rh:bJ wx w.heap.size r.ra (r.roles.map bM)
 ok:e.Ok wx
 off:CU p e
 g3:w.heap.size<=G3
 g6:w.heap.size<=G6
 g8:w.heap.size<=G8
 pl:p<w.heap.size
 LZ:∀g,g<w.heap.size->S.Off g->T.Off g
section
variable {w wx wy:World} {p:Nat} {S T T':aV} {e:aG} {r:ay} {ak:aj} {G3 G6 G8 g:Nat}
theorem dJ.Iz(h:dJ wx p T)(j:T.M p g):g=p∨jr wx g:=by
 rcases j with rfl|rfl|rfl|rfl|⟨x,u,rfl⟩
 ·exact .inl F
 ·exact .inr h.Ar
 ·exact .inr h.Ip
 ·exact .inr h.EN
 ·exact .inr (h.EO u)
theorem lu.ext(h:lu w p S e r ak G3 G6 G8 T wx)(k:X wx wy):lu w p S e r ak G3 G6 G8 T wy:=
 {h with st:=h.st.ext k,mu:=h.mu.same (gB.wC k),be:=h.be.ext k,bb:=h.bb.ext k,ba:=h.ba.ext k,rh:=h.rh.ext' k,ok:=h.ok.ext k}
theorem lu.Tn(h:lu w p S e r ak G3 G6 G8 T wx)(u:mP g wx wy)(j:T.M p g)(ab:dJ wy p T')(hn:∀k,T'.M p k->T.M p k∨w.heap.size<=k)(ad:∀g,g<w.heap.size->T.Off g->T'.Off g):lu w p S e r ak G3 G6 G8 T' wy:=by
 have I:=h.st.Iz j;have E:∀{k:Nat} {vs:aO} {R:TypeId},w.heap.size<=k->ah wx k vs R->¬k=g:=by
  intro k vs R hk hb ac;rcases I with aa|aa
  ·have:=h.pl;omega
  ·exact aa.ne hb ac
 exact{
  st:=ab,mu:=h.mu.trans u (fun x ag ae=>by subst ae;exact(h.new _ j).resolve_right J),
  new:=fun k hk=>(hn k hk).elim (h.new k) .inr,
  be:=h.be.mut u (E h.g3 h.be),bb:=h.bb.mut u (E h.g6 h.bb),ba:=h.ba.mut u (E h.g8 h.ba),rh:=h.rh.fF u (I.elim (fun af=> .inl (by have:=h.pl;omega)) .inr),
  ok:=h.ok.fF u I h.off,off:=h.off,g3:=h.g3,g6:=h.g6,g8:=h.g8,pl:=h.pl,LZ:=fun g j hs=>ad g j (h.LZ g j hs)}
theorem lu.turn(h:lu w p S e r ak G3 G6 G8 T wx)(u:mP g wx wy)(E:T.M p g)(j:dJ wy p T')(hn:∀k,T'.M p k->T.M p k∨wx.heap.size<=k)(I:∀g,g<w.heap.size->T.Off g->T'.Off g):lu w p S e r ak G3 G6 G8 T' wy:=
 h.Tn u E j (fun k hk=>(hn k hk).imp id (Nat.le_trans h.mu.size)) I
end
end
section
open Go Go.RowKit
theorem IB{l m r xs:aO}{n:Nat}(j:l.length=n)(u:m.length=xs.length):fV (l++(m++r)) n xs=l++(xs++r):=by grind [fV]
section
variable {S:aV} (h:S.last.length=32) (hf:S.ji.length=16)
theorem aV.set0(S:aV)(n:Nat):S.v.set 0 (.int .i64 (n:Int))={S with cnt:=n}.v:=F
theorem aV.set1(S:aV)(n:Int):S.v.set 1 (.int .i64 n)={S with tm:=n}.v:=F
include h in
theorem aV.aa6{x:aj}(j:x.length=32):fV S.v 2 (x.map Y)={S with last:=x}.v:=by grind [aV.v,fV,Y]
include h hf in
theorem aV.aa7{x:aj}(j:x.length=16):fV S.v 34 (x.map Y)={S with ji:=x}.v:=by grind [aV.v,Y,fV]
include h hf in
theorem aV.L6(P:oG):S.v.set 50 (.pointer (some ⟨P.q,0,none⟩))={S with pol:=some P}.v:=by simp_all [aV.v]
end
section
variable {k:bC} (h:k.Ok)
include h
theorem bC.DZ(n:Int):k.v.set 17 (.int .i64 n)={k with epoch:=n}.v:=by
 unfold bC.v;rw[set_append_right _ _ (by simp[h.hk]),length_map,h.hk];rfl
theorem bC.aa8{x:aj}(j:x.length=32):fV k.v 18 (x.map Y)={k with commit:=x}.v:=by
 unfold bC.v;have:=IB (l:=k.key.map Y++[.string k.label,.int .i64 k.epoch]) (m:=k.commit.map Y) (r:= .bool k.rev:: .int .i64 k.esc::k.shared.map Y) (xs:=x.map Y) (n:=18) (by simp[h.hk]) (by rw[length_map,length_map,h.hc,j]);simpa using this
theorem bC.L6(b:Bool):k.v.set 50 (.bool b)={k with rev:=b}.v:=by
 unfold bC.v;rw[set_append_right _ _ (by simp[h.hk]),length_map,h.hk,show 50 - 16=32+1+1 by rfl,set_cons_succ,set_cons_succ,set_append_right _ _ (by simp[h.hc]),length_map,h.hc];rfl
theorem bC.D6(n:Int):k.v.set 51 (.int .i64 n)={k with esc:=n}.v:=by
 unfold bC.v;rw[set_append_right _ _ (by simp[h.hk]),length_map,h.hk,show 51 - 16=33+1+1 by rfl,set_cons_succ,set_cons_succ,set_append_right _ _ (by simp[h.hc]),length_map,h.hc];rfl
theorem bC.aa9{x:aj}(j:x.length=32):fV k.v 52 (x.map Y)={k with shared:=x}.v:=by
 unfold bC.v;have:=IB (l:=k.key.map Y++(.string k.label:: .int .i64 k.epoch::(k.commit.map Y++[.bool k.rev,.int .i64 k.esc]))) (m:=k.shared.map Y) (r:=[]) (xs:=x.map Y) (n:=52) (by simp[h.hk,h.hc]) (by rw[length_map,length_map,h.hs,j]);simpa using this
end
theorem abb(S:aV)(e:aG)(l:ByteArray):dY 5 (sW (S.oq e l))=lV e:=F
theorem aV.IC{w:World}{p:Nat}{S:aV}{e:aG}(h:dJ w p S)(hb:(mO e).label.size<=140737488355328):(S.lab e).size<=140737488355328:=by
 unfold aV.lab;split
 ·exact hb
 ·have:=(h.Il e.key).ls;omega
theorem abd{f:aj->Int}{act:Int}{l:aj}(h:(kE f act l).2=0):uh act (kE f act l).1=0:=by grind [kE]
theorem abe{e:aG}{r:ay}(hf:r.Fit)(E:r.p=mO e)(h:(kE kF e.act e.body).2=0):Fh r:=by
 have j:=abd h;have u:jS e.act r=0:=by rw[Gv hf.rl hf.hl,E];exact j
 exact(Ed u).small
theorem L8{w:World}{B:Nat}{a:aN}{xs:aO}(h:aK w a xs)(hb:∀A,a=some A->xs≠[]->B<=A.block):bJ w B a xs:=by grind [aK,bJ]
theorem L9{w:World}{B n:Nat}{a:aN}{xs:aO}(h:aK w a xs)(u:xs.length=n)(j:xP B a n):bJ w B a xs:=by grind [aK,xP,bJ]
theorem abf{w:World}{q n c B:Nat}{a:aN}{rs:List aS}(hb:ah w q [.slice a n c] 152)(E:B<=q)(j:lG w a n c rs)(hn:CS B a n c rs):oG.Hi w B ⟨q,a,n,c,rs⟩:=
 ⟨hb,E,j.hl,j.hnc,j.hm,L8 j.cell (fun A (ha:a=some A) _=>hn.1 A.block (by rw[ha];rfl)),j.ok,fun r u=>
  ⟨L9 (j.ok r u).nU (by rw[length_map];exact(j.ok r u).rl) (hn.2 r u).r1,L9 (j.ok r u).mF (by rw[length_map];exact(j.ok r u).al) (hn.2 r u).r2,L9 (j.ok r u).sN (by rw[length_map];exact(j.ok r u).ll) (hn.2 r u).r3⟩⟩
theorem oG.Hi.gH{w:World}{B:Nat}{P:oG}(h:P.Hi w B):lG w P.a P.n P.c P.rs:=⟨h.hl,h.nc,h.n100,h.cell.cells,h.rM⟩
theorem abg{B B' n c:Nat}{a:aN}{rs:List aS}(h:CS B a n c rs)(hb:B'<=B):CS B' a n c rs:=by grind [aS,CS,Nat.le_trans,SY]
end
section
open Go Go.RowKit
section
variable {w wx wy:World} {p g q:Nat} {S T:aV} {e:aG} {r:ay} {ak:aj} {G3 G6 G8:Nat}
theorem CV{K V j u:Type}[DecidableEq K][DecidableEq j]{kv:K->Value}{vv:V->Value}{I:j->Value}{R:u->Value}{hs:List (K×V)}{lf:List K}{E:List (j×u)}{g i:Nat}(h:gJ kv vv wx g i hs lf)(m:f_ I R wx q E):i≠q:=by grind [gJ,f_]
theorem CW{K V:Type}[DecidableEq K]{kv:K->Value}{vv:V->Value}{hs:List (K×V)}{lf:List K}{g i:Nat}(h:gJ kv vv wx g i hs lf):jr wx i:=by grind [gJ,jr]
theorem dJ.Tq{K V:Type}[DecidableEq K]{kv:K->Value}{vv:V->Value}{hs:List (K×V)}{lf:List K}{g i:Nat}(h:dJ wx p T)(u:gJ kv vv wx g i hs lf):¬T.M p i:=by
 rintro(j|j|j|j|⟨x,E,j⟩)
 ·exact(CW u).ne h.blk j.symm
 ·exact CV u h.mem j
 ·exact CV u h.key j
 ·exact CV u h.app j
 ·exact CV u (h.inn x E).1 j
theorem dJ.beside(h:dJ wx p T)(u:mP g wx wy)(E:jr wx g)(hn:¬T.M p g):dJ wy p T:=by
 obtain⟨I,r2,R,aa⟩:=h.rest u E;exact{h with blk:=I,mem:=h.mem.mut u (fun e=>hn (.inr (.inl e.symm))),key:=h.key.mut u (fun e=>hn (.inr (.inr (.inl e.symm)))),app:=h.app.mut u (fun e=>hn (.inr (.inr (.inr (.inl e.symm))))),inn:=fun x j=>⟨(h.inn x j).1.mut u (fun e=>hn (.inr (.inr (.inr (.inr ⟨x,j,e.symm⟩))))),(h.inn x j).2.1,r2 x j⟩,mr:=R,po:=aa}
theorem lu.beside(h:lu w p S e r ak G3 G6 G8 T wx)(u:mP g wx wy)(j:jr wx g)(E:w.heap.size<=g)(hn:¬T.M p g):lu w p S e r ak G3 G6 G8 T wy:=
 {h with st:=h.st.beside u j hn,mu:=h.mu.trans u (fun x I R=>by omega),be:=h.be.mut u (j.ne h.be),bb:=h.bb.mut u (j.ne h.bb),ba:=h.ba.mut u (j.ne h.ba),rh:=h.rh.fF u (.inr j),ok:=h.ok.fF u (.inr j) h.off}
end
def IE(t:Int)(y:aj×dX):Bool:=decide (t - y.2.t<=86400)
def wS(t:Int)(l:List (aj×dX)):List (aj×dX):=l.filter (IE t)
theorem abh(t:Int)(l:List (aj×dX)):kM (wS t l)=Aq t (kM l):=by
 unfold kM wS Aq;rw[filter_map];rfl
theorem abj(t:Int)(A:List (aj×(Nat×List (aj×dX)))):(mV (wS t) [] A).map (fun x=>(x.1,kM x.2.2))=(A.map fun x=>(x.1,kM x.2.2)).map fun y=>(y.1,Aq t y.2):=by
 unfold mV;rw[map_map,map_map];refine map_congr_left fun x j=> ?_;show((if x.1∈[]then x else(x.1,(x.2.1,wS t x.2.2))).1,kM (if x.1∈[]then x else(x.1,(x.2.1,wS t x.2.2))).2.2)=(x.1,Aq t (kM x.2.2));rw[if_neg aF,abh]
theorem L_:iH prog 164 2:=⟨⟨_,underlying164,F⟩,au⟩
theorem Au{α:Type}{l j:List α}{x:α}(h:l.Nodup)(u:l.Perm (x::j)):x∉j/\j.Nodup:=nodup_cons.1 (u.nodup_iff.1 h)
end
theorem abk{K V:Type}[DecidableEq K]{good:K->Prop}{hs:List (K×V)}(h:jc good hs){k:K}(hk:good k)(v u:V):dU (dU hs k v) k u=dU hs k u:=by
 have hn:=(h.set v hk).nodup;cases R:jq k hs with
 |none=>
  have E:∀y:V,dU hs k y=hs++[(k,y)]:=fun y=>by unfold dU;rw[R]
  rw[E]at hn⊢;rw[E];have I:=En hn (j:=hs.length) (k:=k) (v:=v) aF;unfold dU;rw[I];simp
 |some i=>
  have E:∀y:V,dU hs k y=hs.set i (k,y):=fun y=>by unfold dU;rw[R]
  rw[E]at hn⊢;rw[E];have I:=En hn (j:=i) (k:=k) (v:=v) (by simp[QL R]);unfold dU;rw[I];simp
abbrev uJ:=List (aj×(Nat×List (aj×dX)))
def rV(A:uJ):List (aj×List (aj×(aT×Int))):=A.map fun x=>(x.1,kM x.2.2)
theorem Tt{A:uJ}(k:aj)(g:Nat)(l:List (aj×dX)):rV (dU A k (g,l))=dU (rV A) k (kM l):=
 (Lm (fun y:Nat×List (aj×dX)=>kM y.2) A k (g,l)).symm
theorem abl(l:List (aj×dX))(k:aj)(v:dX):kM (dU l k v)=dU (kM l) k (v.r.l,v.t):=
 (Lm (fun v:dX=>(v.r.l,v.t)) l k v).symm
theorem Tv(A:uJ)(k:aj):bW (rV A) k=(bW A k).map fun y=>kM y.2:=EK (fun y:Nat×List (aj×dX)=>kM y.2) A k
theorem abm{A:uJ}(h:jc Gb A):jc Gb (rV A):=⟨fun p j=>by
 obtain⟨x,u,rfl⟩:=mem_map.1 j;exact h.good x u,by
 have:=h.nodup;unfold rV;rw[map_map];exact this⟩
theorem abn{A:uJ}(h:jc Gb A){k:aj}{g:Nat}{l:List (aj×dX)}(E:bW A k=some (g,l)):∃i,A[i]? =some (k,(g,l))/\
 ∀a v,rV (A.set i (k,(g,dU l a v)))=dU (rV A) k (dU (kM l) a (v.r.l,v.t)):=by
 obtain⟨i,j⟩:=List.getElem?_of_mem (BO E);refine⟨i,j,fun a v=> ?_⟩;have u:dU A k (g,dU l a v)=A.set i (k,(g,dU l a v)):=by
  unfold dU;rw[En h.nodup j]
 rw[<-u,Tt,abl]
theorem abo{a b c n:Nat}{k:aj}{A:uJ}(h:(a::b::c::A.map (fun x=>x.2.1)).Nodup)(ha:a<n)(hb:b<n)(hc:c<n)(I:∀x∈A,x.2.1<n)(R:bW A k=none):(a::b::c::(dU A k (n,([]:List (aj×dX)))).map (fun x=>x.2.1)).Nodup:=by
 have E:dU A k (n,([]:List (aj×dX)))=A++[(k,(n,[]))]:=by
  unfold dU;cases j:jq k A with
  |none=>rfl
  |some i=>
   have:=(YK (hs:=A) (k:=k));rw[R,j]at this;cases this
 rw[E,map_append];show((a::b::c::A.map (fun x=>x.2.1))++[n]).Nodup;rw[nodup_append];refine⟨h,aF,fun x j y u=> ?_⟩;simp only[mem_singleton]at u;subst u;simp only[mem_cons,mem_map]at j;rcases j with rfl|rfl|rfl|⟨q,aa,rfl⟩
 ·omega
 ·omega
 ·omega
 ·have:=I q aa;omega
theorem Tz(w:World):(zeroValue 162).run prog w= .ok (.map none) w:=au
theorem abp(sa:aN)(sn sc:Nat)(t:Int):prog.built 164 [(0,Value.slice sa sn sc),(1,Value.int .i64 t)]=some #[Value.slice sa sn sc,Value.int .i64 t]:=au
theorem abq{o:Oper}{a:Act}{j u:Operand}{sa:aN}{sn sc:Nat}{t:Int}(ab:o.op= .build 164 #[(0,j),(1,u)])(E:a.eval j=Value.slice sa sn sc)(I:a.eval u=Value.int .i64 t)(w:World):(execOp a.eval o).run prog w= .ok (.value (.agg #[Value.slice sa sn sc,Value.int .i64 t])) w:=by
 have h:=run_build (P:=prog) w 164 #[(0,Value.slice sa sn sc),(1,Value.int .i64 t)] _ (abp sa sn sc t);have aa:(#[(0,j),(1,u)].map fun(r:Nat×Operand)=>(r.1,a.eval r.2))= #[(0,Value.slice sa sn sc),(1,Value.int .i64 t)]:=by simp[E,I]
 unfold execOp;simp only[ab,Sem.run_bind];have R:(Instr.build 164 (#[(0,j),(1,u)].map fun(r:Nat×Operand)=>(r.1,a.eval r.2))).run prog w= .ok (.agg #[Value.slice sa sn sc,Value.int .i64 t]) w:=by rw[aa];exact h
 rw[R];rfl
theorem TA{p n:Nat}{T:aV}{A:uJ}(h:∀x∈A,(∃y∈T.av,x.2.1=y.2.1)∨n<=x.2.1):∀k,aV.M {T with av:=A} p k->T.M p k∨n<=k:=by
 rintro k (j|j|j|j|⟨x,E,j⟩)
 ·exact .inl (.inl j)
 ·exact .inl (.inr (.inl j))
 ·exact .inl (.inr (.inr (.inl j)))
 ·exact .inl (.inr (.inr (.inr (.inl j))))
 ·rcases h x E with⟨y,I,e⟩|u
  ·exact .inl (.inr (.inr (.inr (.inr ⟨y,I,j.trans e⟩))))
  ·exact .inr (j▸u)
theorem abr(S:dw)(e:aG)(x:bZ):(S.act e x).cnt=S.cnt:=by grind [dw.act]
section
open Go Go.RowKit
section
variable {w w':World} {p B:Nat} {T:aV} {r:Option Nat}
theorem bJ.row{a:aN}{xs:aO}{n z:Nat}(h:bJ w B a xs)(R:xs.length=z*n)(aa:∀g,r=some g->iC g a n)(k:w.grownBy w' r):bJ w' B a xs:=by
 rcases h with h|⟨b,off,ha,hb,hc⟩
 ·exact .inl h
 by_cases E:n=0
 ·subst E;exact .inl (length_eq_zero_iff.1 (by rw[R,Nat.mul_zero]))
 refine .inr ⟨b,off,ha,hb,fun i u ab=> ?_⟩;have I:=hc i u ab;refine wu I (k.block b (block_lt_of_cell I) fun e=> ?_);rcases aa b e.symm with j|j
 ·exact E j
 ·exact j _ ha F
theorem aK.row{a:aN}{xs:aO}{n z:Nat}(h:aK w a xs)(j:xs.length=z*n)(u:∀g,r=some g->iC g a n)(k:w.grownBy w' r):aK w' a xs:=by
 rcases h with h|⟨b,off,ha,hc⟩
 ·exact .inl h
 ·exact(bJ.row (B:=0) (.inr ⟨b,off,ha,Nat.zero_le _,hc⟩) j u k).cells
theorem iF.Hi.row{j:iF}(h:j.Hi w B)(u:∀g,r=some g->iC g j.a j.n)(k:w.grownBy w' r):j.Hi w' B:=
 ⟨h.hl,h.nc,h.n16,h.sz,h.cell.row (z:=1) (by rw[length_map,h.hl,Nat.one_mul]) u k⟩
theorem oG.Hi.row{P:oG}(h:P.Hi w B)(E:∀g,r=some g->P.q≠g/\iC g P.a P.n/\∀x∈P.rs,iC g x.ra x.rn/\iC g x.aa x.an/\iC g x.la x.ln)(k:w.grownBy w' r):P.Hi w' B:=by
 have I:∀x∈P.rs,bJ w' B x.ra (x.roles.map bM)/\bJ w' B x.aa (x.acts.map lN)/\bJ w' B x.la (x.labels.map bM):=fun x j=>
  ⟨(h.jF x j).1.row (z:=1) (by rw[length_map,(h.rM x j).rl,Nat.one_mul]) (fun g u=>((E g u).2.2 x j).1) k,
   (h.jF x j).2.1.row (z:=1) (by rw[length_map,(h.rM x j).al,Nat.one_mul]) (fun g u=>((E g u).2.2 x j).2.1) k,
   (h.jF x j).2.2.row (z:=1) (by rw[length_map,(h.rM x j).ll,Nat.one_mul]) (fun g u=>((E g u).2.2 x j).2.2) k⟩
 exact⟨h.blk.grown k (fun e=>(E _ e.symm).1 F),h.ge,h.hl,h.nc,h.n100,h.cell.row (z:=8) (by rw[Hg,h.hl]) (fun g u=>(E g u).2.1) k,
  fun x j=>{h.rM x j with nU:=(I x j).1.cells,mF:=(I x j).2.1.cells,sN:=(I x j).2.2.cells},I⟩
theorem dJ.row(h:dJ w p T)(ab:r≠some p)(aa:∀g,r=some g->¬jr w g)(E:∀g,r=some g->T.Off g)(k:w.grownBy w' r):dJ w' p T:=by
 have hn:∀{g:Nat},jr w g->some g≠r:=fun u e=>aa _ e.symm u;exact{h with
  blk:=h.blk.grown k (fun e=>ab e.symm),mem:=h.mem.grown k (hn h.Ar),key:=h.key.grown k (hn h.Ip),app:=h.app.grown k (hn h.EN),
  inn:=fun x j=>⟨(h.inn x j).1.grown k (hn (h.EO j)),(h.inn x j).2.1,fun y I=>⟨((h.inn x j).2.2 y I).1.row (fun g u=>(E g u).av x j y I) k,((h.inn x j).2.2 y I).2⟩⟩,
  mr:=fun x j=>(h.mr x j).row (fun g u=>(E g u).ms x j) k,po:=fun P R=>(h.po P R).row (fun g u=>(E g u).po P R) k}
theorem EU{e:TypeId}{z n:Nat}{v:Value}{xs:aO}(h:w.ownsRow B e z v n xs):∀g,v.ownBlock=some g->¬jr w g:=by
 intro g u hn;rcases h.2 with⟨rfl,_⟩|⟨g1,I,R,rfl,_,E,_⟩
 ·cases u
 simp only[Value.ownBlock,Option.some.injEq]at u;subst u;obtain⟨o,j,hc⟩:=hn;rw[E]at j;injection j with j;exact hc _ _ _ j.symm
theorem yU{a:aN}{xs:aO}{n g:Nat}(h:aK w a xs)(E:xs.length=0->n=0)(I:w.heap.size<=g):iC g a n:=by
 rcases h with h|⟨b,off,ha,hc⟩
 ·exact .inl (E (by rw[h];rfl))
 by_cases u:xs=[]
 ·exact .inl (E (by rw[u];rfl))
 refine .inr fun A j=> ?_;rw[ha]at j;injection j with j;rw[<-j];obtain⟨x,l,rfl⟩:=exists_cons_of_ne_nil u;have:=block_lt_of_cell (hc 0 x F);show b≠g;simp only at this;omega
theorem dJ.H_(h:dJ w p T){g:Nat}(E:w.heap.size<=g):T.Off g where
 ms x j:=yU (h.mr x j).cell.cells (fun e=>by rw[length_map,(h.mr x j).hl]at e;exact e) E
 av x j y hy:=yU ((h.inn x j).2.2 y hy).1.cell.cells (fun e=>by rw[length_map,((h.inn x j).2.2 y hy).1.hl]at e;exact e) E
 po P u:=by
  have u:=h.po P u;refine⟨by have:=u.blk.lt;omega,yU u.cell.cells (fun e=>by rw[Hg,u.hl]at e;omega) E,fun x j=>⟨?_,?_,?_⟩⟩
  ·exact yU (u.jF x j).1.cells (fun e=>by rw[length_map,(u.rM x j).rl]at e;exact e) E
  ·exact yU (u.jF x j).2.1.cells (fun e=>by rw[length_map,(u.rM x j).al]at e;exact e) E
  ·exact yU (u.jF x j).2.2.cells (fun e=>by rw[length_map,(u.rM x j).ll]at e;exact e) E
theorem aG.Ok.row{e:aG}(h:e.Ok w)(j:∀g,r=some g->iC g e.ba e.bn)(k:w.grownBy w' r):e.Ok w':=
 {h with hcl:=h.hcl.row (z:=1) (by rw[length_map,h.hb,Nat.one_mul]) j k}
theorem aG.Ok.mut{M:Nat->Prop}{e:aG}(h:e.Ok w)(m:gB M w w')(I:∀g,M g->g=p∨jr w g)(R:CU p e):e.Ok w':=by
 refine{h with hcl:= ?_};rcases h.hcl with u|⟨b,off,ha,u⟩
 ·exact .inl u
 refine .inr ⟨b,off,ha,fun i x aa=> ?_⟩;have j:=u i x aa;refine wu j (m.block b (block_lt_of_cell j) (fun hb=> ?_));rcases I b hb with E|E
 ·exact R _ ha E
 ·rw[E.cell]at j;cases j
theorem abt{M:Nat->Prop}{e:TypeId}{z n:Nat}{v:Value}{xs:aO}(h:w.ownsRow B e z v n xs)(m:gB M w w')(ab:∀g,v.ownBlock=some g->¬M g):w'.ownsRow B e z v n xs:=by
 refine⟨h.1,?_⟩;rcases h.2 with I|⟨g1,u,E,rfl,R,j,aa⟩
 ·exact .inl I
 ·exact .inr ⟨g1,u,E,F,R,(m.block g1 (Array.getElem?_eq_some_iff.1 j).1 (ab g1 F)).trans j,aa⟩
end
inductive o_:List aG->dw->Prop
 |nil:o_ [] dw.zero
 |snoc {es:List aG} {S:dw} {e:aG}:o_ es S->S.ref e=0->o_ (es++[e]) (S.next e)
theorem dJ.notM{w:World}{p g:Nat}{S:aV}{vs:aO}{E:TypeId}(h:dJ w p S)(hb:ah w g vs E)(R:E≠147):¬S.M p g:=by
 intro I;rcases h.Iz I with u|u
 ·subst u;have j:=h.blk;unfold ah at hb j;rw[hb]at j;injection j with j;injection j with _ j _;exact R j
 ·exact u.ne hb F
structure Ga(w0 w:World)(gj gs go p:Nat)(S:aV)(v:Value)(es:List aG):Prop where
 st:dJ w p S
 bj:ah w gj [.bool false] 4
 bs:ah w gs [.pointer (some ⟨p,0,none⟩)] 25
 bo:ah w go [v] 24
 own:w.ownsRow w0.heap.size 34 68 v es.length (iM es)
 off:∀g,(v.ownBlock=some g∨g=go)->S.Off g
 ok:∀e∈es,e.Ok w
 eo:∀e∈es,∀g,(v.ownBlock=some g∨g=go)->iC g e.ba e.bn
 ep:∀e∈es,CU p e
 ch:o_ es S.p
 ex:X w0 w
 hi:∀g,S.M p g->w0.heap.size<=g
 go0:w0.heap.size<=go
section
variable {w0 w w':World} {gj gs go p:Nat} {S:aV} {v:Value} {es:List aG}
theorem Ga.ext(h:Ga w0 w gj gs go p S v es)(e:X w w'):Ga w0 w' gj gs go p S v es:=
 {h with st:=h.st.ext e,bj:=h.bj.ext e,bs:=h.bs.ext e,bo:=h.bo.ext e,own:=dQ h.own e,ok:=fun x j=>(h.ok x j).ext e,ex:=h.ex.ext e}
theorem Ga.apply(h:Ga w0 w gj gs go p S v es){T:aV}(aa:dJ w' p T)(m:gB (S.M p) w w')(hn:∀g,T.M p g->S.M p g∨w.heap.size<=g)(ab:∀g,g<w.heap.size->S.Off g->T.Off g):
 dJ w' p T/\ah w' gj [.bool false] 4/\ah w' gs [.pointer (some ⟨p,0,none⟩)] 25/\ah w' go [v] 24/\w'.ownsRow w0.heap.size 34 68 v es.length (iM es)/\
  (∀g,(v.ownBlock=some g∨g=go)->T.Off g)/\(∀e∈es,e.Ok w')/\X w0 w'/\(∀g,T.M p g->w0.heap.size<=g):=by
 have I:∀g,S.M p g->g=p∨jr w g:=fun g j=>h.st.Iz j;have ac:∀g,v.ownBlock=some g->¬S.M p g:=by
  intro g j E;rcases I g E with u|u
  ·subst u;exact GU h.own h.st.blk aX j
  ·exact EU h.own g j u
 exact⟨aa,h.bj.mut m (h.st.notM h.bj aX),h.bs.mut m (h.st.notM h.bs aX),h.bo.mut m (h.st.notM h.bo aX),abt h.own m ac,fun g j=>ab g (j.elim (fun j=>(h.own.lt g j).2) (fun j=>j▸h.bo.lt)) (h.off g j),
  fun e R=>(h.ok e R).mut m I (h.ep e R),m.Ep h.ex (fun x ad E=>by have:=h.hi x E;omega),fun g j=>(hn g j).elim (h.hi g) (fun u=>Nat.le_trans h.ex.size u)⟩
end
end
theorem TB{x:Nat}(h:4611686018427387904<x)(j:x<18446744073709551616):kK x<0∨1099511627776<kK x:=by grind [kK,IntKind.wrap_i64]
theorem IG{w w':World}{B b:Nat}{e T:TypeId}{z n:Nat}{v:Value}{xs vs:aO}(h:w.ownsRow B e z v n xs)(u:aU w b w')(hb:ah w b vs T)(ab:e≠T):w'.ownsRow B e z v n xs:=by
 refine⟨h.1,?_⟩;rcases h.2 with h|⟨g,cap,cu,E,I,j,R⟩
 ·exact .inl h
 ·have aa:g≠b:=by
   rintro rfl;unfold ah at hb;rw[j]at hb;injection hb with hb;injection hb with _ hb;exact ab hb
  exact .inr ⟨g,cap,cu,E,I,(u.block g aa).trans j,R⟩
theorem TD{l:aj}{p M k:Nat}(h:k+4<=M):iW ((l.drop p).take M) k=iW l (p+k):=by grind [iW]
theorem TF{l:aj}{p M k:Nat}(h:k+8<=M):fE ((l.drop p).take M) k=fE l (p+k):=by grind [fE,TD,Nat.add_assoc]
theorem TG(j:aj)(M k:Nat)(h:k+8<=M):∃E u:Int,vW j M (k:Int)= .tuple #[.int .i64 E,.int .i64 u]/\((u=0/\E=(fE j k:Nat)/\fE j k<=4611686018427387904)∨(u=4/\4611686018427387904<fE j k)):=by
 unfold vW;rw[if_pos (by unfold g_;rw[if_neg J,if_neg J]),Int.toNat_natCast];by_cases h:fE j k<=4611686018427387904
 ·rw[if_pos h];exact⟨_,_,F,.inl ⟨F,F,h⟩⟩
 ·rw[if_neg h];exact⟨_,_,F,.inr ⟨F,J⟩⟩
theorem abu{x:dW}(h:dR x.num 0 65535=true∨dR x.time 0 1099511627776=true):jX x=4:=by grind [jX,dN,dW.r]
theorem TI{x:dW}{e:Int}{j:dW×Int×Int}(h:(if jX x=0 then(x,e,0)else(u_,0,jX x))=j):(jX x=0/\j=(x,e,0))∨(jX x≠0/\j=(u_,0,jX x)):=by grind
theorem abv{x:dW}{e:Int}{j:dW×Int×Int}(h:(jX x=0/\j=(x,e,0))∨(jX x≠0/\j=(u_,0,jX x)))(u:jX x=4):j=(u_,0,4):=by grind
theorem abw{A:Int}(h:A<0∨1099511627776<A):dR A 0 1099511627776=true:=by grind [dR]
theorem abx{A:Int}(h:A<0∨1099511627776<A):dR A 0 65535=true:=by grind [dR]
theorem aby{l:aj}{p N:Nat}(h:4611686018427387904<fE l (p+4)∨4611686018427387904<fE l (p+12)):jX (wQ l p N)=4:=by
 refine abu ?_;rcases h with h|h
 ·exact .inl (abx (TB h (JQ _ _)))
 ·exact .inr (abw (TB h (JQ _ _)))
theorem Mc{P:Program}{o:Oper}{a:Act}{t e:TypeId}{x y:Operand}{p q:aN}{n c k z:Nat}(u:qX p c k z=q)(j:o.op= .slice t x (some y) none none)(I:a.eval x= .slice p n c)(R:a.eval y= .int .i64 (k:Int))(E:P.underlying t=some (.slice e))(hs:(P.info? e).map (·.size)=some z)(hk:k<=n)(w:World):
 (execOp a.eval o).run P w= .ok (.value (.slice q (n - k) (c - k))) w:=by grind [Jr]
theorem abz(l:aj)(a:aN)(n c:Nat)(at_:Int)(w:World)(cw:l.length=n)(e3:n<=c)(hn:n<=140737488355328)(hc:c<=9223372036854775807)(dr:aK w a (l.map Y)):
 Calls prog 55 #[.slice a n c,.int .i64 at_] w (Le l at_ w):=by
 obtain⟨ag,bl,mU⟩:=aW cw dr (fun w' h=>aak l a n c at_ w' cw e3 hn h);have d':=fun E w' h e=>SB (l:=l) (at_:=at_) (w:=w) (w':=w') (E:=E) h e;have ar:=O d';obtain⟨ex,u⟩:=aC (fQ l at_);rw[u]at ar;have cR:=O u;unfold fQ at u;obtain⟨E,bv⟩:=aC (qI l at_);rw[bv]at mU u;clear dr d';by_cases q:E=0
 rotate_left
 ·rw[if_pos q]at u;have e8:(E != 0)=true:=by simpa using q
  rw[if_neg q]at mU;have R:=O u.symm;clear u q bv;go_enter func55,ntmps55;go_upto_region 1 with(fail);generalize iX:World.alloc w _=ad;have zA:ah ad w.heap.size dS.v 34:=by rw[<-iX];exact ah.aI F F
  have ap:X w ad:=by rw[<-iX];exact(X.refl w).alloc _
  obtain⟨ZA,EA⟩:=aB zA ap;clear iX zA ap;go_wp2_with fail;refine(mU ad (bl.ext EA)).mono ?_;rintro x wB ⟨rfl,ac⟩;obtain⟨a1,aq⟩:=aB (ZA.ext ac) (EA.ext ac);clear ac ZA EA mU;go_wp2_with (refine bg F _ _ _ F F F a1 cZ dZ (xs:=dS.v) dZ (i_ dS) ?_);intro a8 cf a7;go_wp2_with fail;exact qJ F F cf cZ dZ F (ar E _ R (a7.ext aq l5))
 rw[if_neg (by simpa using q)]at u;rw[if_pos q]at mU;obtain⟨p,rfl,e4,e1,eN⟩:=aaj (bv.trans q);rw[Int.toNat_natCast]at u mU;obtain⟨N,dj⟩:=aC (nH l p);rw[dj]at u mU eN;subst q;rw[cw]at u e4;clear bv e1 dj;have fa:IntKind.i64.wrap ((n:Int) - p)=(n:Int) - p:=IntWalk.i64_in _ J;by_cases cA:n<p+121+N
 ·rw[if_pos cA]at u;have R:=O u.symm;have ch:decide ((n:Int) - p<((121+N:Nat):Int))=true:=aQ J;clear u cA;obtain⟨M,co⟩:=aC (121+N);rw[co]at mU ch;go_enter func55,ntmps55;go_upto_region 1 with(fail);generalize iX:World.alloc w _=ad;have zA:ah ad w.heap.size dS.v 34:=by rw[<-iX];exact ah.aI F F
  have ap:X w ad:=by rw[<-iX];exact(X.refl w).alloc _
  obtain⟨ZA,EA⟩:=aB zA ap;clear iX zA ap;go_wp2_with fail;refine(mU ad (bl.ext EA)).mono ?_;rintro x wB ⟨rfl,ac⟩;obtain⟨a1,aq⟩:=aB (ZA.ext ac) (EA.ext ac);clear ac ZA EA mU;go_wp2_with (refine bg F _ _ _ F F F a1 cZ dZ (xs:=dS.v) dZ (i_ dS) ?_);intro a8 cf a7;go_wp2_with fail;exact qJ F F cf cZ dZ F (ar 1 _ R (a7.ext aq l5))
 rw[if_neg cA]at u;have ch:decide ((n:Int) - p<((121+N:Nat):Int))=false:=aP J;obtain⟨b,off,rfl,b2⟩:=bl.gQ (by rw[length_map,ag.out];omega);have EB:dL (some ⟨b,off,none⟩) c p=some ⟨b,off+p,none⟩:=by unfold dL;rw[if_neg J,Option.map_some,dn]
 have eo:=O EB;obtain⟨K,dg⟩:=aC (89+N);obtain⟨M,co⟩:=aC (121+N);obtain⟨S,bz⟩:=aC (dY 3 ((l.drop p).take K));obtain⟨aw,b0⟩:=aC ((l.drop (p+K)).take 32);have Fy:Cm l p N=(S==aw):=by unfold Cm;rw[dg,Nat.add_assoc,dg,bz,b0]
 rw[Fy]at u;rw[co]at mU ch;have cr:S.length=32:=by rw[<-bz];exact j_ _ _
 have cq:aw.length=32:=by rw[<-b0,length_take,length_drop,ag.out];omega
 have cy:=O (fun w' h=>Gf 3 ((l.drop p).take K) K (c - p) (some ⟨b,off+p,none⟩) w' (by rw[length_take,length_drop,ag.out];omega) J J (fun h=>by cases h) h);have d7:uX 3 ((l.drop p).take K) K= .tuple #[.agg (S.map Y).toArray,.int .i64 0]:=by
  unfold uX;rw[if_neg J,if_pos J,bz]
 rw[d7]at cy;obtain⟨dy,cU,cV⟩:=aW (fun w=>vY underlying31 S aw cr cq w) (show(S.map Y).length=32 by rw[length_map,cr]) (show(aw.map Y).length=32 by rw[length_map,cq]);have eb:=b_ S;have c5:aK w (some ⟨b,off+p,none⟩) (((l.drop p).take K).map Y):=xW b2 p K;have c6:dP w ⟨b,off+p+K*1,none⟩ (aw.map Y):=by
  rw[<-b0,Nat.mul_one,Nat.add_assoc];exact xU b2 (p+K) 32
 obtain⟨cG,cH,a0⟩:=aW c5 c6 b2;have fd:IntKind.i64.wrap ((p:Int)+(M:Int))=((p+M:Nat):Int):=by rw[IntWalk.i64_in _ J];omega
 have fc:IntKind.i64.wrap ((M:Int) - 32)=(K:Int):=by rw[IntWalk.i64_in _ J];omega
 have eV:p+M<=c:=J;have di:K<=c - p:=J;have e_:M - K=32:=J;have d8:qX (some ⟨b,off+p,none⟩) (c - p) K 1=some ⟨b,off+p+K*1,none⟩:=by unfold qX;rw[if_neg J,Option.map_some,dn]
 obtain⟨ev,aa⟩:=aB d8 u;clear b2 EB bz b0 Fy d7 cr cq c5 c6 d8 u;go_enter func55,ntmps55;go_upto_region 1 with(fail);generalize iX:World.alloc w _=ad;have zA:ah ad w.heap.size dS.v 34:=by rw[<-iX];exact ah.aI F F
 have ap:X w ad:=by rw[<-iX];exact(X.refl w).alloc _
 obtain⟨ZA,EA⟩:=aB zA ap;clear iX zA ap;go_wp2_with fail;refine(mU ad (bl.ext EA)).mono ?_;rintro x wB ⟨rfl,ac⟩;obtain⟨a1,aq⟩:=aB (ZA.ext ac) (EA.ext ac);clear ac ZA EA mU;go_wp2_with (first|(refine bF F (oV (k:=p) (h:=p+M) F F F F underlying32 gu J eV eo _) ?_)|(refine bF F (zB (k:=K) F F F underlying32 gu di _) ?_));refine(cy wB (cG.ext aq)).mono ?_;rintro x b5 ⟨rfl,az⟩;obtain⟨cc,cN⟩:=aB (a1.ext az) (aq.ext az);clear az a1 aq cy cG;go_wp2_with (refine bg F _ _ _ F F F (ah.aI (vs:=List.replicate 32 (.int .u8 0)) F F) qA aF cU eb ?_);intro a8 ed a7;have az:X b5 a8:=a7.ext ((X.refl b5).alloc _) l5;obtain⟨cb,cM,bm⟩:=aW (cc.ext az) (cN.ext az) ed;have e0:w.heap.size<b5.heap.size:=cc.lt;clear a7 az ed cc cN eb;obtain⟨gs,dv⟩:=aC b5.heap.size;rw[dv]at bm e0⊢;clear dv;go_upto_region 9 with(fail);obtain⟨C,iB,aJ,bP⟩:=iw (show bT w a8 [w.heap.size,gs] [] a8 from bT.jA cM (dV.two cb.lt bm.lt));have be:∀j,C j->dP j ⟨gs,0,none⟩ (S.map Y):=fun j I=>dP.of (aK.tO (((iB j).1 I).blk bm aF));have bh:∀j,C j->dP j ⟨b,off+p+K*1,none⟩ (aw.map Y):=fun j I=>cH.ext ((iB j).1 I).base;refine fJ fun Z=> ?_;refine bD 0 F (bf F (fun j h=>bQ F F (be j h) qA cU)) ?_;refine aA 1 ?_;refine aA 2 ?_;refine bD 3 F (bf F (fun j _=>Mc (k:=K) ev F F F underlying32 gu J j)) ?_;refine bD 4 F (bf F (fun j _=>rC (n:=32) F F underlying31 J j)) ?_;refine bD 5 F (bf F (fun j h=>bQ F F (bh j h) qA cV)) ?_;refine bD 6 F (bf F (fun j _=>jm F F F EI dy j)) ?_;generalize a8.drew=wD at*;have cd:=O (((iB wD).1 Z).blk cb aF);have bk:=O ((iB wD).1 Z).base
 clear Z iB aJ bP be bh cb cM bm cH cV dy;refine dH ?_;cases cC:(S==aw)with
 |false=>
  have R:=O (show ex=(u_,0,13) by have h:=aa.out;rw[cC,if_pos F]at h;exact h.symm);clear aa;go_wp2_with (refine bg F _ _ _ F F F cd cZ dZ (xs:=dS.v) dZ (i_ dS) ?_);intro wE eA e5;go_wp2_with fail;exact qJ F F eA cZ dZ F (ar 13 _ R (e5.ext bk l5))
 |true=>
 have u:=aa.out;rw[cC,if_neg aX]at u;replace u:=TI u;clear aa cC;obtain⟨af,b1⟩:=aC ((l.drop p).take M);have dp:af.length=M:=by rw[<-b1,length_take,length_drop,ag.out];omega
 have dm:fE af 4=fE l (p+4):=by rw[<-b1];exact TF J
 have dl:fE af 12=fE l (p+12):=by rw[<-b1];exact TF J
 obtain⟨db,a6,dC,a3⟩:=TG af M 4 J;obtain⟨ee,bj,dT,a4⟩:=TG af M 12 J;rw[dm]at a3;rw[dl]at a4;have c7:∀w',X w w'->aK w' (some ⟨b,off+p,none⟩) (af.map Y):=fun w' e=>by rw[<-b1];exact(xW a0 p M).ext e
 obtain⟨ct,cv⟩:=aB (fun w' h=>Jz af (some ⟨b,off+p,none⟩) M (c - p) 4 w' dp J J h) (fun w' h=>Jz af (some ⟨b,off+p,none⟩) M (c - p) 12 w' dp J J h);have dE:vW af M 4= .tuple #[.int .i64 db,.int .i64 a6]:=dC;have d0:vW af M 12= .tuple #[.int .i64 ee,.int .i64 bj]:=dT;rw[dE]at ct;rw[d0]at cv;have cI:=O c7;clear dC dT dE d0 c7 dm dl;go_wp2_with fail;refine(ct wD (cI _ bk)).mono ?_;rintro x wE ⟨rfl,cj⟩;obtain⟨c0,aE⟩:=aB (cd.ext cj) (bk.ext cj);clear cj cd bk ct;go_wp2_with fail;refine(cv wE (cI _ aE)).mono ?_;rintro x wF ⟨rfl,eF⟩;obtain⟨ax,a9⟩:=aB (c0.ext eF) (aE.ext eF);clear eF c0 aE cv;by_cases bi:a6=0/\bj=0
 rotate_left
 ·have dq:4611686018427387904<fE l (p+4)∨4611686018427387904<fE l (p+12):=by
   rcases a3 with⟨I, -, -⟩|⟨-,I⟩
   ·rcases a4 with⟨al, -, -⟩|⟨-,al⟩
    ·exact absurd ⟨I,al⟩ bi
    ·exact .inr al
   ·exact .inl I
  have a2:jX (wQ l p N)=4:=aby dq;have R:=O (abv u a2);have ci:((a6 != 0)||(bj != 0))=true:=by
   by_cases I:a6=0
   ·have al:bj≠0:=fun al=>bi ⟨I,al⟩;simp[I,al]
   ·simp[I]
  clear u a2 a3 a4 dq;by_cases I:a6=0
  ·subst I;have al:(bj != 0)=true:=by simpa using ci
   clear bi ci;go_wp2_with (refine bg F _ _ _ F F F ax cZ dZ (xs:=dS.v) dZ (i_ dS) ?_);intro wG bG cF;go_wp2_with fail;exact qJ F F bG cZ dZ F (ar 4 _ R (cF.ext a9 l5))
  ·have I:(a6 != 0)=true:=by simpa using I
   clear bi ci;go_wp2_with (refine bg F _ _ _ F F F ax cZ dZ (xs:=dS.v) dZ (i_ dS) ?_);intro wG bG cF;go_wp2_with fail;exact qJ F F bG cZ dZ F (ar 4 _ R (cF.ext a9 l5))
 obtain⟨rfl,rfl⟩:=bi;obtain⟨rfl,a3⟩:db=(fE l (p+4):Nat)/\fE l (p+4)<=4611686018427387904:=by rcases a3 with⟨-,h,ck⟩|⟨h, -⟩;exact⟨h,ck⟩;cases h
 obtain⟨rfl,a4⟩:ee=(fE l (p+12):Nat)/\fE l (p+12)<=4611686018427387904:=by rcases a4 with⟨-,h,ck⟩|⟨h, -⟩;exact⟨h,ck⟩;cases h
 have a5:∃ab,l[p+20]?.getD 0=ab:=⟨_,F⟩;obtain⟨ab,a5⟩:=a5;obtain⟨am,bo⟩:=aC ((l.drop (p+21)).take 16);obtain⟨an,bp⟩:=aC ((l.drop (p+37)).take 16);obtain⟨ao,br⟩:=aC ((l.drop (p+53)).take 32);obtain⟨ae,bt⟩:=aC ((l.drop (p+89)).take N);have cl:am.length=16:=by rw[<-bo,length_take,length_drop,ag.out];clear u;omega
 have cm:an.length=16:=by rw[<-bp,length_take,length_drop,ag.out];clear u;omega
 have cn:ao.length=32:=by rw[<-br,length_take,length_drop,ag.out];clear u;omega
 have dc:ae.length=N:=by rw[<-bt,length_take,length_drop,ag.out];clear u;omega
 have dt:wQ l p N=⟨(fE l (p+4):Nat),(fE l (p+12):Nat),(ab.toNat:Int),am,an,ao,ae⟩:=by
  unfold wQ;rw[DW (by clear u;omega),DW (by clear u;omega),a5,bo,bp,br,bt]
 rw[dt]at u;have c8:dP w ⟨b,off+p+21,none⟩ (am.map Y):=by rw[<-bo,Nat.add_assoc];exact xU a0 (p+21) 16
 have c9:dP w ⟨b,off+p+37,none⟩ (an.map Y):=by rw[<-bp,Nat.add_assoc];exact xU a0 (p+37) 16
 have c_:dP w ⟨b,off+p+53,none⟩ (ao.map Y):=by rw[<-br,Nat.add_assoc];exact xU a0 (p+53) 32
 have da:aK w (some ⟨b,off+p+89,none⟩) (ae.map Y):=by rw[<-bt,Nat.add_assoc];exact xW a0 (p+89) N
 have c4:w.cell? ⟨b,off+p+20*1,none⟩=some (.int .u8 (ab.toNat:Nat)):=by
  have h:=a0.out (p+20) (Y ab) (by rw[List.getElem?_map];have:l[p+20]? =some (l[p+20]'(by rw[ag.out];clear u;omega)):=List.getElem?_eq_getElem _;rw[this]at a5⊢;rw[<-a5];rfl);rw[<-Nat.add_assoc]at h;exact h
 obtain⟨cg,cs⟩:=aC (((fE l (p+4):Nat):Int):Int);obtain⟨cD,cz⟩:=aC (((fE l (p+12):Nat):Int):Int);rw[cs,cz]at u;rw[cs,cz];have aa:=O u;clear u;have fb:IntKind.i64.wrap (ab.toNat:Int)=(ab.toNat:Int):=IntWalk.i64_in _ (by have:=ab.toNat_lt;omega);have d3:dL (some ⟨b,off+p,none⟩) (c - p) 21=some ⟨b,off+p+21,none⟩:=by unfold dL;rw[if_neg J,Option.map_some,dn]
 have d4:dL (some ⟨b,off+p,none⟩) (c - p) 37=some ⟨b,off+p+37,none⟩:=by unfold dL;rw[if_neg J,Option.map_some,dn]
 have d5:dL (some ⟨b,off+p,none⟩) (c - p) 53=some ⟨b,off+p+53,none⟩:=by unfold dL;rw[if_neg J,Option.map_some,dn]
 have d6:dL (some ⟨b,off+p,none⟩) (c - p) 89=some ⟨b,off+p+89,none⟩:=by unfold dL;rw[if_neg J,Option.map_some,dn]
 obtain⟨ep,Im,er,et,ei,ej,ek,eh⟩:=jg d3 d4 d5 d6 c8 c9 c_ c4;have eJ:K - 89=N:=J;obtain⟨ds,el,em,en,b7,b8,b9⟩:=su (fun w' e=>DL ae (some ⟨b,off+p+89,none⟩) N (c - p - 89) w' dc J (da.ext e)) (show(am.map Y).length=16 by rw[length_map,cl]) (show(an.map Y).length=16 by rw[length_map,cm]) (show(ao.map Y).length=32 by rw[length_map,cn]) cl cm cn;have eQ:37<=c - p:=J;have eR:53<=c - p:=J;have eS:85<=c - p:=J;have eK:20<M:=J;have eI:89<=K:=J;clear d3 d4 d5 d6 c8 c9 c_ c4 da cl cm cn dt cs cz a5 a3 a4 bo bp br bt;go_upto_region 15 with(fail);obtain⟨C,iB,aJ,bP⟩:=iw (show bT w wF [w.heap.size] [] wF from bT.jA a9 (dV.one ax.lt));have be:∀j,C j->j.cell? ⟨b,off+p+20*1,none⟩=some (.int .u8 (ab.toNat:Nat)):=fun j I=>gW eh ((iB j).1 I).base;have bh:∀j,C j->dP j ⟨b,off+p+21,none⟩ (am.map Y):=fun j I=>ei.ext ((iB j).1 I).base;have d1:∀j,C j->dP j ⟨b,off+p+37,none⟩ (an.map Y):=fun j I=>ej.ext ((iB j).1 I).base;have d2:∀j,C j->dP j ⟨b,off+p+53,none⟩ (ao.map Y):=fun j I=>ek.ext ((iB j).1 I).base;refine fJ fun Z=> ?_;refine aA 0 ?_;refine aA 1 ?_;refine aA 2 ?_;refine bD 3 F (bf F (fun j _=>fP (i:=20) F F F underlying32 gu eK j)) ?_;refine bD 4 F (bf F (fun j h=>kT F F (be j h) FI)) ?_;refine aA 5 ?_;refine aA 6 ?_;refine bD 7 F (bf F (fun j _=>oV (k:=21) (h:=37) F F F F underlying32 gu J eQ ep j)) ?_;refine bD 8 F (bf F (fun j _=>rC (n:=16) F F underlying29 J j)) ?_;refine bD 9 F (bf F (fun j h=>bQ F F (bh j h) dh el)) ?_;refine aA 10 ?_;refine bD 11 F (bf F (fun j _=>oV (k:=37) (h:=53) F F F F underlying32 gu J eR Im j)) ?_
 refine bD 12 F (bf F (fun j _=>rC (n:=16) F F underlying29 J j)) ?_;refine bD 13 F (bf F (fun j h=>bQ F F (d1 j h) dh em)) ?_;refine aA 14 ?_;refine bD 15 F (bf F (fun j _=>oV (k:=53) (h:=85) F F F F underlying32 gu J eS er j)) ?_;refine bD 16 F (bf F (fun j _=>rC (n:=32) F F underlying31 J j)) ?_;refine bD 17 F (bf F (fun j h=>bQ F F (d2 j h) qA en)) ?_;refine aA 18 ?_;refine aA 19 ?_;refine bD 20 F (bf F (fun j _=>oV (k:=89) (h:=K) F F F F underlying32 gu eI di et j)) ?_;rw[eJ];refine zo (B:=World.heap wF |>.size) (A:=23) (d:=17) (T:=34) (vs:=dS.v) (D:=C) undef F aJ (fun _ h=>h) (fun _ h=>((iB _).1 h).kept.1) Z ?_;try dsimp only
 refine cO ?_;refine lZ 21 (β:=aN×Nat) (fun z=> .slice z.1 N z.2) (fun z w'=>w'.ownsRow (w.heap.size+1) 5 1 (.slice z.1 N z.2) N (ae.map Y)) F F F F (fun _ _=>rfl) au au au F (fun _ _=>jw) ?phi21 ?step21 ?rest21
 case phi21=>exact fun z j w2 h e=>dQ h e
 case step21=>
  intro x j de cX bw;have eM:w.heap.size+1<=j.heap.size:=by have:=ax.lt;have:=((iB j).1 de).kept.1;omega
  have eC:=((iB j).1 de).base;clear Z;go_wp2_with fail;refine(ds j eC).mono ?_;rintro e w2 ⟨v,rfl,own, -,e2⟩;obtain⟨a',c',rfl, -, -, -, -⟩:=nT own;go_wp2_with fail;exact bw (a',c') _ e2 (mg own eM)
 case rest21=>
 rintro⟨c2,c3⟩;refine aH ?_;refine AY 22 F (fun _=>bf F (fun j _=>QH ae F F F F F F F F b7 b8 b9 j)) ?_;refine wY F F F (fun _ _=>rfl) au (fun _ _=>jw) ?_;rintro ez e6 ⟨dd,ec⟩ ea hb;obtain⟨b',cP,cW⟩:=aW hb ((iB e6).1 dd) ec;clear hb dd ec be bh d1 d2 ds;obtain⟨ai,bx⟩:=jE (⟨cg,cD,(ab.toNat:Int),am,an,ao,c2,N,c3,ae⟩:aG);rw[<-bx];obtain⟨cS,a_⟩:=aB bx (show ai.v.length=68 by rw[bx];unfold aG.v;simp[b7.out,b8.out,b9.out]);clear bx;refine aZ 24 ?_;intro cX bw;go_wp2_with (refine bg F _ _ _ F F F b' cZ dZ (xs:=ai.v) a_ (i_ ai) ?_);intro ef c1 cE;have bu:=bT.upd cP cE ea a9.size;refine bw _ _ ((iB ef).2 bu) ?_;obtain⟨b6,cY⟩:=aB c1 (bu.blk ax aF);have cJ:=O bu.base;have FL:=O (IG cW cE b' aX);have e':w.heap.size<ez:=Nat.lt_of_lt_of_le ax.lt ea;clear bw cX cE c1 bu cP b' a9 ax cW;refine dH ?_;unfold vS;have cx:∀w',w'.ownsRow (w.heap.size+1) 5 1 (.slice c2 N c3) N (ae.map Y)->ai.Ld w' w.heap.size:=by
  intro w' h;obtain⟨a',c',eW,I,al,eE,a2⟩:=nT h;cases eW;have eL:N<=140737488355328:=by clear a2 aa;omega
  rw[cS.out];refine⟨⟨b7,b8,b9,dc,I,eL,fun h=> ?_,a2⟩,SA h a2 J⟩;have:=eE h;exact⟨by simp only;omega,this⟩
 have cQ:=O cx;have cp:ai.p=⟨cg,cD,(ab.toNat:Int),am,an,ao,ae⟩:=by rw[cS.out];rfl
 have bd:=O (fun w' h=>Qy ai w' h);rw[xH,cp]at bd;have cT:=O cp;obtain⟨ey,dk⟩:=aC ((⟨cg,cD,(ab.toNat:Int),am,an,ao,ae⟩:dW):dW);rw[dk]at aa bd cT;obtain⟨aE,df⟩:=aC (jX ey);rw[df]at aa bd;have du:((p+121+N:Nat):Int)=((p+M:Nat):Int):=by clear cx;omega
 rw[du]at aa;clear cx cp dk df du;go_wp2_with (refine bV F 34 (.tmp 17) F F b6 cZ a_ ?_);refine(bd ef (cQ _ FL).1).mono ?_;rintro x fe ⟨rfl,ba⟩;obtain⟨ca,eg,cL,ew⟩:=bU (cY.ext ba) (b6.ext ba) (cJ.ext ba) (dQ FL ba);clear ba cY b6 cJ FL bd;rcases aa.out with⟨b3,bc⟩|⟨b3,bc⟩
 ·subst b3;have R:=O bc;clear aa bc;go_wp2_with (first|(refine bV F 34 (.tmp 17) F F eg cZ a_ ?_)|(refine bg F _ _ _ F F F ca cZ dZ (xs:=ai.v) a_ (i_ ai) ?_));intro e7 ce b4;go_wp2_with fail;refine qJ F F ce cZ a_ F ⟨ai,?_,cQ _ (IG ew b4 ca aX),?_,b4.ext cL l5⟩
  ·rw[cR.out,R.out];rfl
  ·rw[cR.out,R.out,cT.out]
 ·have R:=O bc;have e9:(aE != 0)=true:=by simpa using b3
  clear aa bc b3;go_wp2_with (refine bg F _ _ _ F F F ca cZ dZ (xs:=dS.v) dZ (i_ dS) ?_);intro e7 ce b4;go_wp2_with fail;exact qJ F F ce cZ dZ F (ar aE _ R (b4.ext cL l5))
section
open Go Go.RowKit
section
variable {P:Program} {ops:Array Oper} {Q:Exit->Act->World->Prop} {T S:World->Prop} {W:List Nat}
def lX(P:Program)(ops:Array Oper)(Q:Exit->Act->World->Prop)(T S:World->Prop)(W:List Nat):Nat->Array Bool->Act->World->Prop
 |0,listed,a,w=>Region.ready .any ops listed=[]/\Q .normal a w
 |f+1,listed,a,w=>(Region.ready .any ops listed=[]->Q .normal a w)/\
  ∀i∈Region.ready .any ops listed,wpOp P ops Q i (fun a' w'=>(T w'/\(W.contains i=false->S w->S w'))/\lX P ops Q T S W f (listed.setIfInBounds i true) a' w') a w
theorem TK:∀(f:Nat) (j:Array Bool) (a:Act) (w:World),lX P ops Q T S W f j a w->wpAny P .any ops Q f j a w
 |0,_,_,_,h=>h
 |f+1,_,_,_,h=>⟨h.1,fun i E=>wpOp_mono (fun a' w' u=>TK f _ a' w' u.2) (h.2 i E)⟩
theorem Md{I:World->Prop}{i:Nat}{ab:Oper}{v:Value}(am:ops[i]? =some ab)(az:∀(j:Nat) (o:Oper) cs b,ops[j]? =some o->o.op≠.select cs b)
 (a1:∀u j w w',y8 ops u->(u.getD i false=true->False)->j∈Region.ready .any ops u->(T w'/\(W.contains j=false->S w->S w'))->I w->I w')
 (a2:∀c a w,Q (.panic c) (a.put ab.dst v) w->Q (.panic c) a w):
 ∀(f:Nat) (u:Array Bool) (a:Act) (w:World),y8 ops u->
  (∀j ac,ops[j]? =some ac->j≠i->u.getD j true=false->(∀e∈ac.after,Region.binds .any e=true->e.on≠i)->ab.apart ops ac=true)->
  i∈Region.ready .any ops u->YieldsIf P ops I ab v a->I w->T w->
  lX P ops Q T S W f (u.setIfInBounds i true) (a.put ab.dst v) w->lX P ops Q T S W (f+1) u a w:=by
 intro f;induction f with
 |zero=>
  intro u a w _ _ aa ai ag al H;refine⟨fun h=>(by rw[h]at aa;cases aa),fun j ad=> ?_⟩;by_cases E:j=i
  ·subst E;exact ai.wpOp am ag ⟨⟨al,fun _ h=>h⟩,H⟩
  ·have:=ready_mono ad E;rw[H.1]at this;cases this
 |succ f a8=>
  intro u a w ao ap aa ai ag al H;refine⟨fun h=>(by rw[h]at aa;cases aa),fun j ad=> ?_⟩;by_cases E:j=i
  ·subst E;exact ai.wpOp am ag ⟨⟨al,fun _ h=>h⟩,H⟩
  ·have af:=H.2 j (ready_mono ad E);obtain⟨aw,ac,an,om⟩:=mem_ready.1 ad;have R:=(mem_ready.1 aa).1;have aq:u.getD i false=true->False:=fun h=>by
    simp only[Array.getD_eq_getD_getElem?]at h R;cases ax:u[i]? with
    |none=>rw[ax]at R;simp at R
    |some b=>rw[ax]at h R;simp at h R;rw[h]at R;cases R
   have a7:∀e∈ac.after,Region.binds .any e=true->e.on≠i:=fun e a3 hb Cx=>by
    have af:=om e a3 hb;rw[Cx]at af;exact aq af
   have a0:=wpOp_putIf an (ap j ac an E aw a7) (fun cs b=>az i ab cs b am) (fun cs b=>az j ac cs b an) a2 ai af;have a4:∀k ok,ops[k]? =some ok->k≠i->(u.setIfInBounds j true).getD k true=false->
    (∀e∈ok.after,Region.binds .any e=true->e.on≠i)->ab.apart ops ok=true:=fun k ok hk a5 aE a6=>by
    refine ap k ok hk a5 ?_ a6;by_cases ar:j=k
    ·subst ar;exact aw
    ·rw[getD_set_ne true ar]at aE;exact aE
   refine wpOp_mono (fun a' w' ae=>⟨ae.2.1,a8 (u.setIfInBounds j true) a' w' (ao.set ad) a4 (ready_mono aa (Ne.symm E)) ae.1 (a1 u j w w' ao aq ad ae.2.1 ag) ae.2.1.1 ?_⟩) a0;rw[Array.setIfInBounds_comm _ _ E];exact ae.2.2
theorem abE(i:Nat){u:Oper}{r:List Oper}{v:Value}{f:Nat}{j:Array Bool}{a:Act}{w:World}(E:ops.toList.drop i=u::r)
 (hs:Region.noSelect ops=true)(aa:uT ops j=true)(hf:Region.free .any ops j i=true)(ab:(Region.ready .any ops j).contains i=true)
 (I:∀c a w,Q (.panic c) (a.put u.dst v) w->Q (.panic c) a w)(ac:YieldsIf P ops (fun _=>True) u v a)(R:T w)
 (h:lX P ops Q T S W f (j.setIfInBounds i true) (a.put u.dst v) w):lX P ops Q T S W (f+1) j a w:=
 Md (jy E) (Region.noSelect_spec hs) (fun _ _ _ _ _ _ _ _ _=>trivial) I f j a w (FV aa) (Region.free_spec (jy E) hf) (by simpa using ab) ac trivial R h
theorem TL(i:Nat){u:Oper}{r:List Oper}{v:Value}{f:Nat}{j:Array Bool}{a:Act}{w:World}(I:ops.toList.drop i=u::r)
 (hs:Region.noSelect ops=true)(aa:uT ops j=true)(hf:Region.free .any ops j i=true)(ab:(Region.ready .any ops j).contains i=true)
 (R:∀c a w,Q (.panic c) (a.put u.dst v) w->Q (.panic c) a w)(ac:YieldsIf P ops T u v a)(E:T w)
 (h:lX P ops Q T S W f (j.setIfInBounds i true) (a.put u.dst v) w):lX P ops Q T S W (f+1) j a w:=
 Md (jy I) (Region.noSelect_spec hs) (fun _ _ _ _ _ _ _ h _=>h.1) R f j a w (FV aa) (Region.free_spec (jy I) hf) (by simpa using ab) ac E E h
theorem abG(i:Nat){E:Oper}{r:List Oper}{v:Value}{f:Nat}{u:Array Bool}{a:Act}{w:World}(I:ops.toList.drop i=E::r)
 (hs:Region.noSelect ops=true)(ad:(W.all fun j=>xq ops 12 j i)=true)(ae:uT ops u=true)(hf:Region.free .any ops u i=true)(af:(Region.ready .any ops u).contains i=true)
 (R:∀c a w,Q (.panic c) (a.put E.dst v) w->Q (.panic c) a w)(ai:YieldsIf P ops S E v a)(aa:S w)(ac:T w)
 (h:lX P ops Q T S W f (u.setIfInBounds i true) (a.put E.dst v) w):lX P ops Q T S W (f+1) u a w:=
 Md (jy I) (Region.noSelect_spec hs) (fun u j w w' hd ag hj h ab=>h.2 (by
  cases hq:W.contains j with
  |false=>rfl
  |true=>exact absurd (Jw hd 12 j i (OB hj) (all_eq_true.1 ad j (by simpa using hq))) ag) ab) R f u a w (FV ae) (Region.free_spec (jy I) hf) (by simpa using af) ai aa ac h
theorem II{i:Nat}{o:Oper}{r:List Oper}{f:Nat}{u:Array Bool}{a:Act}{w:World}(aa:Region.ready .any ops u=[i])(ae:ops.toList.drop i=o::r)
 (h:∀E:Exit->Act->World->Prop,(∀a w',T w'->(W.contains i=false->S w->S w')->lX P ops Q T S W f (u.setIfInBounds i true) a w'->E .normal a w')->wpList P ops E [o] a w):
 lX P ops Q T S W (f+1) u a w:=by
 refine⟨fun I=>(by rw[aa]at I;cases I),fun j R=> ?_⟩;rw[aa]at R;obtain rfl:j=i:=by simpa using R
 exact mZ (jy ae) (h _ fun a w' ac ab ad=>⟨⟨ac,ab⟩,ad⟩)
theorem abH{j:Array Bool}{a:Act}{w:World}(hr:Region.ready .any ops j=[])(h:Q .normal a w):∀f,lX P ops Q T S W f j a w
 |0=>⟨hr,h⟩
 |_+1=>⟨fun _=>h,by rw[hr];simp⟩
theorem abI{id:Nat}{a:Act}{w:World}(j:P.follows .mixedOrders=true)
 (h:lX P ops Q T S W ops.size (Array.replicate ops.size false) a w.drew):(Code.region id ops true).wp P Q a w:=
 wp_region_any j (TK _ _ _ _ h)
end
section
variable {P:Program} {ops:Array Oper} {Q:Exit->Act->World->Prop} {T S:World->Prop} {W:List Nat}
theorem rW(i:Nat){u:Oper}{r:List Oper}{f:Nat}{j:Array Bool}{a:Act}{w:World}{E:Prop}{v:Value}(h:E)(ac:ops.toList.drop i=u::r:=by exact F)(hs:Region.noSelect ops=true:=by kernel_rfl)(aa:uT ops j=true:=by kernel_rfl)(ab:Region.free .any ops j i=true:=by kernel_rfl)(ad:(Region.ready .any ops j).contains i=true:=by kernel_rfl)(ae:Region.wanted u (yielded ops a.tmps)=true:=by exact F)(af:∀w,(fun _=>True) w->(execOp a.eval u).run P w= .ok (.value v) w:=by(intro _ _;go_simp;try with_reducible rfl))(hx:E->lX P ops Q T S W f (j.setIfInBounds i true) (a.put u.dst v) w:=by(intro hx;simp only[Act.put,setIfInBounds_toArray,set_cons_succ,set_cons_zero];exact hx))(R:T w:=by exact qU)(I:∀c a w,Q (.panic c) (a.put u.dst v) w->Q (.panic c) a w:=by exact fun _ _ _ h=>h):lX P ops Q T S W (f+1) j a w:=
 abE i ac hs aa ab ad I (.inl ⟨ae,af⟩) R (hx h)
theorem abJ(i:Nat){u:Oper}{r:List Oper}{f:Nat}{j:Array Bool}{a:Act}{w:World}{I:Prop}{v:Value}{E:Prop}(hf:E)(h:I)(ad:ops.toList.drop i=u::r:=by exact F)(hs:Region.noSelect ops=true:=by kernel_rfl)(ab:uT ops j=true:=by kernel_rfl)(ac:Region.free .any ops j i=true:=by kernel_rfl)(ae:(Region.ready .any ops j).contains i=true:=by kernel_rfl)(af:Region.wanted u (yielded ops a.tmps)=true:=by exact F)(ag:E->∀w,T w->(execOp a.eval u).run P w= .ok (.value v) w:=by(intro hf wq eU;have oz:=hf wq eU;go_simp;try with_reducible rfl))(hx:I->lX P ops Q T S W f (j.setIfInBounds i true) (a.put u.dst v) w:=by(intro hx;simp only[Act.put,setIfInBounds_toArray,set_cons_succ,set_cons_zero];exact hx))(aa:T w:=by exact qU)(R:∀c a w,Q (.panic c) (a.put u.dst v) w->Q (.panic c) a w:=by exact fun _ _ _ h=>h):lX P ops Q T S W (f+1) j a w:=
 TL i ad hs ab ac ae R (.inl ⟨af,ag hf⟩) aa (hx h)
theorem abK(i:Nat){u:Oper}{r:List Oper}{f:Nat}{j:Array Bool}{a:Act}{w:World}{E:Prop}{v:Value}(ac:ops.toList.drop i=u::r)(ae:YieldsIf P ops T u v a)(h:E)(hs:Region.noSelect ops=true:=by kernel_rfl)(aa:uT ops j=true:=by kernel_rfl)(ab:Region.free .any ops j i=true:=by kernel_rfl)(ad:(Region.ready .any ops j).contains i=true:=by kernel_rfl)(hx:E->lX P ops Q T S W f (j.setIfInBounds i true) (a.put u.dst v) w:=by(intro hx;simp only[Act.put,setIfInBounds_toArray,set_cons_succ,set_cons_zero];exact hx))(R:T w:=by exact qU)(I:∀c a w,Q (.panic c) (a.put u.dst v) w->Q (.panic c) a w:=by exact fun _ _ _ h=>h):lX P ops Q T S W (f+1) j a w:=
 TL i ac hs aa ab ad I ae R (hx h)
theorem abL(i:Nat){E:Oper}{r:List Oper}{f:Nat}{u:Array Bool}{a:Act}{w:World}{R:Prop}{v:Value}{I:Prop}(hf:I)(h:R)(ag:ops.toList.drop i=E::r:=by exact F)(hs:Region.noSelect ops=true:=by kernel_rfl)(ad:(W.all fun j=>xq ops 12 j i)=true:=by kernel_rfl)(ae:uT ops u=true:=by kernel_rfl)(af:Region.free .any ops u i=true:=by kernel_rfl)(ai:(Region.ready .any ops u).contains i=true:=by kernel_rfl)(al:Region.wanted E (yielded ops a.tmps)=true:=by exact F)(am:I->∀w,S w->(execOp a.eval E).run P w= .ok (.value v) w:=by(intro hf wq eU;have oz:=hf wq eU;go_simp;try with_reducible rfl))(hx:R->lX P ops Q T S W f (u.setIfInBounds i true) (a.put E.dst v) w:=by(intro hx;simp only[Act.put,setIfInBounds_toArray,set_cons_succ,set_cons_zero];exact hx))(ab:S w:=by exact Z)(ac:T w:=by exact qU)(aa:∀c a w,Q (.panic c) (a.put E.dst v) w->Q (.panic c) a w:=by exact fun _ _ _ h=>h):lX P ops Q T S W (f+1) u a w:=
 abG i ag hs ad ae af ai aa (.inl ⟨al,am hf⟩) ab ac (hx h)
end
end
def yV(n:Nat):Code->Option (Array Oper)
 | .region id ops _=>if id=n then some ops else none
 | .seq a b=>match yV n a with
  |some c=>some c
  |none=>yV n b
 | .cond _ a b=>match yV n a with
  |some c=>some c
  |none=>yV n b
 | .loop c=>yV n c
 | .block _ c=>yV n c
 | .scope c=>yV n c
 |_=>none
def xZ(f:Func)(n:Nat):Array Oper:=((f.body.bind (yV n)).getD #[])
section
open Go Go.RowKit
theorem TM{w:World}{B g n:Nat}{a:aN}{xs:aO}(h:bJ w B a xs)(u:xs.length=0->n=0)(j:g<B):iC g a n:=by grind [bJ,iC]
theorem Me{w w':World}{B:Nat}{r:Option Nat}{a:aN}{xs:aj}(h:bJ w B a (xs.map Y))(j:∀g,r=some g->iC g a xs.length)(k:w.grownBy w' r):bJ w' B a (xs.map Y):=
 h.row (z:=1) (by rw[length_map,Nat.one_mul]) j k
structure mW(w:World)(B:Nat)(v:Value)(rs:List aG):Prop where
 own:w.ownsRow B 34 68 v rs.length (iM rs)
 ok:∀e∈rs,e.Ok w
 eo:∀e∈rs,∀g,v.ownBlock=some g->iC g e.ba e.bn
section
variable {w w':World} {B:Nat} {v v':Value} {rs:List aG}
theorem mW.nil(w:World)(B:Nat):mW w B (.slice none 0 0) []:=⟨⟨F,.inl ⟨F,F⟩⟩,aF,aF⟩
theorem mW.ext(h:mW w B v rs)(e:X w w'):mW w' B v rs:=⟨dQ h.own e,fun x j=>(h.ok x j).ext e,h.eo⟩
theorem mW.upd(h:mW w B v rs){g:Nat}{vs:aO}{T:TypeId}(u:aU w g w')(hb:ah w g vs T)(I:34≠T)(R:∀e∈rs,iC g e.ba e.bn):mW w' B v rs:=
 ⟨n_ h.own u hb I,fun x E=>(h.ok x E).row (r:=some g) (fun q j=>by injection j with j;exact j▸R x E) (qC u),h.eo⟩
theorem mW.append(h:mW w B v rs){e:aG}(aa:e.Ok w)(ab:∀g,v.ownBlock=some g->iC g e.ba e.bn)(ow:w'.ownsRow B 34 68 v' (rs.length+1) (iM rs++e.v))(R:w.grownBy w' v.ownBlock)
 (hb:v'.ownBlock=v.ownBlock∨v'.ownBlock=some w.heap.size):mW w' B v' (rs++[e]):=by
 have om:∀x∈rs++[e],x.Ok w/\∀g,v.ownBlock=some g->iC g x.ba x.bn:=fun x j=>by
  rcases mem_append.1 j with j|j
  ·exact⟨h.ok x j,h.eo x j⟩
  ·rw[mem_singleton.1 j];exact⟨aa,ab⟩
 refine⟨?_,fun x j=>(om x j).1.row (om x j).2 R,fun x j g u=> ?_⟩
 ·rw[length_append,length_singleton,GV];have:iM [e]=e.v:=by unfold iM;simp
  rw[this];exact ow
 ·rcases hb with E|E
  ·exact(om x j).2 g (E▸u)
  ·rw[E]at u;injection u with u;exact yU (om x j).1.hcl (fun I=>by rw[length_map,(om x j).1.hb]at I;exact I) J
theorem mW.lower(h:mW w B v rs){B':Nat}(hb:B'<=B):mW w B' v rs:=⟨mg h.own hb,h.ok,h.eo⟩
theorem mW.abM(h:mW w B v rs):∃a c,v= .slice a rs.length c/\sK w a rs.length c rs:=by grind [mW,sK,iJ]
end
end
section
open Go Go.RowKit
section
variable (nd:aj->aj->aj)
def mX(ls:List (aj)):aj:=
 if h:ls.length<2 then ls.headD iK else nd (mX (ls.take (fB ls.length))) (mX (ls.drop (fB ls.length)))
termination_by ls.length
decreasing_by
 ·have:=FX (n:=ls.length) J;rw[length_take];omega
 ·have:=FX (n:=ls.length) J;rw[length_drop];omega
theorem TN(x:aj):mX nd [x]=x:=by rw[mX];simp
theorem MB{ls:List (aj)}(h:2<=ls.length):mX nd ls=nd (mX nd (ls.take (fB ls.length))) (mX nd (ls.drop (fB ls.length))):=by
 rw[mX,dif_neg J]
theorem yX(u:∀a b,(nd a b).length=32){ls:List (aj)}(h:jB ls):(mX nd ls).length=32:=by
 rcases Nat.lt_or_ge ls.length 2 with j|j
 ·rw[mX,dif_pos j];cases ls with
  |nil=>exact Ym
  |cons x r=>exact h x aF
 ·rw[MB nd j];exact u _ _
end
end
section
open Go Go.RowKit
set_option maxRecDepth 100000
theorem K5{G:Prop}(e:G:=by
 intro n;induction n using Nat.strongRecOn with
 |ind n ih=>
 intro ls c a w hl h1 h2 nE hnc Db hcl;have Er:=O ih;clear ih;by_cases hn:n=1
 ·subst hn;obtain⟨y,rfl⟩:=length_eq_one_iff.1 hl;obtain⟨A,rfl,nu⟩:∃A,a=some A/\dP w (A.add (0*32)) (y.map Y):=by
   cases a with
   |none=>
    rcases hcl with h|⟨_,_,h,_⟩
    ·have:=Og nE;rw[h]at this;simp at this
    ·cases h
   |some A=>exact⟨A,F,hcl.rowAt nE F⟩
  have hy:=nE y aF;rw[TN];have rz:=O nu;have HY:Hid ((y.map Y).length=32):=O (by rw[length_map,hy]);have oy:=b_ y;clear Er hcl nE hl nu hy;generalize y.map Y=yv at*;first|go_enter func101,ntmps101|go_enter func60,ntmps60
  go_upto_region 1 with(fail);generalize iX:World.alloc w _=wA;have zA:ah wA w.heap.size (List.replicate 32 (.int .u8 0)) 31:=by rw[<-iX];exact ah.aI F F
  have eA:X w wA:=by rw[<-iX];exact(X.refl w).alloc _
  clear iX;obtain⟨ZA,EA,CA⟩:=aW zA eA (rz.ext eA);clear zA eA;go_wp2_with (first|(refine bF F (fP (i:=0) F F F underlying59 Bf J wA) ?_)|(refine bF F (bQ F F CA bY HY) ?_)|(refine bg F _ _ _ F F F ZA bY aF HY oy ?_));intro w4 b4 u4;go_wp2;refine gG F F b4 bY HY F ⟨F,u4.ext EA l5⟩
 ·have uW:=FX (n:=n) J;obtain⟨hc,hd⟩:=aB (fun w=>gL n w J J) (fun w=>Xd n w J J);have hr:=MB iO (ls:=ls) J;rw[hl]at hr;have yD:(ls.take (fB n)).length=fB n:=by rw[length_take];omega
  have sP:(ls.drop (fB n)).length=n - fB n:=by rw[length_drop];omega
  obtain⟨Cv,Da⟩:=aB (fun w' tF=>Er (fB n) J (ls.take (fB n)) c a w' yD J J (nE.take _) J Db tF) (fun w' tF=>Er (n - fB n) J (ls.drop (fB n)) (c - fB n) (qX a c (fB n) 32) w' sP J J (nE.drop _) J J tF);have EB:=yX iO tY (nE.take (fB n));have Cy:=yX iO tY (nE.drop (fB n));have Co:=hcl.Oj nE (fB n);have y9:=hcl.Ol nE c (fB n) J;rw[hr];generalize mX iO (ls.take (fB n))=p at*;generalize mX iO (ls.drop (fB n))=q at*;generalize ls.take (fB n)=l1 at*;generalize ls.drop (fB n)=l2 at*;generalize fB n=k at*;obtain⟨k1,k2,k3⟩:=uW;obtain⟨CK,FJ,ND,NE⟩:=bU Co y9 (fun w'=>W_ p q w' EB Cy) (fun w'=>Xe p q w' EB Cy);have HV:Hid (((iO p q).map Y).length=32):=O (by rw[length_map,tY]);have ov:=b_ (iO p q);have d1:((n:Int)==1)=false:=by simp;omega
  have d2:(n==1)=false:=by simp[hn]
  clear Er hcl nE hl hr yD sP Co y9 EB Cy;first|go_enter func101,ntmps101|go_enter func60,ntmps60
  go_upto_region 1 with(fail);generalize iX:World.alloc w _=wA;have zA:ah wA w.heap.size (List.replicate 32 (.int .u8 0)) 31:=by rw[<-iX];exact ah.aI F F
  have eA:X w wA:=by rw[<-iX];exact(X.refl w).alloc _
  clear iX;obtain⟨ZA,EA⟩:=aB zA eA;clear zA eA;go_wp2_with (first|(go_at_call 157;refine(hc _).mono ?_;rintro e w' ⟨rfl,rfl⟩)|(go_at_call 66;refine(hd _).mono ?_;rintro e w' ⟨rfl,rfl⟩));obtain⟨C,iB,aJ,bP⟩:=iw (show bT w wA [] [(w.heap.size,32,31)] wA from bT.yw EA (dV.none _) ZA aF);refine fJ fun Z=> ?_;refine aA 0 ?_;refine aA 1 ?_;refine bD 2 F (bf F (fun w1 _=>zB (k:=k) F F F underlying59 Bf J w1)) ?_;refine aA 4 ?_;refine aA 5 ?_;refine bD 6 F (bf F (fun w1 _=>Jr (k:=k) F F F underlying59 Bf J w1)) ?_;generalize wA.drew=wD at*;refine aZ 3 ?_;intro Q' hQ;go_wp2_with fail;refine(Cv wD (CK.ext ((iB wD).1 Z).base)).mono ?_;rintro e wE ⟨rfl,eE⟩;have hE:=aJ _ _ Z eE;go_wp2_with fail;refine hQ _ _ hE ?_;clear hQ Q' Z eE Cv;refine aH ?_;refine aZ 7 ?_;intro Q' hQ;go_wp2_with fail;refine(Da wE (FJ.ext ((iB wE).1 hE).base)).mono ?_;rintro e wF ⟨rfl,eF⟩;have hF:=aJ _ _ hE eF;go_wp2_with fail;refine hQ _ _ hF ?_;clear hQ Q' hE eF Da;refine aH ?_;refine aZ 8 ?_;intro Q' hQ;go_wp2_with fail;first|refine(ND wF).mono ?_|refine(NE wF).mono ?_
  rintro e wG ⟨rfl,eG⟩;have hG:=aJ _ _ hF eG;go_wp2_with fail;refine hQ _ _ hG ?_;clear hQ Q' hF eG ND;obtain⟨vz,F3,zG⟩:=((iB wG).1 hG).Dn (r:=w.heap.size) (n:=32) (T:=31) aF;obtain⟨ZG,tQ,HG⟩:=aW zG F3 hG;clear zG F3 hG;refine aH ?_;refine aZ 9 ?_;intro Q' hQ;go_wp2_with (refine bg F _ _ _ F F F ZG bY tQ HV ov ?_);intro wH bH uH;have hH:C wH:=(iB wH).2 (((iB wG).1 HG).store uH bH (by simp[HV.out]) l5 aF);go_wp2_with fail;refine hQ _ _ hH ?_;clear hQ Q';have EH:=O ((iB wH).1 hH).base;refine dH ?_;go_wp2;refine gG F F bH bY HV F ⟨F,EH⟩):G:=e
theorem abP:∀(n:Nat) (ls:List (aj)) (c:Nat) (a:aN) (w:World),ls.length=n->1<=n->n<=65536->jB ls->n<=c->c<=9223372036854775807->aK w a (dB ls)->
 Calls prog 101 #[.slice a n c] w fun e w'=>e= .returned (.agg ((mX iO ls).map Y).toArray)/\X w w':=K5
end
section
open Go Go.RowKit
set_option maxRecDepth 100000
theorem abQ:∀(n:Nat) (ls:List (aj)) (c:Nat) (a:aN) (w:World),ls.length=n->1<=n->n<=65536->jB ls->n<=c->c<=9223372036854775807->aK w a (dB ls)->
 Calls prog 60 #[.slice a n c] w fun e w'=>e= .returned (.agg ((mX iO ls).map Y).toArray)/\X w w':=K5
end
theorem abS(t:aj)(a:aN)(n c:Nat)(w:World)(ht:t.length=n)(hn:n<=1048576)(I:aK w a (t.map Y)):
 nW 67 #[.slice a n c] w (.agg ((dY 1 t).map Y).toArray):=by
 have hs:=O (fun w' h=>uV 1 t n c a w' J J ht J h);have HV:Hid (((dY 1 t).map Y).length=32):=O (by rw[length_map,j_]);have ad:=b_ (dY 1 t);have aa:=O I;clear ht I;generalize (dY 1 t).map Y=af at*;go_enter func67,ntmps67;go_upto_region 1 with(fail);generalize iX:World.alloc w _=E;have zA:ah E w.heap.size (List.replicate 32 (.int .u8 0)) 31:=by rw[<-iX];exact ah.aI F F
 have u:X w E:=by rw[<-iX];exact(X.refl w).alloc _
 clear iX;go_wp2_with fail;refine(hs E (aa.ext u)).mono ?_;rintro e ag ⟨rfl,j⟩;obtain⟨ab,R⟩:=aB (zA.ext j) (u.ext j);clear zA u j;go_wp2_with (refine bg F _ _ _ F F F ab bY aF HV ad ?_);intro ai ac ae;go_wp2;refine gG F F ac bY HV F ⟨F,ae.ext R l5⟩
theorem abT(t:aj)(a:aN)(n c:Nat)(w:World)(ht:t.length=n)(hn:n<=1048576)(af:n<=c)(hc:c<=9223372036854775807)(I:a=none->c=0)(R:aK w a (t.map Y)):
 nW 63 #[.slice a n c] w (.tuple #[.agg ((dY 1 t).map Y).toArray,.int .i64 0]):=by
 have hs:=O (fun w' h=>Gf 1 t n c a w' ht af hc I h);have aa:uX 1 t n= .tuple #[.agg ((dY 1 t).map Y).toArray,.int .i64 0]:=by rw[uX,if_neg J,if_pos J]
 rw[aa]at hs;have HV:Hid (((dY 1 t).map Y).length=32):=O (by rw[length_map,j_]);have ag:=b_ (dY 1 t);have ac:=O R;clear ht R aa I;generalize (dY 1 t).map Y=al at*;go_enter func63,ntmps63;go_upto_region 1 with(fail);generalize iX:World.alloc w _=E;have zA:ah E w.heap.size (List.replicate 32 (.int .u8 0)) 31:=by rw[<-iX];exact ah.aI F F
 have u:X w E:=by rw[<-iX];exact(X.refl w).alloc _
 clear iX;go_wp2_with fail;refine(hs E (ac.ext u)).mono ?_;rintro e am ⟨rfl,j⟩;obtain⟨ad,ab⟩:=aB (zA.ext j) (u.ext j);clear zA u j;go_wp2_with (refine bg F _ _ _ F F F ad bY aF HV ag ?_);intro an ae ai;go_wp2;refine iy F F ae bY HV F ⟨F,ai.ext ab l5⟩
theorem TP:(prog.info? 31).map (fun i=>(i.zero,i.size,i.bytes))=some (some (.agg (List.replicate 32 (.int .u8 0)).toArray),32,32):=au
theorem TQ:(Value.agg (List.replicate 32 (.int .u8 0)).toArray).cells.size=32:=by simp[Value.cells]
theorem abU(y:aj)(E:y.length=32)(j:Array Value)(hc:j.size=32):Instr.fill (fun i=>some (i*32,32)) j [(0,.agg (y.map Y).toArray)]=some (y.map Y).toArray:=by
 have h:=Great.fill_whole (s:=32) J [.agg (y.map Y).toArray] j (by intro v u;rw[mem_singleton.1 u];simp[Value.cells,E]) (by simp[hc]);simpa[Value.cells]using h
theorem abV{P:Program}{o:Oper}{a:Act}{t e:TypeId}{x:Operand}{y:aj}(R:o.op= .buildSlice t 1 #[(0,x)])(ab:a.eval x= .agg (y.map Y).toArray)(ac:y.length=32)(aa:P.underlying t=some (.slice e))
 {j:TypeInfo}{z:Value}(I:P.info? e=some j)(ad:j.zero=some z)(mU:j.size=32)(ae:z.cells.size=32)(w:World):
 (execOp a.eval o).run P w= .ok (.value (.slice (some ⟨w.heap.size,0,none⟩) 1 1)) (w.alloc (.cells (y.map Y).toArray e)):=by
 have h:=run_buildSlice (P:=P) w t e 1 #[(0,.agg (y.map Y).toArray)] (y.map Y).toArray j z aa I ad (by rw[mU];omega) (by rw[mU];omega) (by rw[mU];exact abU y ac _ aF);have E:(#[(0,x)].map fun(p:Nat×Operand)=>(p.1,a.eval p.2))= #[(0,.agg (y.map Y).toArray)]:=by simp[ab]
 unfold execOp;simp only[R,Sem.run_bind];have u:(Instr.buildSlice t 1 (#[(0,x)].map fun(p:Nat×Operand)=>(p.1,a.eval p.2))).run P w= .ok (.slice (some ⟨w.heap.size,0,none⟩) 1 1) (w.alloc (.cells (y.map Y).toArray e)):=by rw[E];exact h
 rw[u];rfl
theorem abW{P:Program}{ops:Array Oper}{rest:List Oper}{o:Oper}{a:Act}{w w':World}{Q:Exit->Act->World->Prop}{v:Value}(u:o.guard=none)(E:(execOp a.eval o).run P w= .ok (.value v) w')(h:wpList P ops Q rest (a.put o.dst v) w'):wpList P ops Q (o::rest) a w:=
 wpList_plain u fun K j=>by
  unfold Oper.wp;rw[E,Oper.upon_value];exact j _ _ h
theorem TR{ops:Array Oper}{rest:List Oper}{o:Oper}{a:Act}{w:World}{Q:Exit->Act->World->Prop}(j:o.guard=none){x:Operand}{y:aj}(E:o.op= .buildSlice 59 1 #[(0,x)])(I:a.eval x= .agg (y.map Y).toArray)(R:y.length=32)
 (h:wpList prog ops Q rest (a.put o.dst (.slice (some ⟨w.heap.size,0,none⟩) 1 1)) (w.alloc (.cells (y.map Y).toArray 31))):wpList prog ops Q (o::rest) a w:=by
 obtain⟨ac,u,aa,mU,ab⟩:=info_parts TP;exact abW j (abV E I R underlying59 u aa mU TQ w) h
theorem abX(w:World)(B:Nat)(t e ty:TypeId){E:TypeInfo}{aa:Value}{z:Nat}(ad:prog.underlying t=some (.slice e))(ab:prog.info? e=some E)(ag:E.zero=some aa)(mU:E.size=z)(ae:E.bytes=z)(ax:aa.cells.size=z)(ai:0<z)
 {v:Value}{n m c:Nat}{xs news:aO}{y:Addr}(I:w.ownsRow B e z v n xs)(af:news.length=m*z)(hc:∀j u,news[j]? =some u->w.cell? (y.add j)=some u)(al:∀u∈news,u.oneCell'=true)
 (hb:(n+m)*z<=140737488355328)(aq:B<=w.heap.size):
 ∃v' w',(Builtin.append_ #[t,t] ty #[v,.slice (some y) m c]).run prog w= .ok v' w'/\w'.ownsRow B e z v' (n+m) (xs++news)/\w.grownBy w' v.ownBlock/\
  (v'.ownBlock=v.ownBlock∨v'.ownBlock=some w.heap.size):=by
 have tL:n+m<=140737488355328:=Nat.le_trans (Nat.le_mul_of_pos_right _ ai) hb;have a2:m*z<=140737488355328:=Nat.le_trans (Nat.mul_le_mul_right z (Nat.le_add_left m n)) hb;have am:news.length=m*E.size:=by rw[mU];exact af
 obtain⟨v',w',ac,an,ao,ap⟩:=run_append_own (P:=prog) w B t ty e E aa z z ad ab ag mU ae ax ai v n xs I y m c news af hc al (by unfold maxLen;omega) hb aq;refine⟨v',w',ac,an,ao,?_⟩;rcases I.2 with⟨rfl,rfl⟩|⟨g,cap,cu,rfl,az,a1,a3,aE,a0,a4⟩
 ·by_cases ar:m=0
  ·left
   rw[ap.2 ⟨F,ar⟩]
  ·right
   have R:=run_append_nil (P:=prog) w t ty e E aa ad ab ag y m c news am hc J J (by rw[ae];omega);exact JJ R ac F
 ·by_cases aw:n+m<=cap
  ·left
   obtain⟨w2,R,_⟩:=run_append_fits (P:=prog) w B t ty e E z ad ab mU g n cap xs I y m c news af hc al aw;exact JJ R ac F
  ·right
   have R:=run_append_grow (P:=prog) w t ty e E aa ad ab ag ⟨g,0,none⟩ n cap xs (by rw[mU];exact I.1) (I.cells (g:=g) F) y m c news am hc J J (growslice_fits J (by rw[ae];omega));exact JJ R ac F
theorem TS{ops:Array Oper}{rest:List Oper}{o:Oper}{a:Act}{w:World}{Q:Exit->Act->World->Prop}(ab:o.guard=none)(s x:Operand)
 (ad:o.op= .call {callee:= .builtin .append,args:= #[s,x],argTypes:= #[59,59]})(base:Nat){v:Value}{n c g:Nat}{ls:List (aj)}{y:aj}{T:TypeId}
 (hs:a.eval s=v)(ag:a.eval x= .slice (some ⟨g,0,none⟩) 1 c)(ae:w.ownsRow base 31 32 v n (dB ls))(ai:y.length=32)(hb:ah w g (y.map Y) T)
 (hn:(n+1)*32<=140737488355328)(aa:base<=w.heap.size)
 (h:∀v' w',w'.ownsRow base 31 32 v' (n+1) (dB (ls++[y]))->w.grownBy w' v.ownBlock->(v'.ownBlock=v.ownBlock∨v'.ownBlock=some w.heap.size)->wpList prog ops Q rest (a.put o.dst v') w'):wpList prog ops Q (o::rest) a w:=by
 obtain⟨am,ac,al,mU,R⟩:=info_parts TP;obtain⟨v',w',af,j,u,E⟩:=abX w base 59 31 o.type (m:=1) (c:=c) underlying59 ac al mU R TQ aX ae (by rw[length_map,ai]) (tJ hb) (b_ _) hn aa;exact wpList_plain ab fun K I=>Lib.wp_append_run w s x _ _ ad v _ hs ag v' w' af (I _ _ (h v' w' (by rw[Oh,Oi];exact j) u E))
theorem dP.keep{w w':World}{p:Addr}{xs:aO}(h:dP w p xs)(I:p.spot=none)(hk:w'.heap[p.block]? =w.heap[p.block]?):dP w' p xs:=by
 intro j u R;have E:=h j u R;obtain⟨b,off,aa⟩:=p;simp only at I hk;subst I;rw[dn]at E⊢;simp only[World.cell?]at E⊢;rw[hk];exact E
end Go.Proofs.YtjlhhnkhcbpnjaaGreatDoor
