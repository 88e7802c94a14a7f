/- Laws that the row leans on; no condition. -/
import Derived.Test.YtjlhhnkhcbpnjaaGreatDoorJ26
import Derived.ProofKit
import Derived.OpenShut
import Derived.ChangeSlices
import Derived.WideShapes
import Derived.SizedLaws
import Derived.Deep.Matrix
namespace Go.Proofs.YtjlhhnkhcbpnjaaGreatDoor
open Go Go.RowKit List Tryz
set_option linter.unusedVariables false
set_option linter.unusedSectionVars false
set_option linter.unusedSimpArgs false
set_option maxHeartbeats 40000000
set_option maxRecDepth 100000
section
open Go Go.RowKit
section
variable {K V:Type} [DecidableEq K]
theorem aa1{hs:List (K×V)}(h:(hs.map Prod.fst).Nodup)(x:K):iQ hs x=hs.filter fun p=>decide (p.1≠x):=by
 unfold iQ;cases u:jq x hs with
 |none=>
  refine(filter_eq_self.2 fun p I=> ?_).symm;have:=BM.1 u p I;simp[this]
 |some i=>
  induction hs generalizing i with
  |nil=>simp[jq]at u
  |cons a l R=>
   rw[map_cons,nodup_cons]at h;unfold jq at u;rw[List.findIdx?_cons]at u;by_cases ha:a.1=x
   ·rw[if_pos (by simp[ha])]at u;injection u with u;subst u;rw[filter_cons_of_neg (by simp[ha])];show l=_;refine(filter_eq_self.2 fun p I=> ?_).symm;have:p.1≠x:=fun e=>h.1 (ha▸e▸mem_map_of_mem I);simp[this]
   ·rw[if_neg (by simp[ha])]at u;cases E:l.findIdx? (fun p=>decide (p.1=x))with
    |none=>rw[E]at u;cases u
    |some j=>
     rw[E]at u;injection u with u;subst u;rw[filter_cons_of_pos (by simp[ha])];show(a::l).eraseIdx (j+1)=_;rw[eraseIdx_cons_succ];exact congrArg (a:: ·) (R h.2 j E)
def xY(keep:K×V->Bool)(lf:List K)(L:List (K×V)):List (K×V):=L.filter fun y=>decide (y.1∈lf)||keep y
theorem aa2(keep:K×V->Bool)(L:List (K×V)):xY keep (L.map Prod.fst) L=L:=
 filter_eq_self.2 fun y j=>by simp[mem_map_of_mem (f:=Prod.fst) j]
theorem aa3(keep:K×V->Bool)(L:List (K×V)):xY keep [] L=L.filter keep:=by unfold xY;simp
variable {keep:K×V->Bool} {lf lf2:List K} {L:List (K×V)} {x:K} {v:V}
theorem Tj(h:(L.map Prod.fst).Nodup)(I:(x,v)∈L){y:K×V}(R:y∈L)(e:y.1=x):y=(x,v):=by
 obtain⟨i,E⟩:=List.getElem?_of_mem I;obtain⟨j,u⟩:=List.getElem?_of_mem R;obtain⟨a,b⟩:=y;simp only at e;subst e;have:=Em h E u;subst this;rw[E]at u;injection u with u;exact u.symm
theorem aa4(h:(L.map Prod.fst).Nodup)(E:(x,v)∈L)(u:lf.Perm (x::lf2))(hk:keep (x,v)=true):xY keep lf2 L=xY keep lf L:=by
 refine filter_congr fun y I=> ?_;have j:y.1∈lf↔y.1=x∨y.1∈lf2:=by rw[u.mem_iff,mem_cons]
 by_cases e:y.1=x
 ·rw[Tj h E I e,hk];simp
 ·have:(y.1∈lf)=(y.1∈lf2):=propext ⟨fun h=>(j.1 h).resolve_left e,fun h=>j.2 (.inr h)⟩;simp only[this]
theorem aa5(h:(L.map Prod.fst).Nodup)(E:(x,v)∈L)(u:lf.Perm (x::lf2))(hn:x∉lf2)(hk:keep (x,v)=false):iQ (xY keep lf L) x=xY keep lf2 L:=by
 unfold xY;rw[aa1 ((filter_sublist.map Prod.fst).nodup h)];rw[filter_filter];refine filter_congr fun y I=> ?_;have j:y.1∈lf↔y.1=x∨y.1∈lf2:=by rw[u.mem_iff,mem_cons]
 by_cases e:y.1=x
 ·rw[Tj h E I e,hk];simp[hn]
 ·have:(y.1∈lf)=(y.1∈lf2):=propext ⟨fun h=>(j.1 h).resolve_left e,fun h=>j.2 (.inr h)⟩;simp[this,e]
theorem gJ.qL{kv:K->Value}{vv:V->Value}{w:World}{g r:Nat}{hs:List (K×V)}{lf:List K}(h:gJ kv vv w g r hs lf):w.rangeLeft g r=lf.length:=by
 obtain⟨es,I,af,ae,E,hb,ac,ad,u,R,aa,ab,j⟩:=h;have:=congrArg List.length j;simp only[length_map,Array.length_toList]at this;rw[<-this];simp[World.rangeLeft,hb,u]
theorem gJ.same{kv:K->Value}{vv:V->Value}{w:World}{g r:Nat}{hs j:List (K×V)}{lf:List K}(h:gJ kv vv w g r hs lf)(e:j.map (fun p=>(kv p.1,vv p.2))=hs.map (fun p=>(kv p.1,vv p.2))):gJ kv vv w g r j lf:=by
 obtain⟨es,E,aa,R,u,hb,I,h⟩:=h;exact⟨es,E,aa,R,u,hb,by rw[e];exact I,h⟩
theorem gJ.mut{M:Nat->Prop}{kv:K->Value}{vv:V->Value}{w w':World}{g r:Nat}{hs:List (K×V)}{lf:List K}(h:gJ kv vv w g r hs lf)(m:gB M w w')(j:¬M g)(u:¬M r):gJ kv vv w' g r hs lf:=
 h.keep (m.block g h.map.lt j) (m.block r h.lt u)
end
def mV(f:List (aj×dX)->List (aj×dX))(lf:List (aj))(A:List (aj×(Nat×List (aj×dX)))):List (aj×(Nat×List (aj×dX))):=
 A.map fun x=>if x.1∈lf then x else(x.1,(x.2.1,f x.2.2))
section
variable {f:List (aj×dX)->List (aj×dX)} {lf lf2:List (aj)} {x:aj} {A:List (aj×(Nat×List (aj×dX)))}
theorem Iw(A:List (aj×(Nat×List (aj×dX)))):mV f (A.map Prod.fst) A=A:=by
 unfold mV
 conv=>rhs;rw[<-map_id A]
 refine map_congr_left fun x j=> ?_;rw[if_pos (mem_map_of_mem j)];rfl
theorem Iy(lf:List (aj))(A:List (aj×(Nat×List (aj×dX)))):(mV f lf A).map (fun p=>(eX p.1,oH p.2))=A.map (fun p=>(eX p.1,oH p.2)):=by
 unfold mV;rw[map_map];refine map_congr_left fun x j=> ?_;show(eX (if x.1∈lf then x else(x.1,(x.2.1,f x.2.2))).1,oH (if x.1∈lf then x else(x.1,(x.2.1,f x.2.2))).2)=_;split<;>rfl
theorem Tm(h:(A.map Prod.fst).Nodup)(R:lf.Perm (x::lf2))(hn:x∉lf2){v:Nat×List (aj×dX)}(ad:(x,v)∈mV f lf A):
 ∃i,(mV f lf A)[i]? =some (x,v)/\mV f lf2 A=(mV f lf A).set i (x,(v.1,f v.2)):=by
 obtain⟨i,E⟩:=List.getElem?_of_mem ad;refine⟨i,E,?_⟩;have ae:x∈lf:=by rw[R.mem_iff];simp
 unfold mV at E⊢;rw[List.getElem?_map]at E;cases ha:A[i]? with
 |none=>rw[ha]at E;cases E
 |some a=>
  rw[ha]at E;simp only[Option.map_some,Option.some.injEq]at E;have ab:a.1=x:=by
   by_cases aa:a.1∈lf
   ·rw[if_pos aa]at E;rw[E]
   ·rw[if_neg aa]at E;exact congrArg Prod.fst E
  rw[if_pos (by rw[ab];exact ae)]at E;subst E;apply ext_getElem?;intro j;rw[List.getElem?_map,List.getElem?_set,length_map,List.getElem?_map];by_cases I:i=j
  ·subst I;rw[if_pos F,if_pos (List.getElem?_eq_some_iff.1 ha).1,ha];simp only[Option.map_some];rw[if_neg hn]
  ·rw[if_neg I];cases hb:A[j]? with
   |none=>rfl
   |some b=>
    simp only[Option.map_some];have ac:b.1≠x:=fun e=>I (Em (k:=x) h (v:=v) (u:=b.2) ha (by rw[hb,<-e]));have:(b.1∈lf)=(b.1∈lf2):=propext ⟨fun h=>by rw[R.mem_iff,mem_cons]at h;exact h.resolve_left ac,fun h=>by rw[R.mem_iff];exact mem_cons_of_mem _ h⟩;simp only[this]
end
def iC(g:Nat)(a:aN)(n:Nat):Prop:=n=0∨∀A,a=some A->A.block≠g
structure aV.Off(S:aV)(g:Nat):Prop where
 ms:∀x∈S.ms,iC g x.2.a x.2.n
 av:∀x∈S.av,∀y∈x.2.2,iC g y.2.r.a y.2.r.n
 po:∀P,S.pol=some P->P.q≠g/\iC g P.a P.n/\∀r∈P.rs,iC g r.ra r.rn/\iC g r.aa r.an/\iC g r.la r.ln
theorem bJ.off{w:World}{B g n z:Nat}{a:aN}{xs:aO}(h:bJ w B a xs)(E:xs.length=z*n)(I:0<z)(R:g<B):iC g a n:=by
 rcases h with h|⟨b,off,ha,hb,_⟩
 ·rw[h]at E;rcases Nat.eq_zero_or_pos n with u|u
  ·exact .inl u
  ·have:=Nat.mul_pos I u;simp at E;omega
 ·refine .inr fun A j=> ?_;rw[ha]at j;injection j with j;rw[<-j];show b≠g;omega
theorem oG.Hi.mono{w:World}{B B':Nat}{P:oG}(h:P.Hi w B)(hb:B'<=B):P.Hi w B':=
 ⟨h.blk,Nat.le_trans hb h.ge,h.hl,h.nc,h.n100,h.cell.mono hb,h.rM,fun r j=>⟨(h.jF r j).1.mono hb,(h.jF r j).2.1.mono hb,(h.jF r j).2.2.mono hb⟩⟩
theorem oG.Hi.off{w:World}{B g:Nat}{P:oG}(h:P.Hi w B)(u:g<B):P.q≠g/\iC g P.a P.n/\∀r∈P.rs,iC g r.ra r.rn/\iC g r.aa r.an/\iC g r.la r.ln:=by
 refine⟨by have:=h.ge;omega,h.cell.off (z:=8) (by rw[Hg,h.hl]) J u,fun r j=>⟨?_,?_,?_⟩⟩
 ·exact(h.jF r j).1.off (z:=1) (by rw[length_map,(h.rM r j).rl,Nat.one_mul]) J u
 ·exact(h.jF r j).2.1.off (z:=1) (by rw[length_map,(h.rM r j).al,Nat.one_mul]) J u
 ·exact(h.jF r j).2.2.off (z:=1) (by rw[length_map,(h.rM r j).ll,Nat.one_mul]) J u
theorem aV.Off.jO{S:aV}{g:Nat}(h:S.Off g)(id:aj):iC g (S.jO id).a (S.jO id).n:=by
 unfold aV.jO;cases j:bW S.ms id with
 |none=>exact .inl F
 |some r=>exact h.ms _ (BO j)
theorem LY{g i q:Nat}{k:aj}{l:List (aj×dX)}{A:List (aj×(Nat×List (aj×dX)))}(h:∀x∈A,∀y∈x.2.2,iC g y.2.r.a y.2.r.n)(u:∀y∈l,iC g y.2.r.a y.2.r.n):∀x∈A.set i (k,(q,l)),∀y∈x.2.2,iC g y.2.r.a y.2.r.n:=by
 intro x j;rcases mem_or_eq_of_mem_set j with j|rfl
 ·exact h x j
 ·exact u
def CU(p:Nat)(e:aG):Prop:=∀A,e.ba=some A->A.block≠p
theorem aG.Ok.fF{w w':World}{g p:Nat}{e:aG}(h:e.Ok w)(u:mP g w w')(j:g=p∨jr w g)(R:CU p e):e.Ok w':=by
 refine{h with hcl:= ?_};rcases h.hcl with I|⟨b,off,ha,I⟩
 ·exact .inl I
 refine .inr ⟨b,off,ha,fun i x aa=> ?_⟩;have E:=I i x aa;refine wu E (u.block b (block_lt_of_cell E) (fun hb=> ?_));subst hb;rcases j with j|j
 ·exact R _ ha j
 ·rw[j.cell]at E;cases E
structure lu(w:World)(p:Nat)(S:aV)(e:aG)(r:ay)(ak:aj)(G3 G6 G8:Nat)(T:aV)(wx:World):Prop where
 st:dJ wx p T
 mu:gB (S.M p) w wx
 new:∀g,T.M p g->S.M p g∨w.heap.size<=g
 be:ah wx G3 e.v 34
 bb:ah wx G6 r.v 101
 ba:ah wx G8 (ak.map Y) 31
 rh:bJ wx w.heap.size r.ra (r.roles.map bM)
 ok:e.Ok wx
 off:CU p e
 g3:w.heap.size<=G3
 g6:w.heap.size<=G6
 g8:w.heap.size<=G8
 pl:p<w.heap.size
 LZ:∀g,g<w.heap.size->S.Off g->T.Off g
section
variable {w wx wy:World} {p:Nat} {S T T':aV} {e:aG} {r:ay} {ak:aj} {G3 G6 G8 g:Nat}
theorem dJ.Iz(h:dJ wx p T)(j:T.M p g):g=p∨jr wx g:=by
 rcases j with rfl|rfl|rfl|rfl|⟨x,u,rfl⟩
 ·exact .inl F
 ·exact .inr h.Ar
 ·exact .inr h.Ip
 ·exact .inr h.EN
 ·exact .inr (h.EO u)
theorem lu.ext(h:lu w p S e r ak G3 G6 G8 T wx)(k:X wx wy):lu w p S e r ak G3 G6 G8 T wy:=
 {h with st:=h.st.ext k,mu:=h.mu.same (gB.wC k),be:=h.be.ext k,bb:=h.bb.ext k,ba:=h.ba.ext k,rh:=h.rh.ext' k,ok:=h.ok.ext k}
theorem lu.Tn(h:lu w p S e r ak G3 G6 G8 T wx)(u:mP g wx wy)(j:T.M p g)(ab:dJ wy p T')(hn:∀k,T'.M p k->T.M p k∨w.heap.size<=k)(ad:∀g,g<w.heap.size->T.Off g->T'.Off g):lu w p S e r ak G3 G6 G8 T' wy:=by
 have I:=h.st.Iz j;have E:∀{k:Nat} {vs:aO} {R:TypeId},w.heap.size<=k->ah wx k vs R->¬k=g:=by
  intro k vs R hk hb ac;rcases I with aa|aa
  ·have:=h.pl;omega
  ·exact aa.ne hb ac
 exact{
  st:=ab,mu:=h.mu.trans u (fun x ag ae=>by subst ae;exact(h.new _ j).resolve_right J),
  new:=fun k hk=>(hn k hk).elim (h.new k) .inr,
  be:=h.be.mut u (E h.g3 h.be),bb:=h.bb.mut u (E h.g6 h.bb),ba:=h.ba.mut u (E h.g8 h.ba),rh:=h.rh.fF u (I.elim (fun af=> .inl (by have:=h.pl;omega)) .inr),
  ok:=h.ok.fF u I h.off,off:=h.off,g3:=h.g3,g6:=h.g6,g8:=h.g8,pl:=h.pl,LZ:=fun g j hs=>ad g j (h.LZ g j hs)}
theorem lu.turn(h:lu w p S e r ak G3 G6 G8 T wx)(u:mP g wx wy)(E:T.M p g)(j:dJ wy p T')(hn:∀k,T'.M p k->T.M p k∨wx.heap.size<=k)(I:∀g,g<w.heap.size->T.Off g->T'.Off g):lu w p S e r ak G3 G6 G8 T' wy:=
 h.Tn u E j (fun k hk=>(hn k hk).imp id (Nat.le_trans h.mu.size)) I
end
end
section
open Go Go.RowKit
theorem IB{l m r xs:aO}{n:Nat}(j:l.length=n)(u:m.length=xs.length):fV (l++(m++r)) n xs=l++(xs++r):=by
 unfold fV;rw[take_left' j,<-drop_drop,drop_left' j,drop_left' u,append_assoc]
section
variable {S:aV} (h:S.last.length=32) (hf:S.ji.length=16)
theorem aV.set1(S:aV)(n:Int):S.v.set 1 (.int .i64 n)={S with tm:=n}.v:=F
include h in
theorem aV.aa6{x:aj}(j:x.length=32):fV S.v 2 (x.map Y)={S with last:=x}.v:=by
 unfold aV.v;exact IB (l:=[_,_]) F (by rw[length_map,length_map,h,j])
include h hf in
theorem aV.aa7{x:aj}(j:x.length=16):fV S.v 34 (x.map Y)={S with ji:=x}.v:=by
 unfold aV.v;have:=IB (l:= .int .i64 (S.cnt:Int):: .int .i64 S.tm::S.last.map Y) (m:=S.ji.map Y) (r:=[.pointer (S.pol.map fun p=>⟨p.q,0,none⟩),.map (some S.gm),.map (some S.gk),.map (some S.ga)]) (xs:=x.map Y) (n:=34) (by simp[h]) (by rw[length_map,length_map,hf,j]);simpa using this
include h hf in
theorem aV.L6(P:oG):S.v.set 50 (.pointer (some ⟨P.q,0,none⟩))={S with pol:=some P}.v:=by
 unfold aV.v;rw[show(50:Nat)=48+1+1 by rfl,set_cons_succ,set_cons_succ,set_append_right _ _ (by simp[h]),length_map,h,set_append_right _ _ (by simp[hf]),length_map,hf];rfl
end
section
variable {k:bC} (h:k.Ok)
include h
theorem bC.DZ(n:Int):k.v.set 17 (.int .i64 n)={k with epoch:=n}.v:=by
 unfold bC.v;rw[set_append_right _ _ (by simp[h.hk]),length_map,h.hk];rfl
theorem bC.aa8{x:aj}(j:x.length=32):fV k.v 18 (x.map Y)={k with commit:=x}.v:=by
 unfold bC.v;have:=IB (l:=k.key.map Y++[.string k.label,.int .i64 k.epoch]) (m:=k.commit.map Y) (r:= .bool k.rev:: .int .i64 k.esc::k.shared.map Y) (xs:=x.map Y) (n:=18) (by simp[h.hk]) (by rw[length_map,length_map,h.hc,j]);simpa using this
theorem bC.L6(b:Bool):k.v.set 50 (.bool b)={k with rev:=b}.v:=by
 unfold bC.v;rw[set_append_right _ _ (by simp[h.hk]),length_map,h.hk,show 50 - 16=32+1+1 by rfl,set_cons_succ,set_cons_succ,set_append_right _ _ (by simp[h.hc]),length_map,h.hc];rfl
theorem bC.D6(n:Int):k.v.set 51 (.int .i64 n)={k with esc:=n}.v:=by
 unfold bC.v;rw[set_append_right _ _ (by simp[h.hk]),length_map,h.hk,show 51 - 16=33+1+1 by rfl,set_cons_succ,set_cons_succ,set_append_right _ _ (by simp[h.hc]),length_map,h.hc];rfl
theorem bC.aa9{x:aj}(j:x.length=32):fV k.v 52 (x.map Y)={k with shared:=x}.v:=by
 unfold bC.v;have:=IB (l:=k.key.map Y++(.string k.label:: .int .i64 k.epoch::(k.commit.map Y++[.bool k.rev,.int .i64 k.esc]))) (m:=k.shared.map Y) (r:=[]) (xs:=x.map Y) (n:=52) (by simp[h.hk,h.hc]) (by rw[length_map,length_map,h.hs,j]);simpa using this
end
theorem abb(S:aV)(e:aG)(l:ByteArray):dY 5 (sW (S.oq e l))=lV e:=F
theorem aV.IC{w:World}{p:Nat}{S:aV}{e:aG}(h:dJ w p S)(hb:(mO e).label.size<=140737488355328):(S.lab e).size<=140737488355328:=by
 unfold aV.lab;split
 ·exact hb
 ·have:=(h.Il e.key).ls;omega
theorem abd{f:aj->Int}{act:Int}{l:aj}(h:(kE f act l).2=0):uh act (kE f act l).1=0:=by
 unfold kE at h⊢;split at h
 ·cases h
 rename_i E;rw[if_neg E];split at h
 ·cases h
 rename_i I;rw[if_neg I];cases u:jC f (gy act) kD l with
 |none=>rw[u]at h;cases h
 |some q=>
  obtain⟨x,rest⟩:=q;rw[u]at h;simp only at h⊢;split at h
  ·cases h
  rename_i R;rw[if_neg R];split at h
  ·rename_i j;rw[if_pos j];exact j
  ·rename_i j;exact absurd h j
theorem abe{e:aG}{r:ay}(hf:r.Fit)(E:r.p=mO e)(h:(kE kF e.act e.body).2=0):Fh r:=by
 have j:=abd h;have u:jS e.act r=0:=by rw[Gv hf.rl hf.hl,E];exact j
 exact(Ed u).small
theorem L8{w:World}{B:Nat}{a:aN}{xs:aO}(h:aK w a xs)(hb:∀A,a=some A->xs≠[]->B<=A.block):bJ w B a xs:=by
 rcases h with h|⟨b,off,ha,h⟩
 ·exact .inl h
 ·by_cases j:xs=[]
  ·exact .inl j
  ·exact .inr ⟨b,off,ha,hb _ ha j,h⟩
theorem L9{w:World}{B n:Nat}{a:aN}{xs:aO}(h:aK w a xs)(I:xs.length=n)(E:xP B a n):bJ w B a xs:=
 L8 h (fun A ha R=>by
  rcases E with u|⟨aa,j,hb⟩
  ·exact absurd (length_eq_zero_iff.1 (I.trans u)) R
  ·rw[ha]at j;injection j with j;rw[j];exact hb)
theorem abf{w:World}{q n c B:Nat}{a:aN}{rs:List aS}(hb:ah w q [.slice a n c] 152)(E:B<=q)(j:lG w a n c rs)(hn:CS B a n c rs):oG.Hi w B ⟨q,a,n,c,rs⟩:=
 ⟨hb,E,j.hl,j.hnc,j.hm,L8 j.cell (fun A (ha:a=some A) _=>hn.1 A.block (by rw[ha];rfl)),j.ok,fun r u=>
  ⟨L9 (j.ok r u).nU (by rw[length_map];exact(j.ok r u).rl) (hn.2 r u).r1,L9 (j.ok r u).mF (by rw[length_map];exact(j.ok r u).al) (hn.2 r u).r2,L9 (j.ok r u).sN (by rw[length_map];exact(j.ok r u).ll) (hn.2 r u).r3⟩⟩
theorem oG.Hi.pok{w:World}{B:Nat}{P:oG}(h:P.Hi w B):lG w P.a P.n P.c P.rs:=⟨h.hl,h.nc,h.n100,h.cell.cells,h.rM⟩
theorem abg{B B' n c:Nat}{a:aN}{rs:List aS}(h:CS B a n c rs)(hb:B'<=B):CS B' a n c rs:=⟨fun g j=>Nat.le_trans hb (h.1 g j),fun r u=>SY (h.2 r u) hb⟩
end
section
open Go Go.RowKit
section
variable {w wx wy:World} {p g q:Nat} {S T:aV} {e:aG} {r:ay} {ak:aj} {G3 G6 G8:Nat}
theorem CV{K V j u:Type}[DecidableEq K][DecidableEq j]{kv:K->Value}{vv:V->Value}{aa:j->Value}{ab:u->Value}{hs:List (K×V)}{lf:List K}{R:List (j×u)}{g i:Nat}(h:gJ kv vv wx g i hs lf)(m:f_ aa ab wx q R):i≠q:=by
 rintro rfl;obtain⟨es,ae,am,al,ac,hb,ag,ai,I,_⟩:=h;obtain⟨af,ad,E,_⟩:=m;rw[I]at E;cases E
theorem CW{K V:Type}[DecidableEq K]{kv:K->Value}{vv:V->Value}{hs:List (K×V)}{lf:List K}{g i:Nat}(h:gJ kv vv wx g i hs lf):jr wx i:=by
 obtain⟨es,E,ab,aa,u,hb,I,R,j,_⟩:=h;exact⟨_,j,fun _ _ _ e=>by cases e⟩
theorem dJ.Tq{K V:Type}[DecidableEq K]{kv:K->Value}{vv:V->Value}{hs:List (K×V)}{lf:List K}{g i:Nat}(h:dJ wx p T)(u:gJ kv vv wx g i hs lf):¬T.M p i:=by
 rintro(j|j|j|j|⟨x,E,j⟩)
 ·exact(CW u).ne h.blk j.symm
 ·exact CV u h.mem j
 ·exact CV u h.key j
 ·exact CV u h.app j
 ·exact CV u (h.inn x E).1 j
theorem dJ.beside(h:dJ wx p T)(u:mP g wx wy)(E:jr wx g)(hn:¬T.M p g):dJ wy p T:=by
 obtain⟨I,r2,R,aa⟩:=h.rest u E;exact{h with blk:=I,mem:=h.mem.mut u (fun e=>hn (.inr (.inl e.symm))),key:=h.key.mut u (fun e=>hn (.inr (.inr (.inl e.symm)))),app:=h.app.mut u (fun e=>hn (.inr (.inr (.inr (.inl e.symm))))),inn:=fun x j=>⟨(h.inn x j).1.mut u (fun e=>hn (.inr (.inr (.inr (.inr ⟨x,j,e.symm⟩))))),(h.inn x j).2.1,r2 x j⟩,mr:=R,po:=aa}
theorem lu.beside(h:lu w p S e r ak G3 G6 G8 T wx)(u:mP g wx wy)(j:jr wx g)(E:w.heap.size<=g)(hn:¬T.M p g):lu w p S e r ak G3 G6 G8 T wy:=
 {h with st:=h.st.beside u j hn,mu:=h.mu.trans u (fun x I R=>by omega),be:=h.be.mut u (j.ne h.be),bb:=h.bb.mut u (j.ne h.bb),ba:=h.ba.mut u (j.ne h.ba),rh:=h.rh.fF u (.inr j),ok:=h.ok.fF u (.inr j) h.off}
end
def IE(t:Int)(y:aj×dX):Bool:=decide (t - y.2.t<=86400)
def wS(t:Int)(l:List (aj×dX)):List (aj×dX):=l.filter (IE t)
theorem abh(t:Int)(l:List (aj×dX)):kM (wS t l)=Aq t (kM l):=by
 unfold kM wS Aq;rw[filter_map];rfl
theorem abj(t:Int)(A:List (aj×(Nat×List (aj×dX)))):(mV (wS t) [] A).map (fun x=>(x.1,kM x.2.2))=(A.map fun x=>(x.1,kM x.2.2)).map fun y=>(y.1,Aq t y.2):=by
 unfold mV;rw[map_map,map_map];refine map_congr_left fun x j=> ?_;show((if x.1∈[]then x else(x.1,(x.2.1,wS t x.2.2))).1,kM (if x.1∈[]then x else(x.1,(x.2.1,wS t x.2.2))).2.2)=(x.1,Aq t (kM x.2.2));rw[if_neg aF,abh]
theorem L_:iH prog 164 2:=⟨⟨_,underlying164,F⟩,au⟩
theorem Au{α:Type}{l j:List α}{x:α}(h:l.Nodup)(u:l.Perm (x::j)):x∉j/\j.Nodup:=nodup_cons.1 (u.nodup_iff.1 h)
end
theorem abk{K V:Type}[DecidableEq K]{good:K->Prop}{hs:List (K×V)}(h:jc good hs){k:K}(hk:good k)(v u:V):dU (dU hs k v) k u=dU hs k u:=by
 have hn:=(h.set v hk).nodup;cases R:jq k hs with
 |none=>
  have E:∀y:V,dU hs k y=hs++[(k,y)]:=fun y=>by unfold dU;rw[R]
  rw[E]at hn⊢;rw[E];have I:=En hn (j:=hs.length) (k:=k) (v:=v) aF;unfold dU;rw[I];simp
 |some i=>
  have E:∀y:V,dU hs k y=hs.set i (k,y):=fun y=>by unfold dU;rw[R]
  rw[E]at hn⊢;rw[E];have I:=En hn (j:=i) (k:=k) (v:=v) (by simp[QL R]);unfold dU;rw[I];simp
abbrev uJ:=List (aj×(Nat×List (aj×dX)))
def rV(A:uJ):List (aj×List (aj×(aT×Int))):=A.map fun x=>(x.1,kM x.2.2)
theorem Tt{A:uJ}(k:aj)(g:Nat)(l:List (aj×dX)):rV (dU A k (g,l))=dU (rV A) k (kM l):=
 (Lm (fun y:Nat×List (aj×dX)=>kM y.2) A k (g,l)).symm
theorem abl(l:List (aj×dX))(k:aj)(v:dX):kM (dU l k v)=dU (kM l) k (v.r.l,v.t):=
 (Lm (fun v:dX=>(v.r.l,v.t)) l k v).symm
theorem Tv(A:uJ)(k:aj):bW (rV A) k=(bW A k).map fun y=>kM y.2:=EK (fun y:Nat×List (aj×dX)=>kM y.2) A k
theorem abm{A:uJ}(h:jc wE A):jc wE (rV A):=⟨fun p j=>by
 obtain⟨x,u,rfl⟩:=mem_map.1 j;exact h.good x u,by
 have:=h.nodup;unfold rV;rw[map_map];exact this⟩
theorem abn{A:uJ}(h:jc wE A){k:aj}{g:Nat}{l:List (aj×dX)}(E:bW A k=some (g,l)):∃i,A[i]? =some (k,(g,l))/\
 ∀a v,rV (A.set i (k,(g,dU l a v)))=dU (rV A) k (dU (kM l) a (v.r.l,v.t)):=by
 obtain⟨i,j⟩:=List.getElem?_of_mem (BO E);refine⟨i,j,fun a v=> ?_⟩;have u:dU A k (g,dU l a v)=A.set i (k,(g,dU l a v)):=by
  unfold dU;rw[En h.nodup j]
 rw[<-u,Tt,abl]
theorem abo{a b c n:Nat}{k:aj}{A:uJ}(h:(a::b::c::A.map (fun x=>x.2.1)).Nodup)(ha:a<n)(hb:b<n)(hc:c<n)(I:∀x∈A,x.2.1<n)(R:bW A k=none):(a::b::c::(dU A k (n,([]:List (aj×dX)))).map (fun x=>x.2.1)).Nodup:=by
 have E:dU A k (n,([]:List (aj×dX)))=A++[(k,(n,[]))]:=by
  unfold dU;cases j:jq k A with
  |none=>rfl
  |some i=>
   have:=(YK (hs:=A) (k:=k));rw[R,j]at this;cases this
 rw[E,map_append];show((a::b::c::A.map (fun x=>x.2.1))++[n]).Nodup;rw[nodup_append];refine⟨h,aF,fun x j y u=> ?_⟩;simp only[mem_singleton]at u;subst u;simp only[mem_cons,mem_map]at j;rcases j with rfl|rfl|rfl|⟨q,aa,rfl⟩
 ·omega
 ·omega
 ·omega
 ·have:=I q aa;omega
theorem Tz(w:World):(zeroValue 162).run prog w= .ok (.map none) w:=au
theorem abp(sa:aN)(sn sc:Nat)(t:Int):prog.built 164 [(0,Value.slice sa sn sc),(1,Value.int .i64 t)]=some #[Value.slice sa sn sc,Value.int .i64 t]:=au
theorem abq{o:Oper}{a:Act}{j u:Operand}{sa:aN}{sn sc:Nat}{t:Int}(ab:o.op= .build 164 #[(0,j),(1,u)])(E:a.eval j=Value.slice sa sn sc)(I:a.eval u=Value.int .i64 t)(w:World):(execOp a.eval o).run prog w= .ok (.value (.agg #[Value.slice sa sn sc,Value.int .i64 t])) w:=by
 have h:=run_build (P:=prog) w 164 #[(0,Value.slice sa sn sc),(1,Value.int .i64 t)] _ (abp sa sn sc t);have aa:(#[(0,j),(1,u)].map fun(r:Nat×Operand)=>(r.1,a.eval r.2))= #[(0,Value.slice sa sn sc),(1,Value.int .i64 t)]:=by simp[E,I]
 unfold execOp;simp only[ab,Sem.run_bind];have R:(Instr.build 164 (#[(0,j),(1,u)].map fun(r:Nat×Operand)=>(r.1,a.eval r.2))).run prog w= .ok (.agg #[Value.slice sa sn sc,Value.int .i64 t]) w:=by rw[aa];exact h
 rw[R];rfl
theorem TA{p n:Nat}{T:aV}{A:uJ}(h:∀x∈A,(∃y∈T.av,x.2.1=y.2.1)∨n<=x.2.1):∀k,aV.M {T with av:=A} p k->T.M p k∨n<=k:=by
 rintro k (j|j|j|j|⟨x,E,j⟩)
 ·exact .inl (.inl j)
 ·exact .inl (.inr (.inl j))
 ·exact .inl (.inr (.inr (.inl j)))
 ·exact .inl (.inr (.inr (.inr (.inl j))))
 ·rcases h x E with⟨y,I,e⟩|u
  ·exact .inl (.inr (.inr (.inr (.inr ⟨y,I,j.trans e⟩))))
  ·exact .inr (j▸u)
theorem abr(S:dw)(e:aG)(x:bZ):(S.act e x).cnt=S.cnt:=by
 unfold dw.act;simp only
 repeat' split
 all_goals rfl
section
open Go Go.RowKit
section
variable {w w':World} {p B:Nat} {T:aV} {r:Option Nat}
theorem bJ.row{a:aN}{xs:aO}{n z:Nat}(h:bJ w B a xs)(R:xs.length=z*n)(aa:∀g,r=some g->iC g a n)(k:w.grownBy w' r):bJ w' B a xs:=by
 rcases h with h|⟨b,off,ha,hb,hc⟩
 ·exact .inl h
 by_cases E:n=0
 ·subst E;exact .inl (length_eq_zero_iff.1 (by rw[R,Nat.mul_zero]))
 refine .inr ⟨b,off,ha,hb,fun i u ab=> ?_⟩;have I:=hc i u ab;refine wu I (k.block b (block_lt_of_cell I) fun e=> ?_);rcases aa b e.symm with j|j
 ·exact E j
 ·exact j _ ha F
theorem aK.row{a:aN}{xs:aO}{n z:Nat}(h:aK w a xs)(j:xs.length=z*n)(u:∀g,r=some g->iC g a n)(k:w.grownBy w' r):aK w' a xs:=by
 rcases h with h|⟨b,off,ha,hc⟩
 ·exact .inl h
 ·exact(bJ.row (B:=0) (.inr ⟨b,off,ha,Nat.zero_le _,hc⟩) j u k).cells
theorem iF.Hi.row{j:iF}(h:j.Hi w B)(u:∀g,r=some g->iC g j.a j.n)(k:w.grownBy w' r):j.Hi w' B:=
 ⟨h.hl,h.nc,h.n16,h.sz,h.cell.row (z:=1) (by rw[length_map,h.hl,Nat.one_mul]) u k⟩
theorem oG.Hi.row{P:oG}(h:P.Hi w B)(E:∀g,r=some g->P.q≠g/\iC g P.a P.n/\∀x∈P.rs,iC g x.ra x.rn/\iC g x.aa x.an/\iC g x.la x.ln)(k:w.grownBy w' r):P.Hi w' B:=by
 have I:∀x∈P.rs,bJ w' B x.ra (x.roles.map bM)/\bJ w' B x.aa (x.acts.map lN)/\bJ w' B x.la (x.labels.map bM):=fun x j=>
  ⟨(h.jF x j).1.row (z:=1) (by rw[length_map,(h.rM x j).rl,Nat.one_mul]) (fun g u=>((E g u).2.2 x j).1) k,
   (h.jF x j).2.1.row (z:=1) (by rw[length_map,(h.rM x j).al,Nat.one_mul]) (fun g u=>((E g u).2.2 x j).2.1) k,
   (h.jF x j).2.2.row (z:=1) (by rw[length_map,(h.rM x j).ll,Nat.one_mul]) (fun g u=>((E g u).2.2 x j).2.2) k⟩
 exact⟨h.blk.grown k (fun e=>(E _ e.symm).1 F),h.ge,h.hl,h.nc,h.n100,h.cell.row (z:=8) (by rw[Hg,h.hl]) (fun g u=>(E g u).2.1) k,
  fun x j=>{h.rM x j with nU:=(I x j).1.cells,mF:=(I x j).2.1.cells,sN:=(I x j).2.2.cells},I⟩
theorem dJ.row(h:dJ w p T)(ab:r≠some p)(aa:∀g,r=some g->¬jr w g)(E:∀g,r=some g->T.Off g)(k:w.grownBy w' r):dJ w' p T:=by
 have hn:∀{g:Nat},jr w g->some g≠r:=fun u e=>aa _ e.symm u;exact{h with
  blk:=h.blk.grown k (fun e=>ab e.symm),mem:=h.mem.grown k (hn h.Ar),key:=h.key.grown k (hn h.Ip),app:=h.app.grown k (hn h.EN),
  inn:=fun x j=>⟨(h.inn x j).1.grown k (hn (h.EO j)),(h.inn x j).2.1,fun y I=>⟨((h.inn x j).2.2 y I).1.row (fun g u=>(E g u).av x j y I) k,((h.inn x j).2.2 y I).2⟩⟩,
  mr:=fun x j=>(h.mr x j).row (fun g u=>(E g u).ms x j) k,po:=fun P R=>(h.po P R).row (fun g u=>(E g u).po P R) k}
theorem EU{e:TypeId}{z n:Nat}{v:Value}{xs:aO}(h:w.ownsRow B e z v n xs):∀g,v.ownBlock=some g->¬jr w g:=by
 intro g u hn;rcases h.2 with⟨rfl,_⟩|⟨g1,I,R,rfl,_,E,_⟩
 ·cases u
 simp only[Value.ownBlock,Option.some.injEq]at u;subst u;obtain⟨o,j,hc⟩:=hn;rw[E]at j;injection j with j;exact hc _ _ _ j.symm
theorem yU{a:aN}{xs:aO}{n g:Nat}(h:aK w a xs)(E:xs.length=0->n=0)(I:w.heap.size<=g):iC g a n:=by
 rcases h with h|⟨b,off,ha,hc⟩
 ·exact .inl (E (by rw[h];rfl))
 by_cases u:xs=[]
 ·exact .inl (E (by rw[u];rfl))
 refine .inr fun A j=> ?_;rw[ha]at j;injection j with j;rw[<-j];obtain⟨x,l,rfl⟩:=exists_cons_of_ne_nil u;have:=block_lt_of_cell (hc 0 x F);show b≠g;simp only at this;omega
theorem dJ.H_(h:dJ w p T){g:Nat}(E:w.heap.size<=g):T.Off g where
 ms x j:=yU (h.mr x j).cell.cells (fun e=>by rw[length_map,(h.mr x j).hl]at e;exact e) E
 av x j y hy:=yU ((h.inn x j).2.2 y hy).1.cell.cells (fun e=>by rw[length_map,((h.inn x j).2.2 y hy).1.hl]at e;exact e) E
 po P u:=by
  have u:=h.po P u;refine⟨by have:=u.blk.lt;omega,yU u.cell.cells (fun e=>by rw[Hg,u.hl]at e;omega) E,fun x j=>⟨?_,?_,?_⟩⟩
  ·exact yU (u.jF x j).1.cells (fun e=>by rw[length_map,(u.rM x j).rl]at e;exact e) E
  ·exact yU (u.jF x j).2.1.cells (fun e=>by rw[length_map,(u.rM x j).al]at e;exact e) E
  ·exact yU (u.jF x j).2.2.cells (fun e=>by rw[length_map,(u.rM x j).ll]at e;exact e) E
theorem aG.Ok.row{e:aG}(h:e.Ok w)(j:∀g,r=some g->iC g e.ba e.bn)(k:w.grownBy w' r):e.Ok w':=
 {h with hcl:=h.hcl.row (z:=1) (by rw[length_map,h.hb,Nat.one_mul]) j k}
theorem aG.Ok.mut{M:Nat->Prop}{e:aG}(h:e.Ok w)(m:gB M w w')(I:∀g,M g->g=p∨jr w g)(R:CU p e):e.Ok w':=by
 refine{h with hcl:= ?_};rcases h.hcl with u|⟨b,off,ha,u⟩
 ·exact .inl u
 refine .inr ⟨b,off,ha,fun i x aa=> ?_⟩;have j:=u i x aa;refine wu j (m.block b (block_lt_of_cell j) (fun hb=> ?_));rcases I b hb with E|E
 ·exact R _ ha E
 ·rw[E.cell]at j;cases j
theorem abt{M:Nat->Prop}{e:TypeId}{z n:Nat}{v:Value}{xs:aO}(h:w.ownsRow B e z v n xs)(m:gB M w w')(ab:∀g,v.ownBlock=some g->¬M g):w'.ownsRow B e z v n xs:=by
 refine⟨h.1,?_⟩;rcases h.2 with I|⟨g1,u,E,rfl,R,j,aa⟩
 ·exact .inl I
 ·exact .inr ⟨g1,u,E,F,R,(m.block g1 (Array.getElem?_eq_some_iff.1 j).1 (ab g1 F)).trans j,aa⟩
end
inductive o_:List aG->dw->Prop
 |nil:o_ [] dw.zero
 |snoc {es:List aG} {S:dw} {e:aG}:o_ es S->S.ref e=0->o_ (es++[e]) (S.next e)
theorem dJ.notM{w:World}{p g:Nat}{S:aV}{vs:aO}{E:TypeId}(h:dJ w p S)(hb:ah w g vs E)(R:E≠147):¬S.M p g:=by
 intro I;rcases h.Iz I with u|u
 ·subst u;have j:=h.blk;unfold ah at hb j;rw[hb]at j;injection j with j;injection j with _ j _;exact R j
 ·exact u.ne hb F
structure wU(w0 w:World)(gj gs go p:Nat)(S:aV)(v:Value)(es:List aG):Prop where
 st:dJ w p S
 bj:ah w gj [.bool false] 4
 bs:ah w gs [.pointer (some ⟨p,0,none⟩)] 25
 bo:ah w go [v] 24
 own:w.ownsRow w0.heap.size 34 68 v es.length (iM es)
 off:∀g,(v.ownBlock=some g∨g=go)->S.Off g
 ok:∀e∈es,e.Ok w
 eo:∀e∈es,∀g,(v.ownBlock=some g∨g=go)->iC g e.ba e.bn
 ep:∀e∈es,CU p e
 ch:o_ es S.p
 ex:X w0 w
 hi:∀g,S.M p g->w0.heap.size<=g
 go0:w0.heap.size<=go
section
variable {w0 w w':World} {gj gs go p:Nat} {S:aV} {v:Value} {es:List aG}
theorem wU.ext(h:wU w0 w gj gs go p S v es)(e:X w w'):wU w0 w' gj gs go p S v es:=
 {h with st:=h.st.ext e,bj:=h.bj.ext e,bs:=h.bs.ext e,bo:=h.bo.ext e,own:=dQ h.own e,ok:=fun x j=>(h.ok x j).ext e,ex:=h.ex.ext e}
theorem wU.apply(h:wU w0 w gj gs go p S v es){T:aV}(aa:dJ w' p T)(m:gB (S.M p) w w')(hn:∀g,T.M p g->S.M p g∨w.heap.size<=g)(ab:∀g,g<w.heap.size->S.Off g->T.Off g):
 dJ w' p T/\ah w' gj [.bool false] 4/\ah w' gs [.pointer (some ⟨p,0,none⟩)] 25/\ah w' go [v] 24/\w'.ownsRow w0.heap.size 34 68 v es.length (iM es)/\
  (∀g,(v.ownBlock=some g∨g=go)->T.Off g)/\(∀e∈es,e.Ok w')/\X w0 w'/\(∀g,T.M p g->w0.heap.size<=g):=by
 have I:∀g,S.M p g->g=p∨jr w g:=fun g j=>h.st.Iz j;have ac:∀g,v.ownBlock=some g->¬S.M p g:=by
  intro g j E;rcases I g E with u|u
  ·subst u;exact GU h.own h.st.blk aX j
  ·exact EU h.own g j u
 exact⟨aa,h.bj.mut m (h.st.notM h.bj aX),h.bs.mut m (h.st.notM h.bs aX),h.bo.mut m (h.st.notM h.bo aX),abt h.own m ac,fun g j=>ab g (j.elim (fun j=>(h.own.lt g j).2) (fun j=>j▸h.bo.lt)) (h.off g j),
  fun e R=>(h.ok e R).mut m I (h.ep e R),m.Ep h.ex (fun x ad E=>by have:=h.hi x E;omega),fun g j=>(hn g j).elim (h.hi g) (fun u=>Nat.le_trans h.ex.size u)⟩
end
end
theorem TB{x:Nat}(h:4611686018427387904<x)(j:x<18446744073709551616):kK x<0∨1099511627776<kK x:=by
 unfold kK;simp only[IntKind.wrap_i64];omega
theorem IG{w w':World}{B b:Nat}{e T:TypeId}{z n:Nat}{v:Value}{xs vs:aO}(h:w.ownsRow B e z v n xs)(u:aU w b w')(hb:ah w b vs T)(ac:e≠T):w'.ownsRow B e z v n xs:=by
 refine⟨h.1,?_⟩;rcases h.2 with h|⟨g,E,cu,I,R,j,aa⟩
 ·exact .inl h
 ·have ab:g≠b:=by
   rintro rfl;unfold ah at hb;rw[j]at hb;injection hb with hb;injection hb with _ hb;exact ac hb
  exact .inr ⟨g,E,cu,I,R,(u.block g ab).trans j,aa⟩
theorem TD{l:aj}{p M k:Nat}(h:k+4<=M):iW ((l.drop p).take M) k=iW l (p+k):=by
 unfold iW;have e:∀j,j<4->((l.drop p).take M)[k+j]? =l[p+k+j]? :=fun j E=>by
  rw[List.getElem?_take_of_lt J,List.getElem?_drop,Nat.add_assoc]
 have u:=e 0 J;rw[Nat.add_zero,Nat.add_zero]at u;rw[u,e 1 J,e 2 J,e 3 J]
theorem TF{l:aj}{p M k:Nat}(h:k+8<=M):fE ((l.drop p).take M) k=fE l (p+k):=by
 unfold fE;rw[TD J,TD J,<-Nat.add_assoc]
theorem TG(j:aj)(M k:Nat)(h:k+8<=M):∃E u:Int,vW j M (k:Int)= .tuple #[.int .i64 E,.int .i64 u]/\((u=0/\E=(fE j k:Nat)/\fE j k<=4611686018427387904)∨(u=4/\4611686018427387904<fE j k)):=by
 unfold vW;rw[if_pos (by unfold g_;rw[if_neg J,if_neg J]),Int.toNat_natCast];by_cases h:fE j k<=4611686018427387904
 ·rw[if_pos h];exact⟨_,_,F,.inl ⟨F,F,h⟩⟩
 ·rw[if_neg h];exact⟨_,_,F,.inr ⟨F,J⟩⟩
theorem abu{x:dW}(h:dR x.num 0 65535=true∨dR x.time 0 1099511627776=true):jX x=4:=by
 unfold jX dN dW.r;simp only;rw[if_pos (by simpa using h)]
theorem TI{x:dW}{e:Int}{j:dW×Int×Int}(h:(if jX x=0 then(x,e,0)else(u_,0,jX x))=j):(jX x=0/\j=(x,e,0))∨(jX x≠0/\j=(u_,0,jX x)):=by
 by_cases q:jX x=0
 ·rw[if_pos q]at h;exact .inl ⟨q,h.symm⟩
 ·rw[if_neg q]at h;exact .inr ⟨q,h.symm⟩
theorem abv{x:dW}{e:Int}{j:dW×Int×Int}(h:(jX x=0/\j=(x,e,0))∨(jX x≠0/\j=(u_,0,jX x)))(u:jX x=4):j=(u_,0,4):=by
 rcases h with⟨h, -⟩|⟨-,h⟩
 ·omega
 ·rw[h,u]
theorem abw{A:Int}(h:A<0∨1099511627776<A):dR A 0 1099511627776=true:=by
 unfold dR;rcases h with h|h
 ·rw[aQ h];rfl
 ·rw[aQ h,Bool.or_true]
theorem abx{A:Int}(h:A<0∨1099511627776<A):dR A 0 65535=true:=by
 unfold dR;rcases h with h|h
 ·rw[aQ h];rfl
 ·rw[aQ (show 65535<A by omega),Bool.or_true]
theorem aby{l:aj}{p N:Nat}(h:4611686018427387904<fE l (p+4)∨4611686018427387904<fE l (p+12)):jX (wQ l p N)=4:=by
 refine abu ?_;rcases h with h|h
 ·exact .inl (abx (TB h (JQ _ _)))
 ·exact .inr (abw (TB h (JQ _ _)))
theorem Mc{P:Program}{o:Oper}{a:Act}{t e:TypeId}{x y:Operand}{p q:aN}{n c k z:Nat}(u:qX p c k z=q)(j:o.op= .slice t x (some y) none none)(I:a.eval x= .slice p n c)(R:a.eval y= .int .i64 (k:Int))(E:P.underlying t=some (.slice e))(hs:(P.info? e).map (·.size)=some z)(hk:k<=n)(w:World):
 (execOp a.eval o).run P w= .ok (.value (.slice q (n - k) (c - k))) w:=by
 rw[<-u];exact Jr j I R E hs hk w
theorem abz(l:aj)(a:aN)(n c:Nat)(at_:Int)(w:World)(cp:l.length=n)(eQ:n<=c)(hn:n<=140737488355328)(hc:c<=9223372036854775807)(dk:aK w a (l.map Y)):
 Calls prog 55 #[.slice a n c,.int .i64 at_] w (Le l at_ w):=by
 obtain⟨an,bm,ab⟩:=aW cp dk (fun w' h=>aak l a n c at_ w' cp eQ hn h);have d4:=fun E w' h e=>SB (l:=l) (at_:=at_) (w:=w) (w':=w') (E:=E) h e;have aE:=O d4;obtain⟨er,u⟩:=aC (fQ l at_);rw[u]at aE;have cL:=O u;unfold fQ at u;obtain⟨E,bv⟩:=aC (qI l at_);rw[bv]at ab u;clear dk d4;by_cases q:E=0
 rotate_left
 ·rw[if_pos q]at u;have eZ:(E != 0)=true:=by simpa using q
  rw[if_neg q]at ab;have aa:=O u.symm;clear u q bv;go_enter func55,ntmps55;go_upto_region 1 with(fail);generalize ag:World.alloc w _=ai;have az:ah ai w.heap.size dS.v 34:=by rw[<-ag];exact ah.aI F F
  have ax:X w ai:=by rw[<-ag];exact(X.refl w).alloc _
  obtain⟨aw,ae⟩:=aB az ax;clear ag az ax;go_wp2_with fail;refine(ab ai (bm.ext ae)).mono ?_;rintro x cz ⟨rfl,af⟩;obtain⟨a2,aD⟩:=aB (aw.ext af) (ae.ext af);clear af aw ae ab;go_wp2_with (refine bg F _ _ _ F F F a2 cZ dZ (xs:=dS.v) dZ (i_ dS) ?_);intro a9 b8 a8;go_wp2_with fail;exact qJ F F b8 cZ dZ F (aE E _ aa (a8.ext aD bG))
 rw[if_neg (by simpa using q)]at u;rw[if_pos q]at ab;obtain⟨p,rfl,eR,eO,eE⟩:=aaj (bv.trans q);rw[Int.toNat_natCast]at u ab;obtain⟨N,dd⟩:=aC (nH l p);rw[dd]at u ab eE;subst q;rw[cp]at u eR;clear bv eO dd;have e4:IntKind.i64.wrap ((n:Int) - p)=(n:Int) - p:=IntWalk.i64_in _ J;by_cases ct:n<p+121+N
 ·rw[if_pos ct]at u;have aa:=O u.symm;have ca:decide ((n:Int) - p<((121+N:Nat):Int))=true:=aQ J;clear u ct;obtain⟨M,ci⟩:=aC (121+N);rw[ci]at ab ca;go_enter func55,ntmps55;go_upto_region 1 with(fail);generalize ag:World.alloc w _=ai;have az:ah ai w.heap.size dS.v 34:=by rw[<-ag];exact ah.aI F F
  have ax:X w ai:=by rw[<-ag];exact(X.refl w).alloc _
  obtain⟨aw,ae⟩:=aB az ax;clear ag az ax;go_wp2_with fail;refine(ab ai (bm.ext ae)).mono ?_;rintro x cz ⟨rfl,af⟩;obtain⟨a2,aD⟩:=aB (aw.ext af) (ae.ext af);clear af aw ae ab;go_wp2_with (refine bg F _ _ _ F F F a2 cZ dZ (xs:=dS.v) dZ (i_ dS) ?_);intro a9 b8 a8;go_wp2_with fail;exact qJ F F b8 cZ dZ F (aE 1 _ aa (a8.ext aD bG))
 rw[if_neg ct]at u;have ca:decide ((n:Int) - p<((121+N:Nat):Int))=false:=aP J;obtain⟨b,off,rfl,bE⟩:=bm.gQ (by rw[length_map,an.out];omega);have dz:dL (some ⟨b,off,none⟩) c p=some ⟨b,off+p,none⟩:=by unfold dL;rw[if_neg J,Option.map_some,dn]
 have ej:=O dz;obtain⟨K,db⟩:=aC (89+N);obtain⟨M,ci⟩:=aC (121+N);obtain⟨S,bz⟩:=aC (dY 3 ((l.drop p).take K));obtain⟨aL,bA⟩:=aC ((l.drop (p+K)).take 32);have d1:Cm l p N=(S==aL):=by unfold Cm;rw[db,Nat.add_assoc,db,bz,bA]
 rw[d1]at u;rw[ci]at ab ca;have cl:S.length=32:=by rw[<-bz];exact j_ _ _
 have ck:aL.length=32:=by rw[<-bA,length_take,length_drop,an.out];omega
 have cr:=O (fun w' h=>Gf 3 ((l.drop p).take K) K (c - p) (some ⟨b,off+p,none⟩) w' (by rw[length_take,length_drop,an.out];omega) J J (fun h=>by cases h) h);have d2:uX 3 ((l.drop p).take K) K= .tuple #[.agg (S.map Y).toArray,.int .i64 0]:=by
  unfold uX;rw[if_neg J,if_pos J,bz]
 rw[d2]at cr;obtain⟨dr,cP,cQ⟩:=aW (fun w=>vY underlying31 S aL cl ck w) (show(S.map Y).length=32 by rw[length_map,cl]) (show(aL.map Y).length=32 by rw[length_map,ck]);have d6:=b_ S;have c0:aK w (some ⟨b,off+p,none⟩) (((l.drop p).take K).map Y):=xW bE p K;have c1:dP w ⟨b,off+p+K*1,none⟩ (aL.map Y):=by
  rw[<-bA,Nat.mul_one,Nat.add_assoc];exact xU bE (p+K) 32
 obtain⟨cC,cD,a1⟩:=aW c0 c1 bE;have e7:IntKind.i64.wrap ((p:Int)+(M:Int))=((p+M:Nat):Int):=by rw[IntWalk.i64_in _ J];omega
 have e6:IntKind.i64.wrap ((M:Int) - 32)=(K:Int):=by rw[IntWalk.i64_in _ J];omega
 have eL:p+M<=c:=J;have dc:K<=c - p:=J;have e1:M - K=32:=J;have d3:qX (some ⟨b,off+p,none⟩) (c - p) K 1=some ⟨b,off+p+K*1,none⟩:=by unfold qX;rw[if_neg J,Option.map_some,dn]
 obtain⟨eo,ac⟩:=aB d3 u;clear bE dz bz bA d1 d2 cl ck c0 c1 d3 u;go_enter func55,ntmps55;go_upto_region 1 with(fail);generalize ag:World.alloc w _=ai;have az:ah ai w.heap.size dS.v 34:=by rw[<-ag];exact ah.aI F F
 have ax:X w ai:=by rw[<-ag];exact(X.refl w).alloc _
 obtain⟨aw,ae⟩:=aB az ax;clear ag az ax;go_wp2_with fail;refine(ab ai (bm.ext ae)).mono ?_;rintro x cz ⟨rfl,af⟩;obtain⟨a2,aD⟩:=aB (aw.ext af) (ae.ext af);clear af aw ae ab;go_wp2_with (first|(refine bF F (oV (k:=p) (h:=p+M) F F F F underlying32 gu J eL ej _) ?_)|(refine bF F (zB (k:=K) F F F underlying32 gu dc _) ?_));refine(cr cz (cC.ext aD)).mono ?_;rintro x bO ⟨rfl,aR⟩;obtain⟨b5,cI⟩:=aB (a2.ext aR) (aD.ext aR);clear aR a2 aD cr cC;go_wp2_with (refine bg F _ _ _ F F F (ah.aI (vs:=List.replicate 32 (.int .u8 0)) F F) qA aF cP d6 ?_);intro a9 d8 a8;have aR:X bO a9:=a8.ext ((X.refl bO).alloc _) bG;obtain⟨b4,cH,bo⟩:=aW (b5.ext aR) (cI.ext aR) d8;have eN:w.heap.size<bO.heap.size:=b5.lt;clear a8 aR d8 b5 cI d6;obtain⟨gs,dq⟩:=aC bO.heap.size;rw[dq]at bo eN⊢;clear dq;go_upto_region 9 with(fail);obtain⟨C,R,aJ,bP⟩:=iw (show bT w a9 [w.heap.size,gs] [] a9 from bT.jA cH (dV.two b4.lt bo.lt));have bh:∀j,C j->dP j ⟨gs,0,none⟩ (S.map Y):=fun j I=>dP.of (aK.eG (((R j).1 I).blk bo aF));have bi:∀j,C j->dP j ⟨b,off+p+K*1,none⟩ (aL.map Y):=fun j I=>cD.ext ((R j).1 I).base;refine fJ fun Z=> ?_;refine bD 0 F (bf F (fun j h=>bQ F F (bh j h) qA cP)) ?_;refine aA 1 ?_;refine aA 2 ?_;refine bD 3 F (bf F (fun j _=>Mc (k:=K) eo F F F underlying32 gu J j)) ?_;refine bD 4 F (bf F (fun j _=>rC (n:=32) F F underlying31 J j)) ?_;refine bD 5 F (bf F (fun j h=>bQ F F (bi j h) qA cQ)) ?_;refine bD 6 F (bf F (fun j _=>jm F F F EI dr j)) ?_;generalize a9.drew=cA at*;have b6:=O (((R cA).1 Z).blk b4 aF);have bl:=O ((R cA).1 Z).base
 clear Z R aJ bP bh bi b4 cH bo cD cQ dr;refine dH ?_;cases cv:(S==aL)with
 |false=>
  have aa:=O (show er=(u_,0,13) by have h:=ac.out;rw[cv,if_pos F]at h;exact h.symm);clear ac;go_wp2_with (refine bg F _ _ _ F F F b6 cZ dZ (xs:=dS.v) dZ (i_ dS) ?_);intro ea ew eS;go_wp2_with fail;exact qJ F F ew cZ dZ F (aE 13 _ aa (eS.ext bl bG))
 |true=>
 have u:=ac.out;rw[cv,if_neg aX]at u;replace u:=TI u;clear ac cv;obtain⟨am,bB⟩:=aC ((l.drop p).take M);have di:am.length=M:=by rw[<-bB,length_take,length_drop,an.out];omega
 have dg:fE am 4=fE l (p+4):=by rw[<-bB];exact TF J
 have df:fE am 12=fE l (p+12):=by rw[<-bB];exact TF J
 obtain⟨c7,a7,ds,a4⟩:=TG am M 4 J;obtain⟨d9,bk,du,a5⟩:=TG am M 12 J;rw[dg]at a4;rw[df]at a5;have c2:∀w',X w w'->aK w' (some ⟨b,off+p,none⟩) (am.map Y):=fun w' e=>by rw[<-bB];exact(xW a1 p M).ext e
 obtain⟨cn,co⟩:=aB (fun w' h=>Jz am (some ⟨b,off+p,none⟩) M (c - p) 4 w' di J J h) (fun w' h=>Jz am (some ⟨b,off+p,none⟩) M (c - p) 12 w' di J J h);have dt:vW am M 4= .tuple #[.int .i64 c7,.int .i64 a7]:=ds;have dv:vW am M 12= .tuple #[.int .i64 d9,.int .i64 bk]:=du;rw[dt]at cn;rw[dv]at co;have cE:=O c2;clear ds du dt dv c2 dg df;go_wp2_with fail;refine(cn cA (cE _ bl)).mono ?_;rintro x ea ⟨rfl,cc⟩;obtain⟨cU,a0⟩:=aB (b6.ext cc) (bl.ext cc);clear cc b6 bl cn;go_wp2_with fail;refine(co ea (cE _ a0)).mono ?_;rintro x cB ⟨rfl,cd⟩;obtain⟨aM,a_⟩:=aB (cU.ext cd) (a0.ext cd);clear cd cU a0 co;by_cases bj:a7=0/\bk=0
 rotate_left
 ·have dj:4611686018427387904<fE l (p+4)∨4611686018427387904<fE l (p+12):=by
   rcases a4 with⟨I, -, -⟩|⟨-,I⟩
   ·rcases a5 with⟨ap, -, -⟩|⟨-,ap⟩
    ·exact absurd ⟨I,ap⟩ bj
    ·exact .inr ap
   ·exact .inl I
  have a3:jX (wQ l p N)=4:=aby dj;have aa:=O (abv u a3);have cb:((a7 != 0)||(bk != 0))=true:=by
   by_cases I:a7=0
   ·have ap:bk≠0:=fun ap=>bj ⟨I,ap⟩;simp[I,ap]
   ·simp[I]
  clear u a3 a4 a5 dj;by_cases I:a7=0
  ·subst I;have ap:(bk != 0)=true:=by simpa using cb
   clear bj cb;go_wp2_with (refine bg F _ _ _ F F F aM cZ dZ (xs:=dS.v) dZ (i_ dS) ?_);intro eW b9 cy;go_wp2_with fail;exact qJ F F b9 cZ dZ F (aE 4 _ aa (cy.ext a_ bG))
  ·have I:(a7 != 0)=true:=by simpa using I
   clear bj cb;go_wp2_with (refine bg F _ _ _ F F F aM cZ dZ (xs:=dS.v) dZ (i_ dS) ?_);intro eW b9 cy;go_wp2_with fail;exact qJ F F b9 cZ dZ F (aE 4 _ aa (cy.ext a_ bG))
 obtain⟨rfl,rfl⟩:=bj;obtain⟨rfl,a4⟩:c7=(fE l (p+4):Nat)/\fE l (p+4)<=4611686018427387904:=by rcases a4 with⟨-,h,ce⟩|⟨h, -⟩;exact⟨h,ce⟩;cases h
 obtain⟨rfl,a5⟩:d9=(fE l (p+12):Nat)/\fE l (p+12)<=4611686018427387904:=by rcases a5 with⟨-,h,ce⟩|⟨h, -⟩;exact⟨h,ce⟩;cases h
 have a6:∃ad,l[p+20]?.getD 0=ad:=⟨_,F⟩;obtain⟨ad,a6⟩:=a6;obtain⟨aq,bp⟩:=aC ((l.drop (p+21)).take 16);obtain⟨ar,bq⟩:=aC ((l.drop (p+37)).take 16);obtain⟨av,br⟩:=aC ((l.drop (p+53)).take 32);obtain⟨al,bt⟩:=aC ((l.drop (p+89)).take N);have cf:aq.length=16:=by rw[<-bp,length_take,length_drop,an.out];clear u;omega
 have cg:ar.length=16:=by rw[<-bq,length_take,length_drop,an.out];clear u;omega
 have ch:av.length=32:=by rw[<-br,length_take,length_drop,an.out];clear u;omega
 have c8:al.length=N:=by rw[<-bt,length_take,length_drop,an.out];clear u;omega
 have dm:wQ l p N=⟨(fE l (p+4):Nat),(fE l (p+12):Nat),(ad.toNat:Int),aq,ar,av,al⟩:=by
  unfold wQ;rw[DW (by clear u;omega),DW (by clear u;omega),a6,bp,bq,br,bt]
 rw[dm]at u;have c3:dP w ⟨b,off+p+21,none⟩ (aq.map Y):=by rw[<-bp,Nat.add_assoc];exact xU a1 (p+21) 16
 have c4:dP w ⟨b,off+p+37,none⟩ (ar.map Y):=by rw[<-bq,Nat.add_assoc];exact xU a1 (p+37) 16
 have c5:dP w ⟨b,off+p+53,none⟩ (av.map Y):=by rw[<-br,Nat.add_assoc];exact xU a1 (p+53) 32
 have c6:aK w (some ⟨b,off+p+89,none⟩) (al.map Y):=by rw[<-bt,Nat.add_assoc];exact xW a1 (p+89) N
 have cY:w.cell? ⟨b,off+p+20*1,none⟩=some (.int .u8 (ad.toNat:Nat)):=by
  have h:=a1.out (p+20) (Y ad) (by rw[List.getElem?_map];have:l[p+20]? =some (l[p+20]'(by rw[an.out];clear u;omega)):=List.getElem?_eq_getElem _;rw[this]at a6⊢;rw[<-a6];rfl);rw[<-Nat.add_assoc]at h;exact h
 obtain⟨b',cm⟩:=aC (((fE l (p+4):Nat):Int):Int);obtain⟨cw,cs⟩:=aC (((fE l (p+12):Nat):Int):Int);rw[cm,cs]at u;rw[cm,cs];have ac:=O u;clear u;have e5:IntKind.i64.wrap (ad.toNat:Int)=(ad.toNat:Int):=IntWalk.i64_in _ (by have:=ad.toNat_lt;omega);have dC:dL (some ⟨b,off+p,none⟩) (c - p) 21=some ⟨b,off+p+21,none⟩:=by unfold dL;rw[if_neg J,Option.map_some,dn]
 have dE:dL (some ⟨b,off+p,none⟩) (c - p) 37=some ⟨b,off+p+37,none⟩:=by unfold dL;rw[if_neg J,Option.map_some,dn]
 have dT:dL (some ⟨b,off+p,none⟩) (c - p) 53=some ⟨b,off+p+53,none⟩:=by unfold dL;rw[if_neg J,Option.map_some,dn]
 have d0:dL (some ⟨b,off+p,none⟩) (c - p) 89=some ⟨b,off+p+89,none⟩:=by unfold dL;rw[if_neg J,Option.map_some,dn]
 obtain⟨ek,el,em,en,ed,ee,ef,ec⟩:=jg dC dE dT d0 c3 c4 c5 cY;have eA:K - 89=N:=J;obtain⟨dl,eg,eh,ei,bS,bX,b0⟩:=su (fun w' e=>DL al (some ⟨b,off+p+89,none⟩) N (c - p - 89) w' c8 J (c6.ext e)) (show(aq.map Y).length=16 by rw[length_map,cf]) (show(ar.map Y).length=16 by rw[length_map,cg]) (show(av.map Y).length=32 by rw[length_map,ch]) cf cg ch;have eI:37<=c - p:=J;have eJ:53<=c - p:=J;have eK:85<=c - p:=J;have eB:20<M:=J;have ez:89<=K:=J;clear dC dE dT d0 c3 c4 c5 cY c6 cf cg ch dm cm cs a6 a4 a5 bp bq br bt;go_upto_region 15 with(fail);obtain⟨C,R,aJ,bP⟩:=iw (show bT w cB [w.heap.size] [] cB from bT.jA a_ (dV.one aM.lt));have bh:∀j,C j->j.cell? ⟨b,off+p+20*1,none⟩=some (.int .u8 (ad.toNat:Nat)):=fun j I=>gW ec ((R j).1 I).base;have bi:∀j,C j->dP j ⟨b,off+p+21,none⟩ (aq.map Y):=fun j I=>ed.ext ((R j).1 I).base;have dx:∀j,C j->dP j ⟨b,off+p+37,none⟩ (ar.map Y):=fun j I=>ee.ext ((R j).1 I).base;have dy:∀j,C j->dP j ⟨b,off+p+53,none⟩ (av.map Y):=fun j I=>ef.ext ((R j).1 I).base;refine fJ fun Z=> ?_;refine aA 0 ?_;refine aA 1 ?_;refine aA 2 ?_;refine bD 3 F (bf F (fun j _=>fP (i:=20) F F F underlying32 gu eB j)) ?_;refine bD 4 F (bf F (fun j h=>kT F F (bh j h) FI)) ?_;refine aA 5 ?_;refine aA 6 ?_;refine bD 7 F (bf F (fun j _=>oV (k:=21) (h:=37) F F F F underlying32 gu J eI ek j)) ?_;refine bD 8 F (bf F (fun j _=>rC (n:=16) F F underlying29 J j)) ?_;refine bD 9 F (bf F (fun j h=>bQ F F (bi j h) dh eg)) ?_;refine aA 10 ?_;refine bD 11 F (bf F (fun j _=>oV (k:=37) (h:=53) F F F F underlying32 gu J eJ el j)) ?_
 refine bD 12 F (bf F (fun j _=>rC (n:=16) F F underlying29 J j)) ?_;refine bD 13 F (bf F (fun j h=>bQ F F (dx j h) dh eh)) ?_;refine aA 14 ?_;refine bD 15 F (bf F (fun j _=>oV (k:=53) (h:=85) F F F F underlying32 gu J eK em j)) ?_;refine bD 16 F (bf F (fun j _=>rC (n:=32) F F underlying31 J j)) ?_;refine bD 17 F (bf F (fun j h=>bQ F F (dy j h) qA ei)) ?_;refine aA 18 ?_;refine aA 19 ?_;refine bD 20 F (bf F (fun j _=>oV (k:=89) (h:=K) F F F F underlying32 gu ez dc en j)) ?_;rw[eA];refine zo (B:=World.heap cB |>.size) (A:=23) (d:=17) (T:=34) (vs:=dS.v) (D:=C) undef F aJ (fun _ h=>h) (fun _ h=>((R _).1 h).kept.1) Z ?_;try dsimp only
 refine cO ?_;refine lZ 21 (β:=aN×Nat) (fun z=> .slice z.1 N z.2) (fun z w'=>w'.ownsRow (w.heap.size+1) 5 1 (.slice z.1 N z.2) N (al.map Y)) F F F F (fun _ _=>rfl) au au au F (fun _ _=>jw) ?phi21 ?step21 ?rest21
 case phi21=>exact fun z j w2 h e=>dQ h e
 case step21=>
  intro x j c_ cS bw;have eD:w.heap.size+1<=j.heap.size:=by have:=aM.lt;have:=((R j).1 c_).kept.1;omega
  have ex:=((R j).1 c_).base;clear Z;go_wp2_with fail;refine(dl j ex).mono ?_;rintro e w2 ⟨v,rfl,own, -,e2⟩;obtain⟨a',c',rfl, -, -, -, -⟩:=nT own;go_wp2_with fail;exact bw (a',c') _ e2 (mg own eD)
 case rest21=>
 rintro⟨cW,cX⟩;refine aH ?_;refine AY 22 F (fun _=>bf F (fun j _=>QH al F F F F F F F F bS bX b0 j)) ?_;refine wY F F F (fun _ _=>rfl) au (fun _ _=>jw) ?_;rintro ev eT ⟨c9,d7⟩ d5 hb;obtain⟨b1,cJ,cR⟩:=aW hb ((R eT).1 c9) d7;clear hb c9 d7 bh bi dx dy dl;obtain⟨ao,bx⟩:=jE (⟨b',cw,(ad.toNat:Int),aq,ar,av,cW,N,cX,al⟩:aG);rw[<-bx];obtain⟨cM,ba⟩:=aB bx (show ao.v.length=68 by rw[bx];unfold aG.v;simp[bS.out,bX.out,b0.out]);clear bx;refine aZ 24 ?_;intro cS bw;go_wp2_with (refine bg F _ _ _ F F F b1 cZ dZ (xs:=ao.v) ba (i_ ao) ?_);intro d' cV cx;have bu:=bT.upd cJ cx d5 a_.size;refine bw _ _ ((R d').2 bu) ?_;obtain⟨bR,cT⟩:=aB cV (bu.blk aM aF);have cF:=O bu.base;have b2:=O (IG cR cx b1 aX);have e3:w.heap.size<ev:=Nat.lt_of_lt_of_le aM.lt d5;clear bw cS cx cV bu cJ b1 a_ aM cR;refine dH ?_;unfold vS;have cq:∀w',w'.ownsRow (w.heap.size+1) 5 1 (.slice cW N cX) N (al.map Y)->ao.Ld w' w.heap.size:=by
  intro w' h;obtain⟨a',c',eM,I,ap,ey,a3⟩:=nT h;cases eM;have eC:N<=140737488355328:=by clear a3 ac;omega
  rw[cM.out];refine⟨⟨bS,bX,b0,c8,I,eC,fun h=> ?_,a3⟩,SA h a3 J⟩;have:=ey h;exact⟨by simp only;omega,this⟩
 have cK:=O cq;have cj:ao.p=⟨b',cw,(ad.toNat:Int),aq,ar,av,al⟩:=by rw[cM.out];rfl
 have be:=O (fun w' h=>Qy ao w' h);rw[xH,cj]at be;have cN:=O cj;obtain⟨et,de⟩:=aC ((⟨b',cw,(ad.toNat:Int),aq,ar,av,al⟩:dW):dW);rw[de]at ac be cN;obtain⟨a0,da⟩:=aC (jX et);rw[da]at ac be;have dp:((p+121+N:Nat):Int)=((p+M:Nat):Int):=by clear cq;omega
 rw[dp]at ac;clear cq cj de da dp;go_wp2_with (refine bV F 34 (.tmp 17) F F bR cZ ba ?_);refine(be d' (cK _ b2).1).mono ?_;rintro x e8 ⟨rfl,bc⟩;obtain⟨b3,eb,cG,ep⟩:=bU (cT.ext bc) (bR.ext bc) (cF.ext bc) (dQ b2 bc);clear bc cT bR cF b2 be;rcases ac.out with⟨bL,bd⟩|⟨bL,bd⟩
 ·subst bL;have aa:=O bd;clear ac bd;go_wp2_with (first|(refine bV F 34 (.tmp 17) F F eb cZ ba ?_)|(refine bg F _ _ _ F F F b3 cZ dZ (xs:=ao.v) ba (i_ ao) ?_));intro eV b7 bN;go_wp2_with fail;refine qJ F F b7 cZ ba F ⟨ao,?_,cK _ (IG ep bN b3 aX),?_,bN.ext cG bG⟩
  ·rw[cL.out,aa.out];rfl
  ·rw[cL.out,aa.out,cN.out]
 ·have aa:=O bd;have e0:(a0 != 0)=true:=by simpa using bL
  clear ac bd bL;go_wp2_with (refine bg F _ _ _ F F F b3 cZ dZ (xs:=dS.v) dZ (i_ dS) ?_);intro eV b7 bN;go_wp2_with fail;exact qJ F F b7 cZ dZ F (aE a0 _ aa (bN.ext cG bG))
theorem TJ(a:aN)(n c:Nat)(at_ j:Int)(w:World)(hn:n<=140737488355328)(hc:n<=c)(ae:c<=9223372036854775807)(ab:0<=j)(af:j<=1099511627776):
 Calls prog 98 #[.slice a n c,.int .i64 at_,.int .i64 j] w (yD a n c at_ j w):=by
 by_cases E:at_<0
 ·have u:∀e w',(e=Ending.returned (.tuple #[.slice none 0 0,.int .i64 4])/\w=w')->yD a n c at_ j w e w':=by
   rintro e w' ⟨rfl,rfl⟩;have:g_ n at_ j=4:=by simp[g_,E]
   refine⟨F,?_⟩;rw[if_neg J,this]
  refine Calls.mono ?_ u;clear u;go_enter func98,ntmps98;go_wp2
  go_ret2
  exact⟨F,F⟩
 ·have aa:0<=at_:=J;by_cases ac:(n:Int)<at_
  ·have u:∀e w',(e=Ending.returned (.tuple #[.slice none 0 0,.int .i64 1])/\w=w')->yD a n c at_ j w e w':=by
    rintro e w' ⟨rfl,rfl⟩;have:g_ n at_ j=1:=by simp only[g_,E,if_false];rw[if_pos J]
    refine⟨F,?_⟩;rw[if_neg J,this]
   refine Calls.mono ?_ u;clear u;go_enter func98,ntmps98;go_wp2
   go_ret2
   exact⟨F,F⟩
  ·by_cases ad:(n:Int) - at_<j
   ·have u:∀e w',(e=Ending.returned (.tuple #[.slice none 0 0,.int .i64 1])/\w=w')->yD a n c at_ j w e w':=by
     rintro e w' ⟨rfl,rfl⟩;have:g_ n at_ j=1:=by simp only[g_,E,if_false];rw[if_pos J]
     refine⟨F,?_⟩;rw[if_neg J,this]
    refine Calls.mono ?_ u;clear u;go_enter func98,ntmps98;go_wp2
    go_ret2
    exact⟨F,F⟩
   ·have I:g_ n at_ j=0:=by simp only[g_,E,if_false];rw[if_neg J]
    have R:=O I;clear I;obtain⟨p,rfl⟩:=Int.eq_ofNat_of_zero_le aa;obtain⟨m,rfl⟩:=Int.eq_ofNat_of_zero_le ab;go_enter func98,ntmps98;go_wp2;all_goals
     go_ret2
     refine⟨F,?_⟩;rw[if_pos R.out];simp[dL, *]
theorem CX(E:Int)(w:World):
 Calls prog 97 #[.int .i64 E] w fun e w'=>e= .returned (.tuple #[.agg dS.v.toArray,.int .i64 0,.int .i64 E])/\X w w':=by
 go_enter func97,ntmps97;go_upto_region 1 with(fail);generalize j:World.alloc w _=I;have R:ah I w.heap.size dS.v 34:=by rw[<-j];exact ah.aI F F
 have u:X w I:=by rw[<-j];exact(X.refl w).alloc _
 obtain⟨ab,aa⟩:=aB R u;clear j R u;go_wp2_with (refine bg F _ _ _ F F F ab cZ dZ (xs:=dS.v) dZ (i_ dS) ?_);intro ae ac ad;go_wp2_with fail;exact qJ F F ac cZ dZ F ⟨F,ad.ext aa bG⟩
theorem abA(l:aj)(n:Nat)(at_:Int)(E:l.length=n):g_ n at_ 89≠0->qI l at_=g_ n at_ 89:=by
 intro h;unfold g_ at h⊢;unfold qI;rw[E];by_cases j:at_<0
 ·rw[if_pos j,if_pos j]
 ·rw[if_neg j]at h⊢;rw[if_neg j];by_cases u:(n:Int)<89∨(n:Int) - 89<at_
  ·rw[if_pos u,if_pos u]
  ·rw[if_neg u]at h;exact absurd F h
theorem aG.len'{e:aG}(ha:e.bI.length=16)(hk:e.key.length=16)(j:e.prev.length=32):e.v.length=68:=by unfold aG.v;simp[ha,hk,j]
theorem aG.abB{e:aG}(ha:e.bI.length=16)(hk:e.key.length=16)(j:e.prev.length=32):e.v[67]? =some (.slice e.ba e.bn e.bc):=by
 unfold aG.v;rw[show(67:Nat)=64+1+1+1 by rfl,List.getElem?_cons_succ,List.getElem?_cons_succ,List.getElem?_cons_succ,List.getElem?_append_right (by simp[ha]),List.getElem?_append_right (by simp[ha,hk]),List.getElem?_append_right (by simp[ha,hk,j])];simp[ha,hk,j]
theorem aG.abC(e:aG)(a:aN)(n c:Nat)(l:aj)(ha:e.bI.length=16)(hk:e.key.length=16)(j:e.prev.length=32):e.v.set 67 (.slice a n c)={e with ba:=a,bn:=n,bc:=c,body:=l}.v:=by
 unfold aG.v;rw[show(67:Nat)=64+1+1+1 by rfl,set_cons_succ,set_cons_succ,set_cons_succ,set_append_right _ _ (by simp[ha]),set_append_right _ _ (by simp[ha,hk]),set_append_right _ _ (by simp[ha,hk,j])];simp[ha,hk,j]
theorem abD(l:aj)(a:aN)(n c:Nat)(at_:Int)(w:World)(dz:l.length=n)(dE:n<=c)(hn:n<=140737488355328)(hc:c<=9223372036854775807)(dt:aK w a (l.map Y)):
 Calls prog 56 #[.slice a n c,.int .i64 at_] w (Le l at_ w):=by
 obtain⟨ae,ep,ag⟩:=aW dz dt (fun w'=>TJ a n c at_ 89 w' hn dE hc J J);have ed:=fun E w' h e=>SB (l:=l) (at_:=at_) (w:=w) (w':=w') (E:=E) h e;have a4:=O ed;obtain⟨eE,u⟩:=aC (fQ l at_);rw[u]at a4;have ci:=O u;unfold fQ at u;clear dt ed;by_cases q:g_ n at_ 89=0
 rotate_left
 ·have di:=abA l n at_ dz q;rw[di,if_pos q]at u;unfold yD at ag;simp only[if_neg q]at ag;obtain⟨E,br⟩:=aC (g_ n at_ 89);rw[br]at u ag q;have e8:(E != 0)=true:=by simpa using q
  have al:=O u.symm;clear u q di br;go_enter func56,ntmps56;go_upto_region 1 with(fail);generalize ac:World.alloc w _=I;have an:ah I w.heap.size dS.v 34:=by rw[<-ac];exact ah.aI F F
  have am:X w I:=by rw[<-ac];exact(X.refl w).alloc _
  obtain⟨af,ab⟩:=aB an am;clear ac an am;go_wp2_with fail;refine(ag I).mono ?_;rintro x ad ⟨R,rfl⟩;rw[<-R];clear R ad ag;go_wp2_with fail;refine(CX E I).mono ?_;rintro x bB ⟨rfl,aa⟩;obtain⟨av,aq⟩:=aB (af.ext aa) (ab.ext aa);clear aa af ab;go_wp2_with (refine bg F _ _ _ F F F av cZ dZ (xs:=dS.v) dZ (i_ dS) ?_);intro bE aw az;go_wp2_with fail;exact qJ F F aw cZ dZ F (a4 E _ al (az.ext aq bG))
 obtain⟨p,rfl,fe⟩:=Jy q J;have ff:p+89<=n:=J;obtain⟨b,off,rfl,a1⟩:=ep.gQ (by rw[length_map,ae.out];omega);have bk:=O a1;have bx:dL (some ⟨b,off,none⟩) c p=some ⟨b,off+p,none⟩:=by unfold dL;rw[if_neg J,Option.map_some,dn]
 unfold yD at ag;simp only[if_pos q,Int.toNat_natCast,bx]at ag;have dv:(89:Int).toNat=89:=F;rw[dv]at ag;have df:qI l (p:Int)=if(l.drop p).take 4≠[75,87,69,49]then 2 else if 32768<nH l p then 5 else 0:=by
  unfold qI;rw[if_neg J,if_neg (by rw[ae.out];omega),Int.toNat_natCast]
 rw[df,Int.toNat_natCast]at u;have dC:((l.drop p).take 4).length=4:=by rw[length_take,length_drop,ae.out];omega
 have bz:=O (fun w' (e:X w w')=>Ba w' (some ⟨b,off+p,none⟩) ((l.drop p).take 4) 4 (c - p) ((xW a1 p 4).ext e) dC.symm);have cb:(aY ((l.drop p).take 4)).toList=(l.drop p).take 4:=by unfold aY;rw[ByteArray.toList_mk]
 have ea:dL (some ⟨b,off+p,none⟩) (c - p) 0=some ⟨b,off+p,none⟩:=by unfold dL;rw[if_neg J,Option.map_some,dn,Nat.add_zero]
 have bl:=O ea;have ca:4<=c - p:=J;clear df q bx dv ea dC;by_cases a8:(l.drop p).take 4=[75,87,69,49]
 rotate_left
 ·rw[if_pos a8,if_pos aX]at u;have al:=O u.symm;have e1:((aY ((l.drop p).take 4)).toList==[75,87,69,49])=false:=by rw[cb];simpa using a8
  clear u a8 cb;go_enter func56,ntmps56;go_upto_region 1 with(fail);generalize ac:World.alloc w _=I;have an:ah I w.heap.size dS.v 34:=by rw[<-ac];exact ah.aI F F
  have am:X w I:=by rw[<-ac];exact(X.refl w).alloc _
  obtain⟨af,ab⟩:=aB an am;clear ac an am;have a7:=bz.out I ab;go_wp2_with fail;refine(ag I).mono ?_;rintro x ad ⟨R,rfl⟩;rw[<-R];clear R ad ag;go_wp2_with (refine bF F (DX (h:=4) F F F underlying32 gu ca bl _) ?_);refine(CX 2 I).mono ?_;rintro x bB ⟨rfl,aa⟩;obtain⟨av,aq⟩:=aB (af.ext aa) (ab.ext aa);clear aa af ab a7;go_wp2_with (refine bg F _ _ _ F F F av cZ dZ (xs:=dS.v) dZ (i_ dS) ?_);intro bE aw az;go_wp2_with fail;exact qJ F F aw cZ dZ F (a4 2 _ al (az.ext aq bG))
 rw[if_neg (show¬((l.drop p).take 4≠[75,87,69,49]) by simpa using a8)]at u;have e1:(aY ((l.drop p).take 4)).toList=[75,87,69,49]:=cb.trans a8;have eb:dL (some ⟨b,off+p,none⟩) (c - p) 85=some ⟨b,off+p+85,none⟩:=by unfold dL;rw[if_neg J,Option.map_some,dn]
 have bS:=O eb;have cy:89<=c - p:=J;have eg:((l.drop (p+85)).take 4).length=4:=by rw[length_take,length_drop,ae.out];omega
 have a3:=O (fun w' (e:X w w')=>DV ((l.drop (p+85)).take 4) (some ⟨b,off+p+85,none⟩) 4 (c - p - 85) w' eg J (by have h:=(xW a1 (p+85) 4).ext e;rw[<-Nat.add_assoc]at h;exact h));have ds:jM ((l.drop (p+85)).take 4)=nH l p:=Pj (by rw[ae.out];omega);have eR:nH l p<4294967296:=(iW l (p+85)).toNat_lt;rw[ds,DW J]at a3;obtain⟨N,dl⟩:=aC (nH l p);rw[dl]at u a3 eR;clear cb a8 eb eg ds dl;by_cases bo:32768<N
 ·rw[if_pos bo,if_pos aX]at u;have al:=O u.symm;have eK:decide (32768<N)=true:=aQ bo;have eL:decide ((32768:Int)<(N:Int))=true:=aQ J;clear u bo;go_enter func56,ntmps56;go_upto_region 1 with(fail);generalize ac:World.alloc w _=I;have an:ah I w.heap.size dS.v 34:=by rw[<-ac];exact ah.aI F F
  have am:X w I:=by rw[<-ac];exact(X.refl w).alloc _
  obtain⟨af,ab⟩:=aB an am;clear ac an am;have a7:=bz.out I ab;go_wp2_with fail;refine(ag I).mono ?_;rintro x ad ⟨R,rfl⟩;rw[<-R];clear R ad ag;go_wp2_with (first|(refine bF F (DX (h:=4) F F F underlying32 gu ca bl _) ?_)|(refine bF F (oV (k:=85) (h:=89) F F F F underlying32 gu J cy bS _) ?_));refine(a3 I ab).mono ?_;rintro x ad ⟨rfl,R⟩;rw[<-R];clear R ad a3;go_wp2_with fail;refine(CX 5 I).mono ?_;rintro x bB ⟨rfl,aa⟩;obtain⟨av,aq⟩:=aB (af.ext aa) (ab.ext aa);clear aa af ab a7;go_wp2_with (refine bg F _ _ _ F F F av cZ dZ (xs:=dS.v) dZ (i_ dS) ?_);intro bE aw az;go_wp2_with fail;exact qJ F F aw cZ dZ F (a4 5 _ al (az.ext aq bG))
 rw[if_neg bo,if_neg aX,ae.out]at u;have eK:decide (32768<N)=false:=aP bo;have eL:decide ((32768:Int)<(N:Int))=false:=aP J;obtain⟨K,dj⟩:=aC (89+N);obtain⟨M,fa⟩:=aC (121+N);have fh:IntKind.i64.wrap (89+(N:Int))=(K:Int):=by rw[IntWalk.i64_in _ J];omega
 have fi:IntKind.i64.wrap ((K:Int)+32)=(M:Int):=by rw[IntWalk.i64_in _ J];omega
 have a2:=O (fun w'=>TJ (some ⟨b,off,none⟩) n c p (M:Int) w' hn dE hc J J);by_cases ck:n<p+121+N
 ·rw[if_pos ck]at u;have al:=O u.symm;have e3:g_ n (p:Int) (M:Int)=1:=by unfold g_;rw[if_neg J,if_pos J]
  unfold yD at a2;simp only[e3]at a2;clear u ck;go_enter func56,ntmps56;go_upto_region 1 with(fail);generalize ac:World.alloc w _=I;have an:ah I w.heap.size dS.v 34:=by rw[<-ac];exact ah.aI F F
  have am:X w I:=by rw[<-ac];exact(X.refl w).alloc _
  obtain⟨af,ab⟩:=aB an am;clear ac an am;have a7:=bz.out I ab;go_wp2_with fail;refine(ag I).mono ?_;rintro x ad ⟨R,rfl⟩;rw[<-R];clear R ad ag;go_wp2_with (first|(refine bF F (DX (h:=4) F F F underlying32 gu ca bl _) ?_)|(refine bF F (oV (k:=85) (h:=89) F F F F underlying32 gu J cy bS _) ?_));refine(a3 I ab).mono ?_;rintro x ad ⟨rfl,R⟩;rw[<-R];clear R ad a3;go_wp2_with fail;refine(a2 I).mono ?_;rintro x ad ⟨R,rfl⟩;rw[<-R];clear R ad a2;go_wp2_with fail;refine(CX 1 I).mono ?_;rintro x bB ⟨rfl,aa⟩;obtain⟨av,aq⟩:=aB (af.ext aa) (ab.ext aa);clear aa af ab a7;go_wp2_with (refine bg F _ _ _ F F F av cZ dZ (xs:=dS.v) dZ (i_ dS) ?_);intro bE aw az;go_wp2_with fail;exact qJ F F aw cZ dZ F (a4 1 _ al (az.ext aq bG))
 rw[if_neg ck]at u;have a6:g_ n (p:Int) (M:Int)=0:=by unfold g_;rw[if_neg J,if_neg J]
 unfold yD at a2;have bx:dL (some ⟨b,off,none⟩) c p=some ⟨b,off+p,none⟩:=by unfold dL;rw[if_neg J,Option.map_some,dn]
 simp only[a6,if_true,Int.toNat_natCast,bx]at a2;have fc:((M:Nat):Int).toNat=M:=F;obtain⟨S,b9⟩:=aC (dY 3 ((l.drop p).take K));obtain⟨a5,b'⟩:=aC ((l.drop (p+K)).take 32);have d':Cm l p N=(S==a5):=by unfold Cm;rw[dj,Nat.add_assoc,dj,b9,b']
 rw[d']at u;have cw:S.length=32:=by rw[<-b9];exact j_ _ _
 have cv:a5.length=32:=by rw[<-b',length_take,length_drop,ae.out];omega
 have cE:=O (fun w' (e:X w w')=>uV 3 ((l.drop p).take K) K (c - p) (some ⟨b,off+p,none⟩) w' J J (by rw[length_take,length_drop,ae.out];omega) J ((xW a1 p K).ext e));rw[b9]at cE;obtain⟨dT,e7,c0⟩:=aW (fun w=>vY underlying31 S a5 cw cv w) (show(S.map Y).length=32 by rw[length_map,cw]) (show(a5.map Y).length=32 by rw[length_map,cv]);have c9:dP w ⟨b,off+p+K*1,none⟩ (a5.map Y):=by
  rw[<-b',Nat.mul_one,Nat.add_assoc];exact xU a1 (p+K) 32
 have cR:=O c9;have a_:∃ao,l[p+20]?.getD 0=ao:=⟨_,F⟩;obtain⟨ao,a_⟩:=a_;obtain⟨aD,b3⟩:=aC ((l.drop (p+21)).take 16);obtain⟨aE,b4⟩:=aC ((l.drop (p+37)).take 16);obtain⟨aL,b5⟩:=aC ((l.drop (p+53)).take 32);obtain⟨aM,b6⟩:=aC ((l.drop (p+89)).take N);have co:aD.length=16:=by rw[<-b3,length_take,length_drop,ae.out];clear u;omega
 have cp:aE.length=16:=by rw[<-b4,length_take,length_drop,ae.out];clear u;omega
 have cq:aL.length=32:=by rw[<-b5,length_take,length_drop,ae.out];clear u;omega
 have de:aM.length=N:=by rw[<-b6,length_take,length_drop,ae.out];clear u;omega
 obtain⟨a9,cz⟩:=aC (kK (fE l (p+4)):Int);obtain⟨bd,cF⟩:=aC (kK (fE l (p+12)):Int);have dx:wQ l p N=⟨a9,bd,(ao.toNat:Int),aD,aE,aL,aM⟩:=by
  unfold wQ;rw[cz,cF,a_,b3,b4,b5,b6]
 rw[dx]at u;have ee:((l.drop (p+4)).take 8).length=8:=by rw[length_take,length_drop,ae.out];clear u;omega
 have ef:((l.drop (p+12)).take 8).length=8:=by rw[length_take,length_drop,ae.out];clear u;omega
 obtain⟨cC,cB⟩:=aB (fun w' (e:X w w')=>DV ((l.drop (p+4)).take 8) (some ⟨b,off+p+4,none⟩) 8 (c - p - 4) w' ee J (by have h:=(xW a1 (p+4) 8).ext e;rw[<-Nat.add_assoc]at h;exact h)) (fun w' (e:X w w')=>DV ((l.drop (p+12)).take 8) (some ⟨b,off+p+12,none⟩) 8 (c - p - 12) w' ef J (by have h:=(xW a1 (p+12) 8).ext e;rw[<-Nat.add_assoc]at h;exact h));rw[JO (by rw[ae.out];clear u;omega),cz]at cC;rw[JO (by rw[ae.out];clear u;omega),cF]at cB;have c_:dP w ⟨b,off+p+21,none⟩ (aD.map Y):=by rw[<-b3,Nat.add_assoc];exact xU bk (p+21) 16
 have da:dP w ⟨b,off+p+37,none⟩ (aE.map Y):=by rw[<-b4,Nat.add_assoc];exact xU bk (p+37) 16
 have db:dP w ⟨b,off+p+53,none⟩ (aL.map Y):=by rw[<-b5,Nat.add_assoc];exact xU bk (p+53) 32
 have dc:aK w (some ⟨b,off+p+89,none⟩) (aM.map Y):=by rw[<-b6,Nat.add_assoc];exact xW bk (p+89) N
 have c8:w.cell? ⟨b,off+p+20*1,none⟩=some (.int .u8 (ao.toNat:Nat)):=by
  have h:=bk.out (p+20) (Y ao) (by rw[List.getElem?_map];have:l[p+20]? =some (l[p+20]'(by rw[ae.out];clear u;omega)):=List.getElem?_eq_getElem _;rw[this]at a_⊢;rw[<-a_];rfl);rw[<-Nat.add_assoc]at h;exact h
 have ap:=O u;clear u;have fg:IntKind.i64.wrap (ao.toNat:Int)=(ao.toNat:Int):=IntWalk.i64_in _ (by have:=ao.toNat_lt;omega);have d4:dL (some ⟨b,off+p,none⟩) (c - p) 21=some ⟨b,off+p+21,none⟩:=by unfold dL;rw[if_neg J,Option.map_some,dn]
 have d5:dL (some ⟨b,off+p,none⟩) (c - p) 37=some ⟨b,off+p+37,none⟩:=by unfold dL;rw[if_neg J,Option.map_some,dn]
 have d6:dL (some ⟨b,off+p,none⟩) (c - p) 53=some ⟨b,off+p+53,none⟩:=by unfold dL;rw[if_neg J,Option.map_some,dn]
 have d7:dL (some ⟨b,off+p,none⟩) (c - p) 89=some ⟨b,off+p+89,none⟩:=by unfold dL;rw[if_neg J,Option.map_some,dn]
 have d8:dL (some ⟨b,off+p,none⟩) (c - p) 4=some ⟨b,off+p+4,none⟩:=by unfold dL;rw[if_neg J,Option.map_some,dn]
 have d9:dL (some ⟨b,off+p,none⟩) (c - p) 12=some ⟨b,off+p+12,none⟩:=by unfold dL;rw[if_neg J,Option.map_some,dn]
 have ec:qX (some ⟨b,off+p,none⟩) (c - p) K 1=some ⟨b,off+p+K*1,none⟩:=by unfold qX;rw[if_neg J,Option.map_some,dn]
 obtain⟨eD,ex,ey,ez,eA,eB,eC,em⟩:=jg ec d4 d5 d6 d7 d8 d9 c_;obtain⟨en,eo,el⟩:=aW da db c8;have e':K - 89=N:=J;obtain⟨du,er,et,ev,bh,bi,bj⟩:=su (fun w' e=>DL aM (some ⟨b,off+p+89,none⟩) N (c - p - 89) w' de J (dc.ext e)) (show(aD.map Y).length=16 by rw[length_map,co]) (show(aE.map Y).length=16 by rw[length_map,cp]) (show(aL.map Y).length=32 by rw[length_map,cq]) co cp cq;have eS:12<=c - p:=J;have eT:20<=c - p:=J;have eV:37<=c - p:=J;have eW:53<=c - p:=J;have eZ:85<=c - p:=J;have dk:K<=c - p:=J;have fb:M - K=32:=J;have eO:89<=K:=J;have cH:IntKind.i64.wrap ((p:Int)+89)=((p+89:Nat):Int):=by rw[IntWalk.i64_in _ J];omega
 have cI:IntKind.i64.wrap (((p+89:Nat):Int)+(N:Int))=((p+K:Nat):Int):=by rw[IntWalk.i64_in _ J];omega
 have cJ:IntKind.i64.wrap (((p+K:Nat):Int)+32)=((p+M:Nat):Int):=by rw[IntWalk.i64_in _ J];omega
 have dy:((p+121+N:Nat):Int)=((p+M:Nat):Int):=J;rw[dy]at ap;obtain⟨dp,dq,dr⟩:=aW cH cI cJ;clear dy cH cI cJ d4 d5 d6 d7 d8 d9 ec c_ da db c8 dc co cp cq dx cz cF a_ b3 b4 b5 b6 b9 b' d' cw cv c9 ee ef a1 a6 bx;go_enter func56,ntmps56;go_upto_region 1 with(fail);generalize ac:World.alloc w _=I;have an:ah I w.heap.size dS.v 34:=by rw[<-ac];exact ah.aI F F
 have am:X w I:=by rw[<-ac];exact(X.refl w).alloc _
 obtain⟨af,ab⟩:=aB an am;clear ac an am;have a7:=bz.out I ab;go_wp2_with fail;refine(ag I).mono ?_;rintro x ad ⟨R,rfl⟩;rw[<-R];clear R ad ag;go_wp2_with (first|(refine bF F (DX (h:=4) F F F underlying32 gu ca bl _) ?_)|(refine bF F (oV (k:=85) (h:=89) F F F F underlying32 gu J cy bS _) ?_));refine(a3 I ab).mono ?_;rintro x ad ⟨rfl,R⟩;rw[<-R];clear R ad a3;go_wp2_with fail;refine(a2 I).mono ?_;rintro x ad ⟨R,rfl⟩;rw[<-R];clear R ad a2 a7 bz bl bS;go_upto_region 13 with(fail);obtain⟨C,ai,aJ,bP⟩:=iw (show bT w I [w.heap.size] [] I from bT.jA ab (dV.one af.lt));have d1:∀j,C j->j.cell? ⟨b,off+p+20*1,none⟩=some (.int .u8 (ao.toNat:Nat)):=fun j ax=>gW el ((ai j).1 ax).base;have bw:∀j,C j->dP j ⟨b,off+p+21,none⟩ (aD.map Y):=fun j ax=>em.ext ((ai j).1 ax).base;have d2:∀j,C j->dP j ⟨b,off+p+37,none⟩ (aE.map Y):=fun j ax=>en.ext ((ai j).1 ax).base;have d3:∀j,C j->dP j ⟨b,off+p+53,none⟩ (aL.map Y):=fun j ax=>eo.ext ((ai j).1 ax).base;refine fJ fun Z=> ?_;refine aA 0 ?_;refine bD 1 F (bf F (fun j _=>oV (k:=4) (h:=12) F F F F underlying32 gu J eS eB j)) ?_;refine aA 3 ?_;refine bD 4 F (bf F (fun j _=>oV (k:=12) (h:=20) F F F F underlying32 gu J eT eC j)) ?_;refine aA 6 ?_;refine bD 7 F (bf F (fun j _=>fP (i:=20) F F F underlying32 gu aX j)) ?_;refine bD 8 F (bf F (fun j h=>kT F F (d1 j h) FI)) ?_;refine aA 9 ?_;refine aA 10 ?_;refine bD 11 F (bf F (fun j _=>oV (k:=21) (h:=37) F F F F underlying32 gu J eV ex j)) ?_;refine bD 12 F (bf F (fun j _=>rC (n:=16) F F underlying29 J j)) ?_;refine bD 13 F (bf F (fun j h=>bQ F F (bw j h) dh er)) ?_
 refine aA 14 ?_;refine bD 15 F (bf F (fun j _=>oV (k:=37) (h:=53) F F F F underlying32 gu J eW ey j)) ?_;refine bD 16 F (bf F (fun j _=>rC (n:=16) F F underlying29 J j)) ?_;refine bD 17 F (bf F (fun j h=>bQ F F (d2 j h) dh et)) ?_;refine aA 18 ?_;refine bD 19 F (bf F (fun j _=>oV (k:=53) (h:=85) F F F F underlying32 gu J eZ ez j)) ?_;refine bD 20 F (bf F (fun j _=>rC (n:=32) F F underlying31 J j)) ?_;refine bD 21 F (bf F (fun j h=>bQ F F (d3 j h) qA ev)) ?_;refine zo (B:=World.heap I |>.size) (A:=23) (d:=12) (T:=34) (vs:=dS.v) (D:=C) undef F aJ (fun _ h=>h) (fun _ h=>((ai _).1 h).kept.1) Z ?_;try dsimp only
 refine cO ?_;refine lZ 2 (β:=Unit) (fun _=> .int .i64 a9) (fun _ _=>True) F F F F (fun _ _=>rfl) au au au F (fun _ _=>jw) ?phi2 ?step2 ?rest2
 case phi2=>exact fun _ _ _ _ _=>trivial
 case step2=>
  intro x j cr bm a0;have cm:=((ai j).1 cr).base;clear Z;go_wp2_with fail;refine(cC j cm).mono ?_;rintro e w2 ⟨rfl,rfl⟩;go_wp2_with fail;exact a0 () _ (X.refl _) trivial
 case rest2=>
 intro _;refine aH ?_;refine lZ 5 (β:=Unit) (fun _=> .int .i64 bd) (fun _ _=>True) F F F F (fun _ _=>rfl) au au au F (fun _ _=>jw) ?phi5 ?step5 ?rest5
 case phi5=>exact fun _ _ _ _ _=>trivial
 case step5=>
  rintro x j ⟨cr,_⟩ bm a0;have cm:=((ai j).1 cr).base;clear Z;go_wp2_with fail;refine(cB j cm).mono ?_;rintro e w2 ⟨rfl,rfl⟩;go_wp2_with fail;exact a0 () _ (X.refl _) trivial
 case rest5=>
 intro _;refine aH ?_;refine AY 22 F (fun _=>bf F (fun j _=>YD F F F F F F F bh bi bj j)) ?_;refine wY F F F (fun _ _=>rfl) au (fun _ _=>jw) ?_;rintro cl e5 ⟨⟨dg,_⟩,_⟩ eh hb;obtain⟨cT,cU⟩:=aB hb ((ai e5).1 dg);clear hb dg d1 bw d2 d3 cC cB;obtain⟨ar,b8⟩:=jE (⟨a9,bd,(ao.toNat:Int),aD,aE,aL,none,0,0,[]⟩:aG);rw[<-b8];obtain⟨cX,ew⟩:=aB b8 (show ar.v.length=68 by rw[b8];unfold aG.v;simp[bh.out,bi.out,bj.out]);clear b8;refine aZ 24 ?_;intro bm a0;go_wp2_with (refine bg F _ _ _ F F F cT cZ dZ (xs:=ar.v) ew (i_ ar) ?_);intro cL c6 ei;have b7:=bT.upd cU ei eh ab.size;refine a0 _ _ ((ai cL).2 b7) ?_;obtain⟨cN,cj⟩:=aB c6 (b7.blk af aF);have ce:=O b7.base;have fd:w.heap.size<cl:=Nat.lt_of_lt_of_le af.lt eh;clear a0 bm ei c6 b7 cU cT ab af Z ai aJ bP;refine dH ?_;unfold vS;go_wp2_with (refine bF F (oV (k:=89) (h:=K) F F F F underlying32 gu eO dk eA _) ?_);refine(du cL ce).mono ?_;rintro x ek ⟨v,rfl,own, -,b2⟩;obtain⟨ba,bc,rfl, -, -, -, -⟩:=nT own;obtain⟨c1,c4,be,cS⟩:=bU (mg own (show w.heap.size+1<=cL.heap.size from cj.lt)) (cj.ext b2) (cN.ext b2) (ce.ext b2);clear own b2 cj cN ce du;have a6:ar.bI=aD/\ar.key=aE/\ar.prev=aL:=by rw[cX.out];exact⟨F,F,F⟩
 have cx:ar.bI.length=16:=by rw[a6.1];exact bh
 have cA:ar.key.length=16:=by rw[a6.2.1];exact bi
 have cD:ar.prev.length=32:=by rw[a6.2.2];exact bj
 have e4:=be.cell' (aG.abB cx cA cD);have eM:=be.frozen 67;have ch:=O (And.intro cx (And.intro cA cD));clear a6 cx cA cD;go_upto_region 15 with(fail);generalize cG:World.setCell ek _ _=bA;obtain⟨aR,cs⟩:=jE ({ar with ba:=ba,bn:=N,bc:=bc,body:=aM}:aG);have c7:ah bA cl aR.v 34:=by rw[<-cG,cs,<-aG.abC ar ba N bc aM ch.1 ch.2.1 ch.2.2];exact be.set 67 _
 have cd:aU ek cl bA:=by rw[<-cG];exact aU.setCell _
 have bu:aR=⟨a9,bd,(ao.toNat:Int),aD,aE,aL,ba,N,bc,aM⟩:=by rw[cs,cX.out]
 obtain⟨cW,cP,bR,c5,bN,c2⟩:=iq bu c7 (aG.len' (e:=aR) (by rw[bu];exact bh) (by rw[bu];exact bi) (by rw[bu];exact bj)) (c4.upd cd J) (cd.ext cS J) (IG c1 cd be aX);clear cG e4 eM cs bu c7 cd be c4 cS c1;obtain⟨C,ai,aJ,bP⟩:=iw (show bT bA bA [] [] bA from bT.jA (X.refl _) (dV.none _));have bw:∀j,C j->dP j ⟨b,off+p+K*1,none⟩ (a5.map Y):=fun j ax=>cR.ext (bN.ext ((ai j).1 ax).base);refine fJ fun Z=> ?_;refine aA 0 ?_;refine aA 1 ?_;refine aA 2 ?_;refine bD 3 F (bf F (fun j _=>zB (k:=K) F F F underlying32 gu dk j)) ?_;refine aA 5 ?_;refine aA 6 ?_;refine aA 7 ?_;refine bD 8 F (bf F (fun j _=>Mc (k:=K) eD F F F underlying32 gu J j)) ?_;refine bD 9 F (bf F (fun j _=>rC (n:=32) F F underlying31 J j)) ?_;refine bD 10 F (bf F (fun j h=>bQ F F (bw j h) qA c0)) ?_;refine aZ 4 ?_;intro bm a0;go_wp2_with fail;refine((cE _ (bN.ext ((ai _).1 Z).base))).mono ?_;rintro e cM ⟨rfl,dd⟩;replace Z:=aJ _ _ Z dd;go_wp2_with fail;refine a0 _ _ Z ?_;clear a0 bm dd;refine aH ?_;refine bD 11 F (bf F (fun j _=>jm F F F EI dT j)) ?_;have bp:=((ai cM).1 Z).base;obtain⟨b0,bL,bO,bX⟩:=bU (c5.ext bp) (cP.ext bp) (bN.ext bp) (dQ c2 bp);clear Z ai aJ bP bw bp cR c0 dT cE c5 cP bN c2;refine dH ?_;cases cK:(S==a5)with
 |false=>
  have al:=O (show eE=(u_,0,13) by have h:=ap.out;rw[cK,if_pos F]at h;exact h.symm);clear ap;go_wp2_with fail;refine(CX 13 cM).mono ?_;rintro x bB ⟨rfl,aa⟩;obtain⟨av,aq⟩:=aB (b0.ext aa) (bO.ext aa);clear aa b0 bO bL bX;go_wp2_with (refine bg F _ _ _ F F F av cZ dZ (xs:=dS.v) dZ (i_ dS) ?_);intro bE aw az;go_wp2_with fail;exact qJ F F aw cZ dZ F (a4 13 _ al (az.ext aq bG))
 |true=>
 have u:=ap.out;rw[cK,if_neg aX]at u;replace u:=TI u;clear ap cK;have ap:=O u;clear u;have d0:∀w',w'.ownsRow (w.heap.size+1) 5 1 (.slice ba N bc) N (aM.map Y)->aR.Ld w' w.heap.size:=by
  intro w' h;obtain⟨a',c',e0,ax,e_,eN,cn⟩:=nT h;cases e0;have eQ:N<=140737488355328:=by clear cn ap;omega
  rw[cW.out];refine⟨⟨bh,bi,bj,de,ax,eQ,fun h=> ?_,cn⟩,SA h cn J⟩;have:=eN h;exact⟨by simp only;omega,this⟩
 have cV:=O d0;have ct:aR.p=⟨a9,bd,(ao.toNat:Int),aD,aE,aL,aM⟩:=by rw[cW.out];rfl
 have bv:=O (fun w' h=>Ei aR w' h);rw[xH,ct]at bv;have cY:=O ct;obtain⟨eI,dm⟩:=aC ((⟨a9,bd,(ao.toNat:Int),aD,aE,aL,aM⟩:dW):dW);rw[dm]at ap bv cY;obtain⟨cg,br⟩:=aC (jX eI);rw[br]at ap bv;clear d0 ct dm br;go_wp2_with (refine bV F 34 (.tmp 12) F F bL cZ bR ?_);refine(bv cM (cV _ bX).1).mono ?_;rintro x e6 ⟨rfl,bq⟩;obtain⟨b1,cQ,cf,c3⟩:=bU (b0.ext bq) (bL.ext bq) (bO.ext bq) (dQ bX bq);clear bq b0 bL bO bX bv;rcases ap.out with⟨cc,bt⟩|⟨cc,bt⟩
 ·subst cc;have al:=O bt;have cH:=dp.out;have cI:=dq.out;have cJ:=dr.out;clear ap bt dp dq dr;go_wp2_with (first|(refine bV F 34 (.tmp 12) F F cQ cZ bR ?_)|(refine bg F _ _ _ F F F b1 cZ dZ (xs:=aR.v) bR (i_ aR) ?_));intro fj eJ ej;go_wp2_with fail;refine qJ F F eJ cZ bR F ⟨aR,?_,cV _ (IG c3 ej b1 aX),?_,ej.ext cf bG⟩
  ·rw[ci.out,al.out,show((p+M:Nat):Int)=(p:Int)+89+(N:Int)+32 by clear ci;omega];rfl
  ·rw[ci.out,al.out,cY.out]
 ·have al:=O bt;have e9:(cg != 0)=true:=by simpa using cc
  clear ap bt cc;go_wp2_with fail;refine(CX cg e6).mono ?_;rintro x bB ⟨rfl,aa⟩;obtain⟨av,aq⟩:=aB (b1.ext aa) (cf.ext aa);clear aa b1 cf cQ c3;go_wp2_with (refine bg F _ _ _ F F F av cZ dZ (xs:=dS.v) dZ (i_ dS) ?_);intro bE aw az;go_wp2_with fail;exact qJ F F aw cZ dZ F (a4 cg _ al (az.ext aq bG))
section
open Go Go.RowKit
section
variable {P:Program} {ops:Array Oper} {Q:Exit->Act->World->Prop} {T S:World->Prop} {W:List Nat}
def lX(P:Program)(ops:Array Oper)(Q:Exit->Act->World->Prop)(T S:World->Prop)(W:List Nat):Nat->Array Bool->Act->World->Prop
 |0,listed,a,w=>Region.ready .any ops listed=[]/\Q .normal a w
 |f+1,listed,a,w=>(Region.ready .any ops listed=[]->Q .normal a w)/\
  ∀i∈Region.ready .any ops listed,wpOp P ops Q i (fun a' w'=>(T w'/\(W.contains i=false->S w->S w'))/\lX P ops Q T S W f (listed.setIfInBounds i true) a' w') a w
theorem TK:∀(f:Nat) (j:Array Bool) (a:Act) (w:World),lX P ops Q T S W f j a w->wpAny P .any ops Q f j a w
 |0,_,_,_,h=>h
 |f+1,_,_,_,h=>⟨h.1,fun i E=>wpOp_mono (fun a' w' u=>TK f _ a' w' u.2) (h.2 i E)⟩
theorem Md{I:World->Prop}{i:Nat}{ab:Oper}{v:Value}(am:ops[i]? =some ab)(ax:∀(j:Nat) (o:Oper) cs b,ops[j]? =some o->o.op≠.select cs b)
 (aE:∀u j w w',y8 ops u->(u.getD i false=true->False)->j∈Region.ready .any ops u->(T w'/\(W.contains j=false->S w->S w'))->I w->I w')
 (aL:∀c a w,Q (.panic c) (a.put ab.dst v) w->Q (.panic c) a w):
 ∀(f:Nat) (u:Array Bool) (a:Act) (w:World),y8 ops u->
  (∀j ac,ops[j]? =some ac->j≠i->u.getD j true=false->(∀e∈ac.after,Region.binds .any e=true->e.on≠i)->ab.apart ops ac=true)->
  i∈Region.ready .any ops u->YieldsIf P ops I ab v a->I w->T w->
  lX P ops Q T S W f (u.setIfInBounds i true) (a.put ab.dst v) w->lX P ops Q T S W (f+1) u a w:=by
 intro f;induction f with
 |zero=>
  intro u a w _ _ aa ai ag al H;refine⟨fun h=>(by rw[h]at aa;cases aa),fun j ad=> ?_⟩;by_cases E:j=i
  ·subst E;exact ai.wpOp am ag ⟨⟨al,fun _ h=>h⟩,H⟩
  ·have:=ready_mono ad E;rw[H.1]at this;cases this
 |succ f a5=>
  intro u a w ao ap aa ai ag al H;refine⟨fun h=>(by rw[h]at aa;cases aa),fun j ad=> ?_⟩;by_cases E:j=i
  ·subst E;exact ai.wpOp am ag ⟨⟨al,fun _ h=>h⟩,H⟩
  ·have af:=H.2 j (ready_mono ad E);obtain⟨av,ac,an,aM⟩:=mem_ready.1 ad;have R:=(mem_ready.1 aa).1;have aq:u.getD i false=true->False:=fun h=>by
    simp only[Array.getD_eq_getD_getElem?]at h R;cases aw:u[i]? with
    |none=>rw[aw]at R;simp at R
    |some b=>rw[aw]at h R;simp at h R;rw[h]at R;cases R
   have a4:∀e∈ac.after,Region.binds .any e=true->e.on≠i:=fun e aR hb a0=>by
    have af:=aM e aR hb;rw[a0]at af;exact aq af
   have aD:=wpOp_putIf an (ap j ac an E av a4) (fun cs b=>ax i ab cs b am) (fun cs b=>ax j ac cs b an) aL ai af;have a1:∀k ok,ops[k]? =some ok->k≠i->(u.setIfInBounds j true).getD k true=false->
    (∀e∈ok.after,Region.binds .any e=true->e.on≠i)->ab.apart ops ok=true:=fun k ok hk a2 az a3=>by
    refine ap k ok hk a2 ?_ a3;by_cases ar:j=k
    ·subst ar;exact av
    ·rw[getD_set_ne true ar]at az;exact az
   refine wpOp_mono (fun a' w' ae=>⟨ae.2.1,a5 (u.setIfInBounds j true) a' w' (ao.set ad) a1 (ready_mono aa (Ne.symm E)) ae.1 (aE u j w w' ao aq ad ae.2.1 ag) ae.2.1.1 ?_⟩) aD;rw[Array.setIfInBounds_comm _ _ E];exact ae.2.2
theorem abE(i:Nat){u:Oper}{r:List Oper}{v:Value}{f:Nat}{j:Array Bool}{a:Act}{w:World}(E:ops.toList.drop i=u::r)
 (hs:Region.noSelect ops=true)(aa:uT ops j=true)(hf:Region.free .any ops j i=true)(ab:(Region.ready .any ops j).contains i=true)
 (I:∀c a w,Q (.panic c) (a.put u.dst v) w->Q (.panic c) a w)(ac:YieldsIf P ops (fun _=>True) u v a)(R:T w)
 (h:lX P ops Q T S W f (j.setIfInBounds i true) (a.put u.dst v) w):lX P ops Q T S W (f+1) j a w:=
 Md (jy E) (Region.noSelect_spec hs) (fun _ _ _ _ _ _ _ _ _=>trivial) I f j a w (FV aa) (Region.free_spec (jy E) hf) (by simpa using ab) ac trivial R h
theorem TL(i:Nat){u:Oper}{r:List Oper}{v:Value}{f:Nat}{j:Array Bool}{a:Act}{w:World}(I:ops.toList.drop i=u::r)
 (hs:Region.noSelect ops=true)(aa:uT ops j=true)(hf:Region.free .any ops j i=true)(ab:(Region.ready .any ops j).contains i=true)
 (R:∀c a w,Q (.panic c) (a.put u.dst v) w->Q (.panic c) a w)(ac:YieldsIf P ops T u v a)(E:T w)
 (h:lX P ops Q T S W f (j.setIfInBounds i true) (a.put u.dst v) w):lX P ops Q T S W (f+1) j a w:=
 Md (jy I) (Region.noSelect_spec hs) (fun _ _ _ _ _ _ _ h _=>h.1) R f j a w (FV aa) (Region.free_spec (jy I) hf) (by simpa using ab) ac E E h
theorem abG(i:Nat){E:Oper}{r:List Oper}{v:Value}{f:Nat}{u:Array Bool}{a:Act}{w:World}(I:ops.toList.drop i=E::r)
 (hs:Region.noSelect ops=true)(ad:(W.all fun j=>xq ops 12 j i)=true)(ae:uT ops u=true)(hf:Region.free .any ops u i=true)(af:(Region.ready .any ops u).contains i=true)
 (R:∀c a w,Q (.panic c) (a.put E.dst v) w->Q (.panic c) a w)(ai:YieldsIf P ops S E v a)(aa:S w)(ac:T w)
 (h:lX P ops Q T S W f (u.setIfInBounds i true) (a.put E.dst v) w):lX P ops Q T S W (f+1) u a w:=
 Md (jy I) (Region.noSelect_spec hs) (fun u j w w' hd ag hj h ab=>h.2 (by
  cases hq:W.contains j with
  |false=>rfl
  |true=>exact absurd (Jw hd 12 j i (OB hj) (all_eq_true.1 ad j (by simpa using hq))) ag) ab) R f u a w (FV ae) (Region.free_spec (jy I) hf) (by simpa using af) ai aa ac h
theorem II{i:Nat}{o:Oper}{r:List Oper}{f:Nat}{u:Array Bool}{a:Act}{w:World}(aa:Region.ready .any ops u=[i])(ae:ops.toList.drop i=o::r)
 (h:∀E:Exit->Act->World->Prop,(∀a w',T w'->(W.contains i=false->S w->S w')->lX P ops Q T S W f (u.setIfInBounds i true) a w'->E .normal a w')->wpList P ops E [o] a w):
 lX P ops Q T S W (f+1) u a w:=by
 refine⟨fun I=>(by rw[aa]at I;cases I),fun j R=> ?_⟩;rw[aa]at R;obtain rfl:j=i:=by simpa using R
 exact mZ (jy ae) (h _ fun a w' ac ab ad=>⟨⟨ac,ab⟩,ad⟩)
theorem abH{j:Array Bool}{a:Act}{w:World}(hr:Region.ready .any ops j=[])(h:Q .normal a w):∀f,lX P ops Q T S W f j a w
 |0=>⟨hr,h⟩
 |_+1=>⟨fun _=>h,by rw[hr];simp⟩
theorem abI{id:Nat}{a:Act}{w:World}(j:P.follows .mixedOrders=true)
 (h:lX P ops Q T S W ops.size (Array.replicate ops.size false) a w.drew):(Code.region id ops true).wp P Q a w:=
 wp_region_any j (TK _ _ _ _ h)
end
section
variable {P:Program} {ops:Array Oper} {Q:Exit->Act->World->Prop} {T S:World->Prop} {W:List Nat}
theorem rW(i:Nat){u:Oper}{r:List Oper}{f:Nat}{j:Array Bool}{a:Act}{w:World}{E:Prop}{v:Value}(h:E)(ac:ops.toList.drop i=u::r:=by exact F)(hs:Region.noSelect ops=true:=by kernel_rfl)(aa:uT ops j=true:=by kernel_rfl)(ab:Region.free .any ops j i=true:=by kernel_rfl)(ad:(Region.ready .any ops j).contains i=true:=by kernel_rfl)(ae:Region.wanted u (yielded ops a.tmps)=true:=by exact F)(af:∀w,(fun _=>True) w->(execOp a.eval u).run P w= .ok (.value v) w:=by(intro _ _;go_simp;try with_reducible rfl))(hx:E->lX P ops Q T S W f (j.setIfInBounds i true) (a.put u.dst v) w:=by(intro hx;simp only[Act.put,setIfInBounds_toArray,set_cons_succ,set_cons_zero];exact hx))(R:T w:=by exact qU)(I:∀c a w,Q (.panic c) (a.put u.dst v) w->Q (.panic c) a w:=by exact fun _ _ _ h=>h):lX P ops Q T S W (f+1) j a w:=
 abE i ac hs aa ab ad I (.inl ⟨ae,af⟩) R (hx h)
theorem abJ(i:Nat){u:Oper}{r:List Oper}{f:Nat}{j:Array Bool}{a:Act}{w:World}{I:Prop}{v:Value}{E:Prop}(hf:E)(h:I)(ad:ops.toList.drop i=u::r:=by exact F)(hs:Region.noSelect ops=true:=by kernel_rfl)(ab:uT ops j=true:=by kernel_rfl)(ac:Region.free .any ops j i=true:=by kernel_rfl)(ae:(Region.ready .any ops j).contains i=true:=by kernel_rfl)(af:Region.wanted u (yielded ops a.tmps)=true:=by exact F)(ag:E->∀w,T w->(execOp a.eval u).run P w= .ok (.value v) w:=by(intro hf wq eU;have oz:=hf wq eU;go_simp;try with_reducible rfl))(hx:I->lX P ops Q T S W f (j.setIfInBounds i true) (a.put u.dst v) w:=by(intro hx;simp only[Act.put,setIfInBounds_toArray,set_cons_succ,set_cons_zero];exact hx))(aa:T w:=by exact qU)(R:∀c a w,Q (.panic c) (a.put u.dst v) w->Q (.panic c) a w:=by exact fun _ _ _ h=>h):lX P ops Q T S W (f+1) j a w:=
 TL i ad hs ab ac ae R (.inl ⟨af,ag hf⟩) aa (hx h)
theorem abK(i:Nat){u:Oper}{r:List Oper}{f:Nat}{j:Array Bool}{a:Act}{w:World}{E:Prop}{v:Value}(ac:ops.toList.drop i=u::r)(ae:YieldsIf P ops T u v a)(h:E)(hs:Region.noSelect ops=true:=by kernel_rfl)(aa:uT ops j=true:=by kernel_rfl)(ab:Region.free .any ops j i=true:=by kernel_rfl)(ad:(Region.ready .any ops j).contains i=true:=by kernel_rfl)(hx:E->lX P ops Q T S W f (j.setIfInBounds i true) (a.put u.dst v) w:=by(intro hx;simp only[Act.put,setIfInBounds_toArray,set_cons_succ,set_cons_zero];exact hx))(R:T w:=by exact qU)(I:∀c a w,Q (.panic c) (a.put u.dst v) w->Q (.panic c) a w:=by exact fun _ _ _ h=>h):lX P ops Q T S W (f+1) j a w:=
 TL i ac hs aa ab ad I ae R (hx h)
theorem abL(i:Nat){E:Oper}{r:List Oper}{f:Nat}{u:Array Bool}{a:Act}{w:World}{R:Prop}{v:Value}{I:Prop}(hf:I)(h:R)(ag:ops.toList.drop i=E::r:=by exact F)(hs:Region.noSelect ops=true:=by kernel_rfl)(ad:(W.all fun j=>xq ops 12 j i)=true:=by kernel_rfl)(ae:uT ops u=true:=by kernel_rfl)(af:Region.free .any ops u i=true:=by kernel_rfl)(ai:(Region.ready .any ops u).contains i=true:=by kernel_rfl)(al:Region.wanted E (yielded ops a.tmps)=true:=by exact F)(am:I->∀w,S w->(execOp a.eval E).run P w= .ok (.value v) w:=by(intro hf wq eU;have oz:=hf wq eU;go_simp;try with_reducible rfl))(hx:R->lX P ops Q T S W f (u.setIfInBounds i true) (a.put E.dst v) w:=by(intro hx;simp only[Act.put,setIfInBounds_toArray,set_cons_succ,set_cons_zero];exact hx))(ab:S w:=by exact Z)(ac:T w:=by exact qU)(aa:∀c a w,Q (.panic c) (a.put E.dst v) w->Q (.panic c) a w:=by exact fun _ _ _ h=>h):lX P ops Q T S W (f+1) u a w:=
 abG i ag hs ad ae af ai aa (.inl ⟨al,am hf⟩) ab ac (hx h)
end
end
def yV(n:Nat):Code->Option (Array Oper)
 | .region id ops _=>if id=n then some ops else none
 | .seq a b=>match yV n a with
  |some c=>some c
  |none=>yV n b
 | .cond _ a b=>match yV n a with
  |some c=>some c
  |none=>yV n b
 | .loop c=>yV n c
 | .block _ c=>yV n c
 | .scope c=>yV n c
 |_=>none
def xZ(f:Func)(n:Nat):Array Oper:=((f.body.bind (yV n)).getD #[])
section
open Go Go.RowKit
theorem TM{w:World}{B g n:Nat}{a:aN}{xs:aO}(h:bJ w B a xs)(u:xs.length=0->n=0)(E:g<B):iC g a n:=by
 rcases h with h|⟨b,off,ha,hb,_⟩
 ·exact .inl (u (by rw[h];rfl))
 ·refine .inr fun A j=> ?_;rw[ha]at j;injection j with j;rw[<-j];show b≠g;omega
theorem Me{w w':World}{B:Nat}{r:Option Nat}{a:aN}{xs:aj}(h:bJ w B a (xs.map Y))(j:∀g,r=some g->iC g a xs.length)(k:w.grownBy w' r):bJ w' B a (xs.map Y):=
 h.row (z:=1) (by rw[length_map,Nat.one_mul]) j k
structure mW(w:World)(B:Nat)(v:Value)(rs:List aG):Prop where
 own:w.ownsRow B 34 68 v rs.length (iM rs)
 ok:∀e∈rs,e.Ok w
 eo:∀e∈rs,∀g,v.ownBlock=some g->iC g e.ba e.bn
section
variable {w w':World} {B:Nat} {v v':Value} {rs:List aG}
theorem mW.nil(w:World)(B:Nat):mW w B (.slice none 0 0) []:=⟨⟨F,.inl ⟨F,F⟩⟩,aF,aF⟩
theorem mW.ext(h:mW w B v rs)(e:X w w'):mW w' B v rs:=⟨dQ h.own e,fun x j=>(h.ok x j).ext e,h.eo⟩
theorem mW.upd(h:mW w B v rs){g:Nat}{vs:aO}{T:TypeId}(u:aU w g w')(hb:ah w g vs T)(I:34≠T)(R:∀e∈rs,iC g e.ba e.bn):mW w' B v rs:=
 ⟨n_ h.own u hb I,fun x E=>(h.ok x E).row (r:=some g) (fun q j=>by injection j with j;exact j▸R x E) (qC u),h.eo⟩
theorem mW.append(h:mW w B v rs){e:aG}(ab:e.Ok w)(ac:∀g,v.ownBlock=some g->iC g e.ba e.bn)(ad:w'.ownsRow B 34 68 v' (rs.length+1) (iM rs++e.v))(aa:w.grownBy w' v.ownBlock)
 (hb:v'.ownBlock=v.ownBlock∨v'.ownBlock=some w.heap.size):mW w' B v' (rs++[e]):=by
 have u:∀x∈rs++[e],x.Ok w/\∀g,v.ownBlock=some g->iC g x.ba x.bn:=fun x j=>by
  rcases mem_append.1 j with j|j
  ·exact⟨h.ok x j,h.eo x j⟩
  ·rw[mem_singleton.1 j];exact⟨ab,ac⟩
 refine⟨?_,fun x j=>(u x j).1.row (u x j).2 aa,fun x j g E=> ?_⟩
 ·rw[length_append,length_singleton,GV];have:iM [e]=e.v:=by unfold iM;simp
  rw[this];exact ad
 ·rcases hb with I|I
  ·exact(u x j).2 g (I▸E)
  ·rw[I]at E;injection E with E;exact yU (u x j).1.hcl (fun R=>by rw[length_map,(u x j).1.hb]at R;exact R) J
theorem mW.lower(h:mW w B v rs){B':Nat}(hb:B'<=B):mW w B' v rs:=⟨mg h.own hb,h.ok,h.eo⟩
theorem mW.abM(h:mW w B v rs):∃a c,v= .slice a rs.length c/\sK w a rs.length c rs:=by
 obtain⟨a,c,E,u,j,hc⟩:=iJ h.own;exact⟨a,c,E,F,u,j,h.ok,hc⟩
end
noncomputable def abN(n:Nat):Array Oper:=xZ f11 n
theorem abO(l:aj)(a:aN)(n c:Nat)(w:World)(b1:l.length=n)(cY:n<=c)(hn:n<=1000000000)(hc:c<=9223372036854775807)(b0:aK w a (l.map Y)):
 Calls prog 11 #[.slice a n c] w fun x w'=>∃v rs,x= .returned (.tuple #[v,.int .i64 (nI l).2])/\mW w' w.heap.size v rs/\rs.map aG.p=(nI l).1/\(∀e∈rs,bJ w' w.heap.size e.ba (e.body.map Y))/\X w w':=by
 obtain⟨c5,bu⟩:=aB b0 b1;obtain⟨c8,bR⟩:=jE (fun x w'=>∃v rs,x= .returned (.tuple #[v,.int .i64 (nI l).2])/\mW w' w.heap.size v rs/\rs.map aG.p=(nI l).1/\(∀e∈rs,bJ w' w.heap.size e.ba (e.body.map Y))/\X w w':Ending->World->Prop);rw[<-bR];obtain⟨a7,cQ⟩:=aB bR (fun(p:Nat) ae (a_:X w ae)=>abD l a n c (p:Int) ae b1 cY J hc (b0.ext a_));clear b1 b0 bR;go_enter func11,ntmps11;go_upto_region 3 with fail;generalize b4:World.alloc w _=cH;have co:ah cH w.heap.size (kN.map Y) 31:=by rw[<-b4];exact ah.aI F F
 have ad:X w cH:=by rw[<-b4];exact(X.refl w).alloc _
 obtain⟨B0,b6⟩:=aB co ad;clear b4 co ad;obtain⟨g5,be⟩:=aC w.heap.size;have R:=O be;rw[be]at B0
 conv=>rw[be]
 clear be;go_wp2_with fail;go_loopw [4,6] (fun v i wr=>∃(p:Nat) (rs:List aG),i= .int .i64 (p:Int)/\lW l p (rs.map aG.p)/\mW wr (g5+1) v rs/\(∀e∈rs,bJ wr (g5+1) e.ba (e.body.map Y))/\ah wr g5 ((lq (rs.map aG.p)).map Y) 31/\X w wr) (fun _ i _=>n - (intOf i).toNat)
 case atStart=>exact⟨0,[],F,lW.start l,mW.nil _ _,aF,B0,b6⟩
 case round=>
  obtain⟨p,rs,rfl,cy,b3,cx,ct,a_⟩:=hrel;obtain⟨aM,a8,br,bq,a1⟩:=dM cy b3 cx ct a_;obtain⟨cE,cF,rfl,c2,c0,c1⟩:=iJ b3.own;clear cy b3 cx ct a_ c2 c0 c1 B0 b6;by_cases bi:p<n
  ·have a4:=O (show p<l.length by rw[bu.out];exact bi);have cW:decide ((p:Int)<(n:Int))=true:=aQ J;have cX:decide (p<n)=true:=aQ bi;go_wp2_with fail;refine(cQ p wr a1).mono ?_;rintro de w2 ⟨e,rfl,av,cw,e2⟩;have an:=O cw;have ck:=O av.1;have cj:=O av.2;have aL:=O (aG.len av.1);obtain⟨E,bO⟩:=aC ((fQ l p).2.2);obtain⟨Q,j⟩:=aC ((fQ l p).2.1);rw[bO,j];obtain⟨aE,cS⟩:=aB bO j;have cd:=O bq.lt;obtain⟨ci,ce,bw,B2,cn,b',b7⟩:=su (show∀g,g<wr.heap.size->iC g e.ba e.bn from fun g u=>TM av.2 (fun ad=>by rw[length_map,av.1.hb]at ad;exact ad) u) (show wr.heap.size<=w2.heap.size from e2.size) (show∀g,(Value.slice cE rs.length cF).ownBlock=some g->g<wr.heap.size from fun g u=>(a8.own.lt g u).2) (bq.ext e2) (a8.ext e2) (fun x hx=>(br x hx).ext e2) (a1.ext e2);clear cw av bO j e2 a1 bq a8 br;go_upto_region 6 with(refine bg F _ (.tmp 7) _ F F F (ah.aI (vs:=dS.v) F F) cZ (aG.len (EJ w)) aL (i_ e) ?_);intro ax cp cG;have ai:X w2 ax:=cG.ext ((X.refl _).alloc _) bG;obtain⟨af,a0,a9,a3,a2,ao,cU⟩:=su cp (B2.ext ai) (cn.ext ai) (fun x hx=>(b' x hx).ext ai) (b7.ext ai) (ck.ext ai) (cj.ext ai);clear cp cG ai B2 cn b' b7 ck cj;generalize w2.heap.size=cr at*;by_cases bc:E=0
   ·subst bc;have bj:(rs.map aG.p).length=rs.length:=length_map _;by_cases am:e.num=(rs.length:Int)
    ·have a5:=O (show(fQ l p).1.num=((rs.map aG.p).length:Int) by rw[<-an.out,bj];exact am);obtain⟨aw,bh⟩:=aC (lq (rs.map aG.p));have b2:aw.length=32:=by rw[<-bh];exact Lh _
     obtain⟨bt,cf⟩:=aB (show(aw.map Y).length=32 by rw[length_map];exact b2) bh;rw[bh]at a0;obtain⟨bs,bX⟩:=aC ((!(e.prev==aw)));obtain⟨cg,cl,cc⟩:=aW (fun ae=>(vY underlying31 e.prev aw ao.hp b2 ae).trans (by rw[bX])) (show(e.prev.map Y).length=32 by rw[length_map];exact ao.hp) bX;have cq:=af.cell' (aG.at0 e);rw[am]at cq;have c7:=O am;clear bh bX am b2 bj;go_upto_region 10 with fail;cases bs with
     |true=>
      have bv:=O (show(fQ l p).1.prev≠lq (rs.map aG.p) by
       rw[<-an.out,cf.out];intro h;have I:=cc.out;rw[show e.prev=aw from h]at I;simp at I)
      have aa:=O (aM.seal a4 aE a5 bv);go_wp2_with (first|(refine bF F (bQ F F (dF af (aG.BH ao)) bY cl) ?_)|(refine bV F 31 _ F F a0 bY bt ?_)|(refine bF F (jm F F F EI (fun w=>cg w) _) ?_))
      (try go_ret)
      rw[a7.out];exact⟨_,rs,by rw[aa.out];rfl,a9.lower (by have:=R.out;omega),by rw[aa.out],fun x hx=>(a3 x hx).lower (by have:=R.out;omega),a2⟩
     |false=>
      have bv:=O (show(fQ l p).1.prev=lq (rs.map aG.p) by
       rw[<-an.out,cf.out];have I:=cc.out;show e.prev=aw;simpa using I)
      obtain⟨q,cB,cA,cz⟩:=aM.step a4 aE a5 bv;have cT:Q=(q:Int):=by rw[<-cS.out,cB]
      subst cT;obtain⟨a6,cR⟩:=aB cz cA;clear cB cA cz;go_upto_region 12 with(first|(refine bF F (bQ F F (dF af (aG.BH ao)) bY cl) ?_)|(refine bV F 31 _ F F a0 bY bt ?_)|(refine bF F (jm F F F EI (fun w=>cg w) _) ?_));have c6:rs.length+1<=9000000:=by have I:=a6.many;have ba:=a6.pl;rw[bu.out]at ba;rw[length_append,length_map,length_singleton]at I;omega
      have cM:=O (show dN e=0 by
       have I:=a6.good (fQ l p).1 aF;rw[<-an.out]at I;rw[xH];exact I)
      have cN:=O (nZ e);have cP:=O (show((ig e).map Y).length=32 by rw[length_map];exact cN);obtain⟨C,ac,aJ,bP⟩:=iw (show bT w ax [cr] [] ax from bT.jA a2 (dV.one af.lt));refine fJ (ops:=(abN 12)) fun Z=> ?_;refine aA 0 ?_;refine bD 1 F (oC F 34 _ F F (fun ae h=>((ac ae).1 h).blk af aF) cZ aL) ?_;refine bD 4 F (oC F 34 _ F F (fun ae h=>((ac ae).1 h).blk af aF) cZ aL) ?_;refine aA 6 ?_;have ar:X ax ax.drew:=(X.refl _).drew;obtain⟨bk,bB,bo,bz,bx⟩:=dM (a0.ext ar) (a9.ext ar) (fun x hx=>(a3 x hx).ext ar) (ao.ext ar) (cU.ext ar);generalize World.drew ax=az at Z⊢bk bB bo bz bx;clear ar;refine aZ 2 ?_;intro ab j;go_wp2_with (refine Cc GX aX F F F aL ?_);refine j _ _ (aJ _ _ Z ((X.refl az).alloc _)) ?_;clear j ab;have al:X az (World.alloc az (.cells e.v.toArray 34)):=(X.refl _).alloc _;have ch:=O (aK.eG (ah.aI (w:=az) (T:=34) (vs:=e.v) F F));have cs:=aJ _ _ Z al;obtain⟨bl,ag,ca,bA,cm⟩:=dM (bk.ext al) (bB.ext al) (fun x hx=>(bo x hx).ext al) (bz.ext al) (bx.ext al);generalize az.heap.size=g4 at*;generalize World.alloc az (.cells e.v.toArray 34)=c3 at*;clear Z al bk bB bo bz bx;have Z:=cs;clear cs;refine aH ?_;refine aZ 3 ?_;intro ab j;go_wp2_with (refine qB GX F _ _ F (g5+1) (m:=1) (news:=e.v) F F ag.own (by rw[aL.out]) bG (by intro h;cases h) ch (i_ e) J J (by have:=bl.lt;omega) ?_);intro dd aD cD aq cv;have cC:∀g,(Value.slice cE rs.length cF).ownBlock=some g->g5+1<=g:=fun g u=>(ag.own.lt g u).1;have bd:C aD:=(ac aD).2 (((ac c3).1 Z).yJ aq (fun g u h=>by
       have I:=bw.out g u;have ba:g=cr:=by simpa using h
       have dc:=ce.out;omega) (fun g u=>by have I:=cC g u;have ba:=R.out;omega))
      obtain⟨bE,b5,b8⟩:=aW (ag.append bA (fun g u=>ci g (bw g u)) cD aq cv) (bl.besides ag.own aq aX) (show X w aD from((ac aD).1 bd).base);have cb:=O (show∀x∈rs++[e],bJ aD (g5+1) x.ba (x.body.map Y)from fun x hx=>by
       rcases mem_append.1 hx with hx|hx
       ·exact Me (ca x hx) (by rw[(ag.ok x hx).hb];exact ag.eo x hx) aq
       ·rw[mem_singleton.1 hx];exact Me (cm.lower (by have:=cd.out;omega)) (by rw[bA.hb];exact fun g u=>ci g (bw g u)) aq)
      refine j _ _ bd ?_;clear j ab Z cD aq cv cC ag bl ca bA cm ch;have Z:=bd;clear bd;refine aH ?_;refine aZ 5 ?_;intro ab j;go_wp2_with fail;refine(GN e aD (bE.ok e aF) cM).mono ?_;rintro df c4 ⟨rfl,ap⟩;have bS:=aJ _ _ Z ap;obtain⟨bL,bm,b9,bp⟩:=bU (bE.ext ap) (b5.ext ap) (b8.ext ap) (fun x hx=>(cb x hx).ext ap);go_wp2_with fail;refine j _ _ bS ?_;clear j ab Z ap bE b5 b8 cb;have Z:=bS;clear bS;refine aH ?_;refine aZ 7 ?_;intro ab j;go_wp2_with (fail);refine j _ _ Z ?_;clear j ab;refine aH ?_;refine aZ 8 ?_;intro ab j;go_wp2_with (refine bg F _ _ _ F F F bm bY bt cP (b_ _) ?_);intro cI bN aR;replace Z:C cI:=(ac cI).2 (((ac c4).1 Z).store aR bN aF (by have:=R.out;omega) (by have I:=ce.out;have ba:=cd.out;simp;omega));obtain⟨cV,cJ,cK,cL⟩:=bU (bL.upd aR bm aX (fun x hx=>TM (bp x hx) (fun ad=>by rw[length_map,(bL.ok x hx).hb]at ad;exact ad) (Nat.lt_succ_self _))) bN (aR.ext b9 (by have:=R.out;omega)) (fun x hx=>(bp x hx).upd aR (Nat.lt_succ_self _));go_wp2_with fail;refine j _ _ Z ?_;clear j ab bN aR bL bm b9 bp;refine aH ?_;refine aZ 9 ?_;intro ab j;go_wp2_with (fail);refine j _ _ Z ?_;clear j ab;refine aH ?_;refine dH ?_;clear Z aJ ac bP C;go_wp2_with fail;go_roundw
      case rel=>
       refine⟨q,rs++[e],F,?_,cV,cL,?_,cK⟩
       ·rw[map_append,map_singleton,an.out];exact a6
       ·rw[map_append,map_singleton,SC,Ii e ao.hb];exact cJ
      case measure=>simp[intOf];have:=cR.out;omega
    ·have a5:=O (show(fQ l p).1.num≠((rs.map aG.p).length:Int) by rw[<-an.out,bj];exact am);have db:(e.num != (rs.length:Int))=true:=by simp;exact am
     have da:decide (e.num=(rs.length:Int))=false:=aP am;have aa:=O (aM.order a4 aE a5);have cq:=af.cell' (aG.at0 e);clear bj;go_wp2_with fail
     (try go_ret)
     rw[a7.out];exact⟨_,rs,by rw[aa.out];rfl,a9.lower (by have:=R.out;omega),by rw[aa.out],fun x hx=>(a3 x hx).lower (by have:=R.out;omega),a2⟩
   ·have c9:(E != 0)=true:=by simp;exact bc
    have c_:decide (E=0)=false:=aP bc;have aa:=O (aM.bad a4 (by rw[aE.out];exact bc));go_wp2_with fail
    (try go_ret)
    rw[a7.out];exact⟨_,rs,by rw[aa.out,aE.out];rfl,a9.lower (by have:=R.out;omega),by rw[aa.out],fun x hx=>(a3 x hx).lower (by have:=R.out;omega),a2⟩
  ·have cW:decide ((p:Int)<(n:Int))=false:=aP J;have cX:decide (p<n)=false:=aP bi;have aa:=O (aM.fin (by rw[bu.out];exact bi));go_wp2_with fail
   (try go_ret)
   rw[a7.out];exact⟨_,rs,by rw[aa.out];rfl,a8.lower (by have:=R.out;omega),by rw[aa.out],fun x hx=>(br x hx).lower (by have:=R.out;omega),a1⟩
end
section
open Go Go.RowKit
section
variable (nd:aj->aj->aj)
def mX(ls:List (aj)):aj:=
 if h:ls.length<2 then ls.headD iK else nd (mX (ls.take (fB ls.length))) (mX (ls.drop (fB ls.length)))
termination_by ls.length
decreasing_by
 ·have:=FX (n:=ls.length) J;rw[length_take];omega
 ·have:=FX (n:=ls.length) J;rw[length_drop];omega
theorem TN(x:aj):mX nd [x]=x:=by rw[mX];simp
theorem MB{ls:List (aj)}(h:2<=ls.length):mX nd ls=nd (mX nd (ls.take (fB ls.length))) (mX nd (ls.drop (fB ls.length))):=by
 rw[mX,dif_neg J]
theorem yX(u:∀a b,(nd a b).length=32){ls:List (aj)}(h:jB ls):(mX nd ls).length=32:=by
 rcases Nat.lt_or_ge ls.length 2 with j|j
 ·rw[mX,dif_pos j];cases ls with
  |nil=>exact Ym
  |cons x r=>exact h x aF
 ·rw[MB nd j];exact u _ _
end
end
theorem abP:∀(n:Nat) (ls:List (aj)) (c:Nat) (a:aN) (w:World),ls.length=n->1<=n->n<=65536->jB ls->n<=c->c<=9223372036854775807->aK w a (dB ls)->
 Calls prog 101 #[.slice a n c] w fun e w'=>e= .returned (.agg ((mX iO ls).map Y).toArray)/\X w w':=by
 intro n;induction n using Nat.strongRecOn with
 |ind n a9=>
 intro ls c a w ai bB bE j bL bq ac;have ae:=O a9;clear a9;by_cases hn:n=1
 ·subst hn;obtain⟨y,rfl⟩:=length_eq_one_iff.1 ai;obtain⟨A,rfl,a0⟩:∃A,a=some A/\dP w (A.add (0*32)) (y.map Y):=by
   cases a with
   |none=>
    rcases ac with h|⟨_,_,h,_⟩
    ·have:=Og j;rw[h]at this;simp at this
    ·cases h
   |some A=>exact⟨A,F,ac.rowAt j F⟩
  have a8:=j y aF;rw[TN];have bi:=O a0;have an:Hid ((y.map Y).length=32):=O (by rw[length_map,a8]);have bu:=b_ y;clear ae ac j ai a0 a8;generalize y.map Y=bX at*;go_enter func101,ntmps101;go_upto_region 1 with(fail);generalize R:World.alloc w _=E;have ad:ah E w.heap.size (List.replicate 32 (.int .u8 0)) 31:=by rw[<-R];exact ah.aI F F
  have ab:X w E:=by rw[<-R];exact(X.refl w).alloc _
  clear R;obtain⟨ao,al,be⟩:=aW ad ab (bi.ext ab);clear ad ab;go_wp2_with (first|(refine bF F (fP (i:=0) F F F underlying59 Bf J E) ?_)|(refine bF F (bQ F F be bY an) ?_)|(refine bg F _ _ _ F F F ao bY aF an bu ?_));intro bS bp bv;go_wp2;refine gG F F bp bY an F ⟨F,bv.ext al bG⟩
 ·have br:=FX (n:=n) J;have hc:=O (fun w=>aen n w J J);have aq:=MB iO (ls:=ls) J;rw[ai]at aq;have a3:(ls.take (fB n)).length=fB n:=by rw[length_take];omega
  have a4:(ls.drop (fB n)).length=n - fB n:=by rw[length_drop];omega
  obtain⟨aM,aR⟩:=aB (fun w' ap=>ae (fB n) J (ls.take (fB n)) c a w' a3 J J (j.take _) J bq ap) (fun w' ap=>ae (n - fB n) J (ls.drop (fB n)) (c - fB n) (qX a c (fB n) 32) w' a4 J J (j.drop _) J J ap);have a5:=yX iO tY (j.take (fB n));have a6:=yX iO tY (j.drop (fB n));have a1:=ac.Oj j (fB n);have a2:=ac.Ol j c (fB n) J;rw[aq];generalize mX iO (ls.take (fB n))=p at*;generalize mX iO (ls.drop (fB n))=q at*;generalize ls.take (fB n)=bN at*;generalize ls.drop (fB n)=bO at*;generalize fB n=k at*;obtain⟨k1,k2,k3⟩:=br;obtain⟨bk,bl,aw⟩:=aW a1 a2 (fun w'=>W_ p q w' a5 a6);have am:Hid (((iO p q).map Y).length=32):=O (by rw[length_map,tY]);have bt:=b_ (iO p q);have bz:((n:Int)==1)=false:=by simp;omega
  have bA:(n==1)=false:=by simp[hn]
  clear ae ac j ai aq a3 a4 a1 a2 a5 a6;go_enter func101,ntmps101;go_upto_region 1 with(fail);generalize R:World.alloc w _=E;have ad:ah E w.heap.size (List.replicate 32 (.int .u8 0)) 31:=by rw[<-R];exact ah.aI F F
  have ab:X w E:=by rw[<-R];exact(X.refl w).alloc _
  clear R;obtain⟨ao,al⟩:=aB ad ab;clear ad ab;go_wp2_with (go_at_call 157;refine(hc _).mono ?_;rintro e w' ⟨rfl,rfl⟩);obtain⟨C,aa,aJ,bP⟩:=iw (show bT w E [] [(w.heap.size,32,31)] E from bT.yw al (dV.none _) ao aF);refine fJ fun Z=> ?_;refine aA 0 ?_;refine aA 1 ?_;refine bD 2 F (bf F (fun ar _=>zB (k:=k) F F F underlying59 Bf J ar)) ?_;refine aA 4 ?_;refine aA 5 ?_;refine bD 6 F (bf F (fun ar _=>Jr (k:=k) F F F underlying59 Bf J ar)) ?_;generalize E.drew=a_ at*;refine aZ 3 ?_;intro I u;go_wp2_with fail;refine(aM a_ (bk.ext ((aa a_).1 Z).base)).mono ?_;rintro e ba ⟨rfl,az⟩;have af:=aJ _ _ Z az;go_wp2_with fail;refine u _ _ af ?_;clear u I Z az aM;refine aH ?_;refine aZ 7 ?_;intro I u;go_wp2_with fail;refine(aR ba (bl.ext ((aa ba).1 af).base)).mono ?_;rintro e bx ⟨rfl,aD⟩;have hF:=aJ _ _ af aD;go_wp2_with fail;refine u _ _ hF ?_;clear u I af aD aR;refine aH ?_;refine aZ 8 ?_;intro I u;go_wp2_with fail;refine(aw bx).mono ?_;rintro e bc ⟨rfl,aE⟩;have ag:=aJ _ _ hF aE;go_wp2_with fail;refine u _ _ ag ?_;clear u I hF aE aw;obtain⟨bR,a7,bd⟩:=((aa bc).1 ag).Dn (r:=w.heap.size) (n:=32) (T:=31) aF;obtain⟨bo,bm,bj⟩:=aW bd a7 ag;clear bd a7 ag;refine aH ?_;refine aZ 9 ?_;intro I u;go_wp2_with (refine bg F _ _ _ F F F bo bY bm am bt ?_);intro av ax bw;have aL:C av:=(aa av).2 (((aa bc).1 bj).store bw ax (by simp[am.out]) bG aF);go_wp2_with fail;refine u _ _ aL ?_;clear u I;have bh:=O ((aa av).1 aL).base;refine dH ?_;go_wp2;refine gG F F ax bY am F ⟨F,bh⟩
theorem abQ:∀(n:Nat) (ls:List (aj)) (c:Nat) (a:aN) (w:World),ls.length=n->1<=n->n<=65536->jB ls->n<=c->c<=9223372036854775807->aK w a (dB ls)->
 Calls prog 60 #[.slice a n c] w fun e w'=>e= .returned (.agg ((mX iO ls).map Y).toArray)/\X w w':=by
 intro n;induction n using Nat.strongRecOn with
 |ind n a9=>
 intro ls c a w ai bB bE j bL bq ac;have ae:=O a9;clear a9;by_cases hn:n=1
 ·subst hn;obtain⟨y,rfl⟩:=length_eq_one_iff.1 ai;obtain⟨A,rfl,a0⟩:∃A,a=some A/\dP w (A.add (0*32)) (y.map Y):=by
   cases a with
   |none=>
    rcases ac with h|⟨_,_,h,_⟩
    ·have:=Og j;rw[h]at this;simp at this
    ·cases h
   |some A=>exact⟨A,F,ac.rowAt j F⟩
  have a8:=j y aF;rw[TN];have bi:=O a0;have an:Hid ((y.map Y).length=32):=O (by rw[length_map,a8]);have bu:=b_ y;clear ae ac j ai a0 a8;generalize y.map Y=bX at*;go_enter func60,ntmps60;go_upto_region 1 with(fail);generalize R:World.alloc w _=E;have ad:ah E w.heap.size (List.replicate 32 (.int .u8 0)) 31:=by rw[<-R];exact ah.aI F F
  have ab:X w E:=by rw[<-R];exact(X.refl w).alloc _
  clear R;obtain⟨ao,al,be⟩:=aW ad ab (bi.ext ab);clear ad ab;go_wp2_with (first|(refine bF F (fP (i:=0) F F F underlying59 Bf J E) ?_)|(refine bF F (bQ F F be bY an) ?_)|(refine bg F _ _ _ F F F ao bY aF an bu ?_));intro bS bp bv;go_wp2;refine gG F F bp bY an F ⟨F,bv.ext al bG⟩
 ·have br:=FX (n:=n) J;have hc:=O (fun w=>Xd n w J J);have aq:=MB iO (ls:=ls) J;rw[ai]at aq;have a3:(ls.take (fB n)).length=fB n:=by rw[length_take];omega
  have a4:(ls.drop (fB n)).length=n - fB n:=by rw[length_drop];omega
  obtain⟨aM,aR⟩:=aB (fun w' ap=>ae (fB n) J (ls.take (fB n)) c a w' a3 J J (j.take _) J bq ap) (fun w' ap=>ae (n - fB n) J (ls.drop (fB n)) (c - fB n) (qX a c (fB n) 32) w' a4 J J (j.drop _) J J ap);have a5:=yX iO tY (j.take (fB n));have a6:=yX iO tY (j.drop (fB n));have a1:=ac.Oj j (fB n);have a2:=ac.Ol j c (fB n) J;rw[aq];generalize mX iO (ls.take (fB n))=p at*;generalize mX iO (ls.drop (fB n))=q at*;generalize ls.take (fB n)=bN at*;generalize ls.drop (fB n)=bO at*;generalize fB n=k at*;obtain⟨k1,k2,k3⟩:=br;obtain⟨bk,bl,aw⟩:=aW a1 a2 (fun w'=>Xe p q w' a5 a6);have am:Hid (((iO p q).map Y).length=32):=O (by rw[length_map,tY]);have bt:=b_ (iO p q);have bz:((n:Int)==1)=false:=by simp;omega
  have bA:(n==1)=false:=by simp[hn]
  clear ae ac j ai aq a3 a4 a1 a2 a5 a6;go_enter func60,ntmps60;go_upto_region 1 with(fail);generalize R:World.alloc w _=E;have ad:ah E w.heap.size (List.replicate 32 (.int .u8 0)) 31:=by rw[<-R];exact ah.aI F F
  have ab:X w E:=by rw[<-R];exact(X.refl w).alloc _
  clear R;obtain⟨ao,al⟩:=aB ad ab;clear ad ab;go_wp2_with (go_at_call 66;refine(hc _).mono ?_;rintro e w' ⟨rfl,rfl⟩);obtain⟨C,aa,aJ,bP⟩:=iw (show bT w E [] [(w.heap.size,32,31)] E from bT.yw al (dV.none _) ao aF);refine fJ fun Z=> ?_;refine aA 0 ?_;refine aA 1 ?_;refine bD 2 F (bf F (fun ar _=>zB (k:=k) F F F underlying59 Bf J ar)) ?_;refine aA 4 ?_;refine aA 5 ?_;refine bD 6 F (bf F (fun ar _=>Jr (k:=k) F F F underlying59 Bf J ar)) ?_;generalize E.drew=a_ at*;refine aZ 3 ?_;intro I u;go_wp2_with fail;refine(aM a_ (bk.ext ((aa a_).1 Z).base)).mono ?_;rintro e ba ⟨rfl,az⟩;have af:=aJ _ _ Z az;go_wp2_with fail;refine u _ _ af ?_;clear u I Z az aM;refine aH ?_;refine aZ 7 ?_;intro I u;go_wp2_with fail;refine(aR ba (bl.ext ((aa ba).1 af).base)).mono ?_;rintro e bx ⟨rfl,aD⟩;have hF:=aJ _ _ af aD;go_wp2_with fail;refine u _ _ hF ?_;clear u I af aD aR;refine aH ?_;refine aZ 8 ?_;intro I u;go_wp2_with fail;refine(aw bx).mono ?_;rintro e bc ⟨rfl,aE⟩;have ag:=aJ _ _ hF aE;go_wp2_with fail;refine u _ _ ag ?_;clear u I hF aE aw;obtain⟨bR,a7,bd⟩:=((aa bc).1 ag).Dn (r:=w.heap.size) (n:=32) (T:=31) aF;obtain⟨bo,bm,bj⟩:=aW bd a7 ag;clear bd a7 ag;refine aH ?_;refine aZ 9 ?_;intro I u;go_wp2_with (refine bg F _ _ _ F F F bo bY bm am bt ?_);intro av ax bw;have aL:C av:=(aa av).2 (((aa bc).1 bj).store bw ax (by simp[am.out]) bG aF);go_wp2_with fail;refine u _ _ aL ?_;clear u I;have bh:=O ((aa av).1 aL).base;refine dH ?_;go_wp2;refine gG F F ax bY am F ⟨F,bh⟩
section
open Go Go.RowKit Go.ChangeShapes Go.WideShapes Go.ChangeAt
theorem abR{n:Int}(h:(Lit.int .u8 n).wf=true):∃x:UInt8,Value.int .u8 n=Y x:=by
 have hb:=bounds_u8 h;refine⟨UInt8.ofNat n.toNat,?_⟩;unfold Y
 congr 1
 rw[UInt8.toNat_ofNat'];omega
end
theorem abS(t:aj)(a:aN)(n c:Nat)(w:World)(ht:t.length=n)(hn:n<=1048576)(aa:aK w a (t.map Y)):
 Calls prog 67 #[.slice a n c] w fun e w'=>e= .returned (.agg ((dY 1 t).map Y).toArray)/\X w w':=by
 have hs:=O (fun w' h=>uV 1 t n c a w' J J ht J h);have R:Hid (((dY 1 t).map Y).length=32):=O (by rw[length_map,j_]);have ag:=b_ (dY 1 t);have ad:=O aa;clear ht aa;generalize (dY 1 t).map Y=al at*;go_enter func67,ntmps67;go_upto_region 1 with(fail);generalize E:World.alloc w _=I;have ab:ah I w.heap.size (List.replicate 32 (.int .u8 0)) 31:=by rw[<-E];exact ah.aI F F
 have u:X w I:=by rw[<-E];exact(X.refl w).alloc _
 clear E;go_wp2_with fail;refine(hs I (ad.ext u)).mono ?_;rintro e am ⟨rfl,j⟩;obtain⟨ae,ac⟩:=aB (ab.ext j) (u.ext j);clear ab u j;go_wp2_with (refine bg F _ _ _ F F F ae bY aF R ag ?_);intro an af ai;go_wp2;refine gG F F af bY R F ⟨F,ai.ext ac bG⟩
theorem abT(t:aj)(a:aN)(n c:Nat)(w:World)(ht:t.length=n)(hn:n<=1048576)(al:n<=c)(hc:c<=9223372036854775807)(aa:a=none->c=0)(ab:aK w a (t.map Y)):
 Calls prog 63 #[.slice a n c] w fun e w'=>e= .returned (.tuple #[.agg ((dY 1 t).map Y).toArray,.int .i64 0])/\X w w':=by
 have hs:=O (fun w' h=>Gf 1 t n c a w' ht al hc aa h);have ac:uX 1 t n= .tuple #[.agg ((dY 1 t).map Y).toArray,.int .i64 0]:=by rw[uX,if_neg J,if_pos J]
 rw[ac]at hs;have R:Hid (((dY 1 t).map Y).length=32):=O (by rw[length_map,j_]);have am:=b_ (dY 1 t);have af:=O ab;clear ht ab ac aa;generalize (dY 1 t).map Y=ao at*;go_enter func63,ntmps63;go_upto_region 1 with(fail);generalize E:World.alloc w _=I;have ad:ah I w.heap.size (List.replicate 32 (.int .u8 0)) 31:=by rw[<-E];exact ah.aI F F
 have u:X w I:=by rw[<-E];exact(X.refl w).alloc _
 clear E;go_wp2_with fail;refine(hs I (af.ext u)).mono ?_;rintro e ap ⟨rfl,j⟩;obtain⟨ag,ae⟩:=aB (ad.ext j) (u.ext j);clear ad u j;go_wp2_with (refine bg F _ _ _ F F F ag bY aF R am ?_);intro aq ai an;go_wp2;refine iy F F ai bY R F ⟨F,an.ext ae bG⟩
theorem TP:(prog.info? 31).map (fun i=>(i.zero,i.size,i.bytes))=some (some (.agg (List.replicate 32 (.int .u8 0)).toArray),32,32):=au
theorem TQ:(Value.agg (List.replicate 32 (.int .u8 0)).toArray).cells.size=32:=by simp[Value.cells]
theorem abU(y:aj)(E:y.length=32)(j:Array Value)(hc:j.size=32):Instr.fill (fun i=>some (i*32,32)) j [(0,.agg (y.map Y).toArray)]=some (y.map Y).toArray:=by
 have h:=Great.fill_whole (s:=32) J [.agg (y.map Y).toArray] j (by intro v u;rw[mem_singleton.1 u];simp[Value.cells,E]) (by simp[hc]);simpa[Value.cells]using h
theorem abV{P:Program}{o:Oper}{a:Act}{t e:TypeId}{x:Operand}{y:aj}(aa:o.op= .buildSlice t 1 #[(0,x)])(ac:a.eval x= .agg (y.map Y).toArray)(ad:y.length=32)(ab:P.underlying t=some (.slice e))
 {j:TypeInfo}{z:Value}(R:P.info? e=some j)(ae:j.zero=some z)(u:j.size=32)(af:z.cells.size=32)(w:World):
 (execOp a.eval o).run P w= .ok (.value (.slice (some ⟨w.heap.size,0,none⟩) 1 1)) (w.alloc (.cells (y.map Y).toArray e)):=by
 have h:=run_buildSlice (P:=P) w t e 1 #[(0,.agg (y.map Y).toArray)] (y.map Y).toArray j z ab R ae (by rw[u];omega) (by rw[u];omega) (by rw[u];exact abU y ad _ aF);have I:(#[(0,x)].map fun(p:Nat×Operand)=>(p.1,a.eval p.2))= #[(0,.agg (y.map Y).toArray)]:=by simp[ac]
 unfold execOp;simp only[aa,Sem.run_bind];have E:(Instr.buildSlice t 1 (#[(0,x)].map fun(p:Nat×Operand)=>(p.1,a.eval p.2))).run P w= .ok (.slice (some ⟨w.heap.size,0,none⟩) 1 1) (w.alloc (.cells (y.map Y).toArray e)):=by rw[I];exact h
 rw[E];rfl
theorem abW{P:Program}{ops:Array Oper}{rest:List Oper}{o:Oper}{a:Act}{w w':World}{Q:Exit->Act->World->Prop}{v:Value}(u:o.guard=none)(E:(execOp a.eval o).run P w= .ok (.value v) w')(h:wpList P ops Q rest (a.put o.dst v) w'):wpList P ops Q (o::rest) a w:=
 wpList_plain u fun K j=>by
  unfold Oper.wp;rw[E,Oper.upon_value];exact j _ _ h
theorem TR{ops:Array Oper}{rest:List Oper}{o:Oper}{a:Act}{w:World}{Q:Exit->Act->World->Prop}(j:o.guard=none){x:Operand}{y:aj}(E:o.op= .buildSlice 59 1 #[(0,x)])(R:a.eval x= .agg (y.map Y).toArray)(aa:y.length=32)
 (h:wpList prog ops Q rest (a.put o.dst (.slice (some ⟨w.heap.size,0,none⟩) 1 1)) (w.alloc (.cells (y.map Y).toArray 31))):wpList prog ops Q (o::rest) a w:=by
 obtain⟨ad,u,ab,I,ac⟩:=info_parts TP;exact abW j (abV E R aa underlying59 u ab I TQ w) h
theorem abX(w:World)(B:Nat)(t e ty:TypeId){E:TypeInfo}{aa:Value}{z:Nat}(ae:prog.underlying t=some (.slice e))(ab:prog.info? e=some E)(al:E.zero=some aa)(ad:E.size=z)(ag:E.bytes=z)(az:aa.cells.size=z)(am:0<z)
 {v:Value}{n m c:Nat}{xs news:aO}{y:Addr}(I:w.ownsRow B e z v n xs)(ai:news.length=m*z)(hc:∀j u,news[j]? =some u->w.cell? (y.add j)=some u)(an:∀u∈news,u.oneCell'=true)
 (hb:(n+m)*z<=140737488355328)(av:B<=w.heap.size):
 ∃v' w',(Builtin.append_ #[t,t] ty #[v,.slice (some y) m c]).run prog w= .ok v' w'/\w'.ownsRow B e z v' (n+m) (xs++news)/\w.grownBy w' v.ownBlock/\
  (v'.ownBlock=v.ownBlock∨v'.ownBlock=some w.heap.size):=by
 have a1:n+m<=140737488355328:=Nat.le_trans (Nat.le_mul_of_pos_right _ am) hb;have aR:m*z<=140737488355328:=Nat.le_trans (Nat.mul_le_mul_right z (Nat.le_add_left m n)) hb;have ao:news.length=m*E.size:=by rw[ad];exact ai
 obtain⟨v',w',ac,ap,aq,ar⟩:=run_append_own (P:=prog) w B t ty e E aa z z ae ab al ad ag az am v n xs I y m c news ai hc an (by unfold maxLen;omega) hb av;refine⟨v',w',ac,ap,aq,?_⟩;rcases I.2 with⟨rfl,rfl⟩|⟨g,af,cu,rfl,aD,aM,a0,aE,aL,a2⟩
 ·by_cases aw:m=0
  ·left
   rw[ar.2 ⟨F,aw⟩]
  ·right
   have R:=run_append_nil (P:=prog) w t ty e E aa ae ab al y m c news ao hc J J (by rw[ag];omega);exact JJ R ac F
 ·by_cases ax:n+m<=af
  ·left
   obtain⟨w2,R,_⟩:=run_append_fits (P:=prog) w B t ty e E z ae ab ad g n af xs I y m c news ai hc an ax;exact JJ R ac F
  ·right
   have R:=run_append_grow (P:=prog) w t ty e E aa ae ab al ⟨g,0,none⟩ n af xs (by rw[ad];exact I.1) (I.cells (g:=g) F) y m c news ao hc J J (growslice_fits J (by rw[ag];omega));exact JJ R ac F
theorem TS{ops:Array Oper}{rest:List Oper}{o:Oper}{a:Act}{w:World}{Q:Exit->Act->World->Prop}(ab:o.guard=none)(s x:Operand)
 (ad:o.op= .call {callee:= .builtin .append,args:= #[s,x],argTypes:= #[59,59]})(base:Nat){v:Value}{n c g:Nat}{ls:List (aj)}{y:aj}{T:TypeId}
 (hs:a.eval s=v)(ai:a.eval x= .slice (some ⟨g,0,none⟩) 1 c)(ae:w.ownsRow base 31 32 v n (dB ls))(al:y.length=32)(hb:ah w g (y.map Y) T)
 (hn:(n+1)*32<=140737488355328)(aa:base<=w.heap.size)
 (h:∀v' w',w'.ownsRow base 31 32 v' (n+1) (dB (ls++[y]))->w.grownBy w' v.ownBlock->(v'.ownBlock=v.ownBlock∨v'.ownBlock=some w.heap.size)->wpList prog ops Q rest (a.put o.dst v') w'):wpList prog ops Q (o::rest) a w:=by
 obtain⟨an,ac,am,ag,R⟩:=info_parts TP;obtain⟨v',w',af,j,u,E⟩:=abX w base 59 31 o.type (m:=1) (c:=c) underlying59 ac am ag R TQ aX ae (by rw[length_map,al]) (tJ hb) (b_ _) hn aa;exact wpList_plain ab fun K I=>Lib.wp_append_run w s x _ _ ad v _ hs ai v' w' af (I _ _ (h v' w' (by rw[Oh,Oi];exact j) u E))
end Go.Proofs.YtjlhhnkhcbpnjaaGreatDoor
