/- Laws that the row leans on; no condition. -/
import Derived.Test.YtjlhhnkhcbpnjaaGreatDoorJ25
import Derived.ProofKit
import Derived.OpenShut
import Derived.ChangeSlices
import Derived.WideShapes
import Derived.SizedLaws
import Derived.Deep.Matrix
namespace Go.Proofs.YtjlhhnkhcbpnjaaGreatDoor
open Go Go.RowKit List Tryz
set_option linter.unusedVariables false
set_option linter.unusedSectionVars false
set_option linter.unusedSimpArgs false
set_option maxHeartbeats 40000000
set_option maxRecDepth 100000
section
open Go Go.RowKit
section
variable {K V:Type} [DecidableEq K]
theorem aa1{hs:List (K×V)}(h:(hs.map Prod.fst).Nodup)(x:K):iQ hs x=hs.filter fun p=>decide (p.1≠x):=by
 unfold iQ;cases u:jq x hs with
 |none=>
  refine(filter_eq_self.2 fun p I=> ?_).symm;have:=BM.1 u p I;simp[this]
 |some i=>
  induction hs generalizing i with
  |nil=>simp[jq]at u
  |cons a l R=>
   rw[map_cons,nodup_cons]at h;unfold jq at u;rw[List.findIdx?_cons]at u;by_cases ha:a.1=x
   ·rw[if_pos (by simp[ha])]at u;injection u with u;subst u;rw[filter_cons_of_neg (by simp[ha])];show l=_;refine(filter_eq_self.2 fun p I=> ?_).symm;have:p.1≠x:=fun e=>h.1 (ha▸e▸mem_map_of_mem I);simp[this]
   ·rw[if_neg (by simp[ha])]at u;cases E:l.findIdx? (fun p=>decide (p.1=x))with
    |none=>rw[E]at u;cases u
    |some j=>
     rw[E]at u;injection u with u;subst u;rw[filter_cons_of_pos (by simp[ha])];show(a::l).eraseIdx (j+1)=_;rw[eraseIdx_cons_succ];exact congrArg (a:: ·) (R h.2 j E)
def xY(keep:K×V->Bool)(lf:List K)(L:List (K×V)):List (K×V):=L.filter fun y=>decide (y.1∈lf)||keep y
theorem aa2(keep:K×V->Bool)(L:List (K×V)):xY keep (L.map Prod.fst) L=L:=
 filter_eq_self.2 fun y j=>by simp[mem_map_of_mem (f:=Prod.fst) j]
theorem aa3(keep:K×V->Bool)(L:List (K×V)):xY keep [] L=L.filter keep:=by unfold xY;simp
variable {keep:K×V->Bool} {lf lf2:List K} {L:List (K×V)} {x:K} {v:V}
theorem Tj(h:(L.map Prod.fst).Nodup)(I:(x,v)∈L){y:K×V}(R:y∈L)(e:y.1=x):y=(x,v):=by
 obtain⟨i,E⟩:=List.getElem?_of_mem I;obtain⟨j,u⟩:=List.getElem?_of_mem R;obtain⟨a,b⟩:=y;simp only at e;subst e;have:=Em h E u;subst this;rw[E]at u;injection u with u;exact u.symm
theorem aa4(h:(L.map Prod.fst).Nodup)(E:(x,v)∈L)(u:lf.Perm (x::lf2))(hk:keep (x,v)=true):xY keep lf2 L=xY keep lf L:=by
 refine filter_congr fun y I=> ?_;have j:y.1∈lf↔y.1=x∨y.1∈lf2:=by rw[u.mem_iff,mem_cons]
 by_cases e:y.1=x
 ·rw[Tj h E I e,hk];simp
 ·have:(y.1∈lf)=(y.1∈lf2):=propext ⟨fun h=>(j.1 h).resolve_left e,fun h=>j.2 (.inr h)⟩;simp only[this]
theorem aa5(h:(L.map Prod.fst).Nodup)(E:(x,v)∈L)(u:lf.Perm (x::lf2))(hn:x∉lf2)(hk:keep (x,v)=false):iQ (xY keep lf L) x=xY keep lf2 L:=by
 unfold xY;rw[aa1 ((filter_sublist.map Prod.fst).nodup h)];rw[filter_filter];refine filter_congr fun y I=> ?_;have j:y.1∈lf↔y.1=x∨y.1∈lf2:=by rw[u.mem_iff,mem_cons]
 by_cases e:y.1=x
 ·rw[Tj h E I e,hk];simp[hn]
 ·have:(y.1∈lf)=(y.1∈lf2):=propext ⟨fun h=>(j.1 h).resolve_left e,fun h=>j.2 (.inr h)⟩;simp[this,e]
theorem gJ.qL{kv:K->Value}{vv:V->Value}{w:World}{g r:Nat}{hs:List (K×V)}{lf:List K}(h:gJ kv vv w g r hs lf):w.rangeLeft g r=lf.length:=by
 obtain⟨es,I,af,ae,E,hb,ac,ad,u,R,aa,ab,j⟩:=h;have:=congrArg List.length j;simp only[length_map,Array.length_toList]at this;rw[<-this];simp[World.rangeLeft,hb,u]
theorem gJ.same{kv:K->Value}{vv:V->Value}{w:World}{g r:Nat}{hs j:List (K×V)}{lf:List K}(h:gJ kv vv w g r hs lf)(e:j.map (fun p=>(kv p.1,vv p.2))=hs.map (fun p=>(kv p.1,vv p.2))):gJ kv vv w g r j lf:=by
 obtain⟨es,E,aa,R,u,hb,I,h⟩:=h;exact⟨es,E,aa,R,u,hb,by rw[e];exact I,h⟩
theorem gJ.mut{M:Nat->Prop}{kv:K->Value}{vv:V->Value}{w w':World}{g r:Nat}{hs:List (K×V)}{lf:List K}(h:gJ kv vv w g r hs lf)(m:gB M w w')(j:¬M g)(u:¬M r):gJ kv vv w' g r hs lf:=
 h.keep (m.block g h.map.lt j) (m.block r h.lt u)
end
def mV(f:List (aj×dX)->List (aj×dX))(lf:List (aj))(A:List (aj×(Nat×List (aj×dX)))):List (aj×(Nat×List (aj×dX))):=
 A.map fun x=>if x.1∈lf then x else(x.1,(x.2.1,f x.2.2))
section
variable {f:List (aj×dX)->List (aj×dX)} {lf lf2:List (aj)} {x:aj} {A:List (aj×(Nat×List (aj×dX)))}
theorem Iw(A:List (aj×(Nat×List (aj×dX)))):mV f (A.map Prod.fst) A=A:=by
 unfold mV
 conv=>rhs;rw[<-map_id A]
 refine map_congr_left fun x j=> ?_;rw[if_pos (mem_map_of_mem j)];rfl
theorem Iy(lf:List (aj))(A:List (aj×(Nat×List (aj×dX)))):(mV f lf A).map (fun p=>(eX p.1,oH p.2))=A.map (fun p=>(eX p.1,oH p.2)):=by
 unfold mV;rw[map_map];refine map_congr_left fun x j=> ?_;show(eX (if x.1∈lf then x else(x.1,(x.2.1,f x.2.2))).1,oH (if x.1∈lf then x else(x.1,(x.2.1,f x.2.2))).2)=_;split<;>rfl
theorem Tm(h:(A.map Prod.fst).Nodup)(R:lf.Perm (x::lf2))(hn:x∉lf2){v:Nat×List (aj×dX)}(ad:(x,v)∈mV f lf A):
 ∃i,(mV f lf A)[i]? =some (x,v)/\mV f lf2 A=(mV f lf A).set i (x,(v.1,f v.2)):=by
 obtain⟨i,E⟩:=List.getElem?_of_mem ad;refine⟨i,E,?_⟩;have ae:x∈lf:=by rw[R.mem_iff];simp
 unfold mV at E⊢;rw[List.getElem?_map]at E;cases ha:A[i]? with
 |none=>rw[ha]at E;cases E
 |some a=>
  rw[ha]at E;simp only[Option.map_some,Option.some.injEq]at E;have ab:a.1=x:=by
   by_cases aa:a.1∈lf
   ·rw[if_pos aa]at E;rw[E]
   ·rw[if_neg aa]at E;exact congrArg Prod.fst E
  rw[if_pos (by rw[ab];exact ae)]at E;subst E;apply ext_getElem?;intro j;rw[List.getElem?_map,List.getElem?_set,length_map,List.getElem?_map];by_cases I:i=j
  ·subst I;rw[if_pos F,if_pos (List.getElem?_eq_some_iff.1 ha).1,ha];simp only[Option.map_some];rw[if_neg hn]
  ·rw[if_neg I];cases hb:A[j]? with
   |none=>rfl
   |some b=>
    simp only[Option.map_some];have ac:b.1≠x:=fun e=>I (Em (k:=x) h (v:=v) (u:=b.2) ha (by rw[hb,<-e]));have:(b.1∈lf)=(b.1∈lf2):=propext ⟨fun h=>by rw[R.mem_iff,mem_cons]at h;exact h.resolve_left ac,fun h=>by rw[R.mem_iff];exact mem_cons_of_mem _ h⟩;simp only[this]
end
def iC(g:Nat)(a:aN)(n:Nat):Prop:=n=0∨∀A,a=some A->A.block≠g
structure aV.Off(S:aV)(g:Nat):Prop where
 ms:∀x∈S.ms,iC g x.2.a x.2.n
 av:∀x∈S.av,∀y∈x.2.2,iC g y.2.r.a y.2.r.n
 po:∀P,S.pol=some P->P.q≠g/\iC g P.a P.n/\∀r∈P.rs,iC g r.ra r.rn/\iC g r.aa r.an/\iC g r.la r.ln
theorem bJ.off{w:World}{B g n z:Nat}{a:aN}{xs:aO}(h:bJ w B a xs)(E:xs.length=z*n)(I:0<z)(R:g<B):iC g a n:=by
 rcases h with h|⟨b,off,ha,hb,_⟩
 ·rw[h]at E;rcases Nat.eq_zero_or_pos n with u|u
  ·exact .inl u
  ·have:=Nat.mul_pos I u;simp at E;omega
 ·refine .inr fun A j=> ?_;rw[ha]at j;injection j with j;rw[<-j];show b≠g;omega
theorem oG.Hi.mono{w:World}{B B':Nat}{P:oG}(h:P.Hi w B)(hb:B'<=B):P.Hi w B':=
 ⟨h.blk,Nat.le_trans hb h.ge,h.hl,h.nc,h.n100,h.cell.mono hb,h.rM,fun r j=>⟨(h.jF r j).1.mono hb,(h.jF r j).2.1.mono hb,(h.jF r j).2.2.mono hb⟩⟩
theorem oG.Hi.off{w:World}{B g:Nat}{P:oG}(h:P.Hi w B)(u:g<B):P.q≠g/\iC g P.a P.n/\∀r∈P.rs,iC g r.ra r.rn/\iC g r.aa r.an/\iC g r.la r.ln:=by
 refine⟨by have:=h.ge;omega,h.cell.off (z:=8) (by rw[Hg,h.hl]) J u,fun r j=>⟨?_,?_,?_⟩⟩
 ·exact(h.jF r j).1.off (z:=1) (by rw[length_map,(h.rM r j).rl,Nat.one_mul]) J u
 ·exact(h.jF r j).2.1.off (z:=1) (by rw[length_map,(h.rM r j).al,Nat.one_mul]) J u
 ·exact(h.jF r j).2.2.off (z:=1) (by rw[length_map,(h.rM r j).ll,Nat.one_mul]) J u
theorem aV.Off.jO{S:aV}{g:Nat}(h:S.Off g)(id:aj):iC g (S.jO id).a (S.jO id).n:=by
 unfold aV.jO;cases j:bW S.ms id with
 |none=>exact .inl F
 |some r=>exact h.ms _ (BO j)
theorem LY{g i q:Nat}{k:aj}{l:List (aj×dX)}{A:List (aj×(Nat×List (aj×dX)))}(h:∀x∈A,∀y∈x.2.2,iC g y.2.r.a y.2.r.n)(u:∀y∈l,iC g y.2.r.a y.2.r.n):∀x∈A.set i (k,(q,l)),∀y∈x.2.2,iC g y.2.r.a y.2.r.n:=by
 intro x j;rcases mem_or_eq_of_mem_set j with j|rfl
 ·exact h x j
 ·exact u
def CU(p:Nat)(e:aG):Prop:=∀A,e.ba=some A->A.block≠p
theorem aG.Ok.fF{w w':World}{g p:Nat}{e:aG}(h:e.Ok w)(u:mP g w w')(j:g=p∨jr w g)(R:CU p e):e.Ok w':=by
 refine{h with hcl:= ?_};rcases h.hcl with I|⟨b,off,ha,I⟩
 ·exact .inl I
 refine .inr ⟨b,off,ha,fun i x aa=> ?_⟩;have E:=I i x aa;refine wu E (u.block b (block_lt_of_cell E) (fun hb=> ?_));subst hb;rcases j with j|j
 ·exact R _ ha j
 ·rw[j.cell]at E;cases E
structure lu(w:World)(p:Nat)(S:aV)(e:aG)(r:ay)(ak:aj)(G3 G6 G8:Nat)(T:aV)(wx:World):Prop where
 st:dJ wx p T
 mu:gB (S.M p) w wx
 new:∀g,T.M p g->S.M p g∨w.heap.size<=g
 be:ah wx G3 e.v 34
 bb:ah wx G6 r.v 101
 ba:ah wx G8 (ak.map Y) 31
 rh:bJ wx w.heap.size r.ra (r.roles.map bM)
 ok:e.Ok wx
 off:CU p e
 g3:w.heap.size<=G3
 g6:w.heap.size<=G6
 g8:w.heap.size<=G8
 pl:p<w.heap.size
 LZ:∀g,g<w.heap.size->S.Off g->T.Off g
section
variable {w wx wy:World} {p:Nat} {S T T':aV} {e:aG} {r:ay} {ak:aj} {G3 G6 G8 g:Nat}
theorem dJ.Iz(h:dJ wx p T)(j:T.M p g):g=p∨jr wx g:=by
 rcases j with rfl|rfl|rfl|rfl|⟨x,u,rfl⟩
 ·exact .inl F
 ·exact .inr h.Ar
 ·exact .inr h.Ip
 ·exact .inr h.EN
 ·exact .inr (h.EO u)
theorem lu.ext(h:lu w p S e r ak G3 G6 G8 T wx)(k:X wx wy):lu w p S e r ak G3 G6 G8 T wy:=
 {h with st:=h.st.ext k,mu:=h.mu.same (gB.wC k),be:=h.be.ext k,bb:=h.bb.ext k,ba:=h.ba.ext k,rh:=h.rh.ext' k,ok:=h.ok.ext k}
theorem lu.Tn(h:lu w p S e r ak G3 G6 G8 T wx)(u:mP g wx wy)(j:T.M p g)(ab:dJ wy p T')(hn:∀k,T'.M p k->T.M p k∨w.heap.size<=k)(ad:∀g,g<w.heap.size->T.Off g->T'.Off g):lu w p S e r ak G3 G6 G8 T' wy:=by
 have I:=h.st.Iz j;have E:∀{k:Nat} {vs:aO} {R:TypeId},w.heap.size<=k->ah wx k vs R->¬k=g:=by
  intro k vs R hk hb ac;rcases I with aa|aa
  ·have:=h.pl;omega
  ·exact aa.ne hb ac
 exact{
  st:=ab,mu:=h.mu.trans u (fun x ag ae=>by subst ae;exact(h.new _ j).resolve_right J),
  new:=fun k hk=>(hn k hk).elim (h.new k) .inr,
  be:=h.be.mut u (E h.g3 h.be),bb:=h.bb.mut u (E h.g6 h.bb),ba:=h.ba.mut u (E h.g8 h.ba),rh:=h.rh.fF u (I.elim (fun af=> .inl (by have:=h.pl;omega)) .inr),
  ok:=h.ok.fF u I h.off,off:=h.off,g3:=h.g3,g6:=h.g6,g8:=h.g8,pl:=h.pl,LZ:=fun g j hs=>ad g j (h.LZ g j hs)}
theorem lu.turn(h:lu w p S e r ak G3 G6 G8 T wx)(u:mP g wx wy)(E:T.M p g)(j:dJ wy p T')(hn:∀k,T'.M p k->T.M p k∨wx.heap.size<=k)(I:∀g,g<w.heap.size->T.Off g->T'.Off g):lu w p S e r ak G3 G6 G8 T' wy:=
 h.Tn u E j (fun k hk=>(hn k hk).imp id (Nat.le_trans h.mu.size)) I
end
end
section
open Go Go.RowKit
theorem IB{l m r xs:aO}{n:Nat}(j:l.length=n)(u:m.length=xs.length):fV (l++(m++r)) n xs=l++(xs++r):=by
 unfold fV;rw[take_left' j,<-drop_drop,drop_left' j,drop_left' u,append_assoc]
section
variable {S:aV} (h:S.last.length=32) (hf:S.ji.length=16)
theorem aV.set1(S:aV)(n:Int):S.v.set 1 (.int .i64 n)={S with tm:=n}.v:=F
include h in
theorem aV.aa6{x:aj}(j:x.length=32):fV S.v 2 (x.map Y)={S with last:=x}.v:=by
 unfold aV.v;exact IB (l:=[_,_]) F (by rw[length_map,length_map,h,j])
include h hf in
theorem aV.aa7{x:aj}(j:x.length=16):fV S.v 34 (x.map Y)={S with ji:=x}.v:=by
 unfold aV.v;have:=IB (l:= .int .i64 (S.cnt:Int):: .int .i64 S.tm::S.last.map Y) (m:=S.ji.map Y) (r:=[.pointer (S.pol.map fun p=>⟨p.q,0,none⟩),.map (some S.gm),.map (some S.gk),.map (some S.ga)]) (xs:=x.map Y) (n:=34) (by simp[h]) (by rw[length_map,length_map,hf,j]);simpa using this
include h hf in
theorem aV.L6(P:oG):S.v.set 50 (.pointer (some ⟨P.q,0,none⟩))={S with pol:=some P}.v:=by
 unfold aV.v;rw[show(50:Nat)=48+1+1 by rfl,set_cons_succ,set_cons_succ,set_append_right _ _ (by simp[h]),length_map,h,set_append_right _ _ (by simp[hf]),length_map,hf];rfl
end
section
variable {k:bC} (h:k.Ok)
include h
theorem bC.DZ(n:Int):k.v.set 17 (.int .i64 n)={k with epoch:=n}.v:=by
 unfold bC.v;rw[set_append_right _ _ (by simp[h.hk]),length_map,h.hk];rfl
theorem bC.aa8{x:aj}(j:x.length=32):fV k.v 18 (x.map Y)={k with commit:=x}.v:=by
 unfold bC.v;have:=IB (l:=k.key.map Y++[.string k.label,.int .i64 k.epoch]) (m:=k.commit.map Y) (r:= .bool k.rev:: .int .i64 k.esc::k.shared.map Y) (xs:=x.map Y) (n:=18) (by simp[h.hk]) (by rw[length_map,length_map,h.hc,j]);simpa using this
theorem bC.L6(b:Bool):k.v.set 50 (.bool b)={k with rev:=b}.v:=by
 unfold bC.v;rw[set_append_right _ _ (by simp[h.hk]),length_map,h.hk,show 50 - 16=32+1+1 by rfl,set_cons_succ,set_cons_succ,set_append_right _ _ (by simp[h.hc]),length_map,h.hc];rfl
theorem bC.D6(n:Int):k.v.set 51 (.int .i64 n)={k with esc:=n}.v:=by
 unfold bC.v;rw[set_append_right _ _ (by simp[h.hk]),length_map,h.hk,show 51 - 16=33+1+1 by rfl,set_cons_succ,set_cons_succ,set_append_right _ _ (by simp[h.hc]),length_map,h.hc];rfl
theorem bC.aa9{x:aj}(j:x.length=32):fV k.v 52 (x.map Y)={k with shared:=x}.v:=by
 unfold bC.v;have:=IB (l:=k.key.map Y++(.string k.label:: .int .i64 k.epoch::(k.commit.map Y++[.bool k.rev,.int .i64 k.esc]))) (m:=k.shared.map Y) (r:=[]) (xs:=x.map Y) (n:=52) (by simp[h.hk,h.hc]) (by rw[length_map,length_map,h.hs,j]);simpa using this
end
theorem abb(S:aV)(e:aG)(l:ByteArray):dY 5 (sW (S.oq e l))=lV e:=F
theorem aV.IC{w:World}{p:Nat}{S:aV}{e:aG}(h:dJ w p S)(hb:(mO e).label.size<=140737488355328):(S.lab e).size<=140737488355328:=by
 unfold aV.lab;split
 ·exact hb
 ·have:=(h.Il e.key).ls;omega
theorem abd{f:aj->Int}{act:Int}{l:aj}(h:(kE f act l).2=0):uh act (kE f act l).1=0:=by
 unfold kE at h⊢;split at h
 ·cases h
 rename_i E;rw[if_neg E];split at h
 ·cases h
 rename_i I;rw[if_neg I];cases u:jC f (gy act) kD l with
 |none=>rw[u]at h;cases h
 |some q=>
  obtain⟨x,rest⟩:=q;rw[u]at h;simp only at h⊢;split at h
  ·cases h
  rename_i R;rw[if_neg R];split at h
  ·rename_i j;rw[if_pos j];exact j
  ·rename_i j;exact absurd h j
theorem abe{e:aG}{r:ay}(hf:r.Fit)(E:r.p=mO e)(h:(kE kF e.act e.body).2=0):Fh r:=by
 have j:=abd h;have u:jS e.act r=0:=by rw[Gv hf.rl hf.hl,E];exact j
 exact(Ed u).small
theorem L8{w:World}{B:Nat}{a:aN}{xs:aO}(h:aK w a xs)(hb:∀A,a=some A->xs≠[]->B<=A.block):bJ w B a xs:=by
 rcases h with h|⟨b,off,ha,h⟩
 ·exact .inl h
 ·by_cases j:xs=[]
  ·exact .inl j
  ·exact .inr ⟨b,off,ha,hb _ ha j,h⟩
theorem L9{w:World}{B n:Nat}{a:aN}{xs:aO}(h:aK w a xs)(I:xs.length=n)(E:xP B a n):bJ w B a xs:=
 L8 h (fun A ha R=>by
  rcases E with u|⟨aa,j,hb⟩
  ·exact absurd (length_eq_zero_iff.1 (I.trans u)) R
  ·rw[ha]at j;injection j with j;rw[j];exact hb)
theorem abf{w:World}{q n c B:Nat}{a:aN}{rs:List aS}(hb:ah w q [.slice a n c] 152)(E:B<=q)(j:lG w a n c rs)(hn:CS B a n c rs):oG.Hi w B ⟨q,a,n,c,rs⟩:=
 ⟨hb,E,j.hl,j.hnc,j.hm,L8 j.cell (fun A (ha:a=some A) _=>hn.1 A.block (by rw[ha];rfl)),j.ok,fun r u=>
  ⟨L9 (j.ok r u).nU (by rw[length_map];exact(j.ok r u).rl) (hn.2 r u).r1,L9 (j.ok r u).mF (by rw[length_map];exact(j.ok r u).al) (hn.2 r u).r2,L9 (j.ok r u).sN (by rw[length_map];exact(j.ok r u).ll) (hn.2 r u).r3⟩⟩
theorem oG.Hi.gH{w:World}{B:Nat}{P:oG}(h:P.Hi w B):lG w P.a P.n P.c P.rs:=⟨h.hl,h.nc,h.n100,h.cell.cells,h.rM⟩
theorem abg{B B' n c:Nat}{a:aN}{rs:List aS}(h:CS B a n c rs)(hb:B'<=B):CS B' a n c rs:=⟨fun g j=>Nat.le_trans hb (h.1 g j),fun r u=>SY (h.2 r u) hb⟩
end
section
open Go Go.RowKit
section
variable {w wx wy:World} {p g q:Nat} {S T:aV} {e:aG} {r:ay} {ak:aj} {G3 G6 G8:Nat}
theorem CV{K V j u:Type}[DecidableEq K][DecidableEq j]{kv:K->Value}{vv:V->Value}{aa:j->Value}{ab:u->Value}{hs:List (K×V)}{lf:List K}{R:List (j×u)}{g i:Nat}(h:gJ kv vv wx g i hs lf)(m:f_ aa ab wx q R):i≠q:=by
 rintro rfl;obtain⟨es,ae,am,al,ac,hb,ag,ai,I,_⟩:=h;obtain⟨af,ad,E,_⟩:=m;rw[I]at E;cases E
theorem CW{K V:Type}[DecidableEq K]{kv:K->Value}{vv:V->Value}{hs:List (K×V)}{lf:List K}{g i:Nat}(h:gJ kv vv wx g i hs lf):jr wx i:=by
 obtain⟨es,E,ab,aa,u,hb,I,R,j,_⟩:=h;exact⟨_,j,fun _ _ _ e=>by cases e⟩
theorem dJ.Tq{K V:Type}[DecidableEq K]{kv:K->Value}{vv:V->Value}{hs:List (K×V)}{lf:List K}{g i:Nat}(h:dJ wx p T)(u:gJ kv vv wx g i hs lf):¬T.M p i:=by
 rintro(j|j|j|j|⟨x,E,j⟩)
 ·exact(CW u).ne h.blk j.symm
 ·exact CV u h.mem j
 ·exact CV u h.key j
 ·exact CV u h.app j
 ·exact CV u (h.inn x E).1 j
theorem dJ.beside(h:dJ wx p T)(u:mP g wx wy)(E:jr wx g)(hn:¬T.M p g):dJ wy p T:=by
 obtain⟨I,R,aa,ab⟩:=h.rest u E;exact{h with blk:=I,mem:=h.mem.mut u (fun e=>hn (.inr (.inl e.symm))),key:=h.key.mut u (fun e=>hn (.inr (.inr (.inl e.symm)))),app:=h.app.mut u (fun e=>hn (.inr (.inr (.inr (.inl e.symm))))),inn:=fun x j=>⟨(h.inn x j).1.mut u (fun e=>hn (.inr (.inr (.inr (.inr ⟨x,j,e.symm⟩))))),(h.inn x j).2.1,R x j⟩,mr:=aa,po:=ab}
theorem lu.beside(h:lu w p S e r ak G3 G6 G8 T wx)(u:mP g wx wy)(j:jr wx g)(E:w.heap.size<=g)(hn:¬T.M p g):lu w p S e r ak G3 G6 G8 T wy:=
 {h with st:=h.st.beside u j hn,mu:=h.mu.trans u (fun x I R=>by omega),be:=h.be.mut u (j.ne h.be),bb:=h.bb.mut u (j.ne h.bb),ba:=h.ba.mut u (j.ne h.ba),rh:=h.rh.fF u (.inr j),ok:=h.ok.fF u (.inr j) h.off}
end
def IE(t:Int)(y:aj×dX):Bool:=decide (t - y.2.t<=86400)
def wS(t:Int)(l:List (aj×dX)):List (aj×dX):=l.filter (IE t)
theorem abh(t:Int)(l:List (aj×dX)):kM (wS t l)=Aq t (kM l):=by
 unfold kM wS Aq;rw[filter_map];rfl
theorem abj(t:Int)(A:List (aj×(Nat×List (aj×dX)))):(mV (wS t) [] A).map (fun x=>(x.1,kM x.2.2))=(A.map fun x=>(x.1,kM x.2.2)).map fun y=>(y.1,Aq t y.2):=by
 unfold mV;rw[map_map,map_map];refine map_congr_left fun x j=> ?_;show((if x.1∈[]then x else(x.1,(x.2.1,wS t x.2.2))).1,kM (if x.1∈[]then x else(x.1,(x.2.1,wS t x.2.2))).2.2)=(x.1,Aq t (kM x.2.2));rw[if_neg aF,abh]
theorem L_:iH prog 164 2:=⟨⟨_,underlying164,F⟩,au⟩
theorem Au{α:Type}{l j:List α}{x:α}(h:l.Nodup)(u:l.Perm (x::j)):x∉j/\j.Nodup:=nodup_cons.1 (u.nodup_iff.1 h)
end
theorem abk{K V:Type}[DecidableEq K]{good:K->Prop}{hs:List (K×V)}(h:jc good hs){k:K}(hk:good k)(v u:V):dU (dU hs k v) k u=dU hs k u:=by
 have hn:=(h.set v hk).nodup;cases R:jq k hs with
 |none=>
  have E:∀y:V,dU hs k y=hs++[(k,y)]:=fun y=>by unfold dU;rw[R]
  rw[E]at hn⊢;rw[E];have I:=En hn (j:=hs.length) (k:=k) (v:=v) aF;unfold dU;rw[I];simp
 |some i=>
  have E:∀y:V,dU hs k y=hs.set i (k,y):=fun y=>by unfold dU;rw[R]
  rw[E]at hn⊢;rw[E];have I:=En hn (j:=i) (k:=k) (v:=v) (by simp[QL R]);unfold dU;rw[I];simp
abbrev uJ:=List (aj×(Nat×List (aj×dX)))
def rV(A:uJ):List (aj×List (aj×(aT×Int))):=A.map fun x=>(x.1,kM x.2.2)
theorem Tt{A:uJ}(k:aj)(g:Nat)(l:List (aj×dX)):rV (dU A k (g,l))=dU (rV A) k (kM l):=
 (Lm (fun y:Nat×List (aj×dX)=>kM y.2) A k (g,l)).symm
theorem abl(l:List (aj×dX))(k:aj)(v:dX):kM (dU l k v)=dU (kM l) k (v.r.l,v.t):=
 (Lm (fun v:dX=>(v.r.l,v.t)) l k v).symm
theorem Tv(A:uJ)(k:aj):bW (rV A) k=(bW A k).map fun y=>kM y.2:=EK (fun y:Nat×List (aj×dX)=>kM y.2) A k
theorem abm{A:uJ}(h:jc wE A):jc wE (rV A):=⟨fun p j=>by
 obtain⟨x,u,rfl⟩:=mem_map.1 j;exact h.good x u,by
 have:=h.nodup;unfold rV;rw[map_map];exact this⟩
theorem abn{A:uJ}(h:jc wE A){k:aj}{g:Nat}{l:List (aj×dX)}(E:bW A k=some (g,l)):∃i,A[i]? =some (k,(g,l))/\
 ∀a v,rV (A.set i (k,(g,dU l a v)))=dU (rV A) k (dU (kM l) a (v.r.l,v.t)):=by
 obtain⟨i,j⟩:=List.getElem?_of_mem (BO E);refine⟨i,j,fun a v=> ?_⟩;have u:dU A k (g,dU l a v)=A.set i (k,(g,dU l a v)):=by
  unfold dU;rw[En h.nodup j]
 rw[<-u,Tt,abl]
theorem abo{a b c n:Nat}{k:aj}{A:uJ}(h:(a::b::c::A.map (fun x=>x.2.1)).Nodup)(ha:a<n)(hb:b<n)(hc:c<n)(I:∀x∈A,x.2.1<n)(R:bW A k=none):(a::b::c::(dU A k (n,([]:List (aj×dX)))).map (fun x=>x.2.1)).Nodup:=by
 have E:dU A k (n,([]:List (aj×dX)))=A++[(k,(n,[]))]:=by
  unfold dU;cases j:jq k A with
  |none=>rfl
  |some i=>
   have:=(YK (hs:=A) (k:=k));rw[R,j]at this;cases this
 rw[E,map_append];show((a::b::c::A.map (fun x=>x.2.1))++[n]).Nodup;rw[nodup_append];refine⟨h,aF,fun x j y u=> ?_⟩;simp only[mem_singleton]at u;subst u;simp only[mem_cons,mem_map]at j;rcases j with rfl|rfl|rfl|⟨q,aa,rfl⟩
 ·omega
 ·omega
 ·omega
 ·have:=I q aa;omega
theorem Tz(w:World):(zeroValue 162).run prog w= .ok (.map none) w:=au
theorem abp(sa:aN)(sn sc:Nat)(t:Int):prog.built 164 [(0,Value.slice sa sn sc),(1,Value.int .i64 t)]=some #[Value.slice sa sn sc,Value.int .i64 t]:=au
theorem abq{o:Oper}{a:Act}{j u:Operand}{sa:aN}{sn sc:Nat}{t:Int}(ab:o.op= .build 164 #[(0,j),(1,u)])(E:a.eval j=Value.slice sa sn sc)(I:a.eval u=Value.int .i64 t)(w:World):(execOp a.eval o).run prog w= .ok (.value (.agg #[Value.slice sa sn sc,Value.int .i64 t])) w:=by
 have h:=run_build (P:=prog) w 164 #[(0,Value.slice sa sn sc),(1,Value.int .i64 t)] _ (abp sa sn sc t);have aa:(#[(0,j),(1,u)].map fun(r:Nat×Operand)=>(r.1,a.eval r.2))= #[(0,Value.slice sa sn sc),(1,Value.int .i64 t)]:=by simp[E,I]
 unfold execOp;simp only[ab,Sem.run_bind];have R:(Instr.build 164 (#[(0,j),(1,u)].map fun(r:Nat×Operand)=>(r.1,a.eval r.2))).run prog w= .ok (.agg #[Value.slice sa sn sc,Value.int .i64 t]) w:=by rw[aa];exact h
 rw[R];rfl
theorem TA{p n:Nat}{T:aV}{A:uJ}(h:∀x∈A,(∃y∈T.av,x.2.1=y.2.1)∨n<=x.2.1):∀k,aV.M {T with av:=A} p k->T.M p k∨n<=k:=by
 rintro k (j|j|j|j|⟨x,E,j⟩)
 ·exact .inl (.inl j)
 ·exact .inl (.inr (.inl j))
 ·exact .inl (.inr (.inr (.inl j)))
 ·exact .inl (.inr (.inr (.inr (.inl j))))
 ·rcases h x E with⟨y,I,e⟩|u
  ·exact .inl (.inr (.inr (.inr (.inr ⟨y,I,j.trans e⟩))))
  ·exact .inr (j▸u)
theorem abr(S:dw)(e:aG)(x:bZ):(S.act e x).cnt=S.cnt:=by
 unfold dw.act;simp only
 repeat' split
 all_goals rfl
section
open Go Go.RowKit
section
variable {w w':World} {p B:Nat} {T:aV} {r:Option Nat}
theorem bJ.row{a:aN}{xs:aO}{n z:Nat}(h:bJ w B a xs)(R:xs.length=z*n)(aa:∀g,r=some g->iC g a n)(k:w.grownBy w' r):bJ w' B a xs:=by
 rcases h with h|⟨b,off,ha,hb,hc⟩
 ·exact .inl h
 by_cases E:n=0
 ·subst E;exact .inl (length_eq_zero_iff.1 (by rw[R,Nat.mul_zero]))
 refine .inr ⟨b,off,ha,hb,fun i u ab=> ?_⟩;have I:=hc i u ab;refine wu I (k.block b (block_lt_of_cell I) fun e=> ?_);rcases aa b e.symm with j|j
 ·exact E j
 ·exact j _ ha F
theorem aK.row{a:aN}{xs:aO}{n z:Nat}(h:aK w a xs)(j:xs.length=z*n)(u:∀g,r=some g->iC g a n)(k:w.grownBy w' r):aK w' a xs:=by
 rcases h with h|⟨b,off,ha,hc⟩
 ·exact .inl h
 ·exact(bJ.row (B:=0) (.inr ⟨b,off,ha,Nat.zero_le _,hc⟩) j u k).cells
theorem iF.Hi.row{j:iF}(h:j.Hi w B)(u:∀g,r=some g->iC g j.a j.n)(k:w.grownBy w' r):j.Hi w' B:=
 ⟨h.hl,h.nc,h.n16,h.sz,h.cell.row (z:=1) (by rw[length_map,h.hl,Nat.one_mul]) u k⟩
theorem oG.Hi.row{P:oG}(h:P.Hi w B)(E:∀g,r=some g->P.q≠g/\iC g P.a P.n/\∀x∈P.rs,iC g x.ra x.rn/\iC g x.aa x.an/\iC g x.la x.ln)(k:w.grownBy w' r):P.Hi w' B:=by
 have I:∀x∈P.rs,bJ w' B x.ra (x.roles.map bM)/\bJ w' B x.aa (x.acts.map lN)/\bJ w' B x.la (x.labels.map bM):=fun x j=>
  ⟨(h.jF x j).1.row (z:=1) (by rw[length_map,(h.rM x j).rl,Nat.one_mul]) (fun g u=>((E g u).2.2 x j).1) k,
   (h.jF x j).2.1.row (z:=1) (by rw[length_map,(h.rM x j).al,Nat.one_mul]) (fun g u=>((E g u).2.2 x j).2.1) k,
   (h.jF x j).2.2.row (z:=1) (by rw[length_map,(h.rM x j).ll,Nat.one_mul]) (fun g u=>((E g u).2.2 x j).2.2) k⟩
 exact⟨h.blk.grown k (fun e=>(E _ e.symm).1 F),h.ge,h.hl,h.nc,h.n100,h.cell.row (z:=8) (by rw[Hg,h.hl]) (fun g u=>(E g u).2.1) k,
  fun x j=>{h.rM x j with nU:=(I x j).1.cells,mF:=(I x j).2.1.cells,sN:=(I x j).2.2.cells},I⟩
theorem dJ.row(h:dJ w p T)(ab:r≠some p)(aa:∀g,r=some g->¬jr w g)(E:∀g,r=some g->T.Off g)(k:w.grownBy w' r):dJ w' p T:=by
 have hn:∀{g:Nat},jr w g->some g≠r:=fun u e=>aa _ e.symm u;exact{h with
  blk:=h.blk.grown k (fun e=>ab e.symm),mem:=h.mem.grown k (hn h.Ar),key:=h.key.grown k (hn h.Ip),app:=h.app.grown k (hn h.EN),
  inn:=fun x j=>⟨(h.inn x j).1.grown k (hn (h.EO j)),(h.inn x j).2.1,fun y I=>⟨((h.inn x j).2.2 y I).1.row (fun g u=>(E g u).av x j y I) k,((h.inn x j).2.2 y I).2⟩⟩,
  mr:=fun x j=>(h.mr x j).row (fun g u=>(E g u).ms x j) k,po:=fun P R=>(h.po P R).row (fun g u=>(E g u).po P R) k}
theorem EU{e:TypeId}{z n:Nat}{v:Value}{xs:aO}(h:w.ownsRow B e z v n xs):∀g,v.ownBlock=some g->¬jr w g:=by
 intro g u hn;rcases h.2 with⟨rfl,_⟩|⟨g1,I,R,rfl,_,E,_⟩
 ·cases u
 simp only[Value.ownBlock,Option.some.injEq]at u;subst u;obtain⟨o,j,hc⟩:=hn;rw[E]at j;injection j with j;exact hc _ _ _ j.symm
theorem yU{a:aN}{xs:aO}{n g:Nat}(h:aK w a xs)(E:xs.length=0->n=0)(I:w.heap.size<=g):iC g a n:=by
 rcases h with h|⟨b,off,ha,hc⟩
 ·exact .inl (E (by rw[h];rfl))
 by_cases u:xs=[]
 ·exact .inl (E (by rw[u];rfl))
 refine .inr fun A j=> ?_;rw[ha]at j;injection j with j;rw[<-j];obtain⟨x,l,rfl⟩:=exists_cons_of_ne_nil u;have:=block_lt_of_cell (hc 0 x F);show b≠g;simp only at this;omega
theorem dJ.H_(h:dJ w p T){g:Nat}(E:w.heap.size<=g):T.Off g where
 ms x j:=yU (h.mr x j).cell.cells (fun e=>by rw[length_map,(h.mr x j).hl]at e;exact e) E
 av x j y hy:=yU ((h.inn x j).2.2 y hy).1.cell.cells (fun e=>by rw[length_map,((h.inn x j).2.2 y hy).1.hl]at e;exact e) E
 po P u:=by
  have u:=h.po P u;refine⟨by have:=u.blk.lt;omega,yU u.cell.cells (fun e=>by rw[Hg,u.hl]at e;omega) E,fun x j=>⟨?_,?_,?_⟩⟩
  ·exact yU (u.jF x j).1.cells (fun e=>by rw[length_map,(u.rM x j).rl]at e;exact e) E
  ·exact yU (u.jF x j).2.1.cells (fun e=>by rw[length_map,(u.rM x j).al]at e;exact e) E
  ·exact yU (u.jF x j).2.2.cells (fun e=>by rw[length_map,(u.rM x j).ll]at e;exact e) E
theorem aG.Ok.row{e:aG}(h:e.Ok w)(j:∀g,r=some g->iC g e.ba e.bn)(k:w.grownBy w' r):e.Ok w':=
 {h with hcl:=h.hcl.row (z:=1) (by rw[length_map,h.hb,Nat.one_mul]) j k}
theorem aG.Ok.mut{M:Nat->Prop}{e:aG}(h:e.Ok w)(m:gB M w w')(I:∀g,M g->g=p∨jr w g)(R:CU p e):e.Ok w':=by
 refine{h with hcl:= ?_};rcases h.hcl with u|⟨b,off,ha,u⟩
 ·exact .inl u
 refine .inr ⟨b,off,ha,fun i x aa=> ?_⟩;have j:=u i x aa;refine wu j (m.block b (block_lt_of_cell j) (fun hb=> ?_));rcases I b hb with E|E
 ·exact R _ ha E
 ·rw[E.cell]at j;cases j
theorem abt{M:Nat->Prop}{e:TypeId}{z n:Nat}{v:Value}{xs:aO}(h:w.ownsRow B e z v n xs)(m:gB M w w')(ab:∀g,v.ownBlock=some g->¬M g):w'.ownsRow B e z v n xs:=by
 refine⟨h.1,?_⟩;rcases h.2 with I|⟨g1,u,E,rfl,R,j,aa⟩
 ·exact .inl I
 ·exact .inr ⟨g1,u,E,F,R,(m.block g1 (Array.getElem?_eq_some_iff.1 j).1 (ab g1 F)).trans j,aa⟩
end
inductive o_:List aG->dw->Prop
 |nil:o_ [] dw.zero
 |snoc {es:List aG} {S:dw} {e:aG}:o_ es S->S.ref e=0->o_ (es++[e]) (S.next e)
theorem dJ.notM{w:World}{p g:Nat}{S:aV}{vs:aO}{E:TypeId}(h:dJ w p S)(hb:ah w g vs E)(R:E≠147):¬S.M p g:=by
 intro I;rcases h.Iz I with u|u
 ·subst u;have j:=h.blk;unfold ah at hb j;rw[hb]at j;injection j with j;injection j with _ j _;exact R j
 ·exact u.ne hb F
structure wU(w0 w:World)(gj gs go p:Nat)(S:aV)(v:Value)(es:List aG):Prop where
 st:dJ w p S
 bj:ah w gj [.bool false] 4
 bs:ah w gs [.pointer (some ⟨p,0,none⟩)] 25
 bo:ah w go [v] 24
 own:w.ownsRow w0.heap.size 34 68 v es.length (iM es)
 off:∀g,(v.ownBlock=some g∨g=go)->S.Off g
 ok:∀e∈es,e.Ok w
 eo:∀e∈es,∀g,(v.ownBlock=some g∨g=go)->iC g e.ba e.bn
 ep:∀e∈es,CU p e
 ch:o_ es S.p
 ex:X w0 w
 hi:∀g,S.M p g->w0.heap.size<=g
 go0:w0.heap.size<=go
section
variable {w0 w w':World} {gj gs go p:Nat} {S:aV} {v:Value} {es:List aG}
theorem wU.ext(h:wU w0 w gj gs go p S v es)(e:X w w'):wU w0 w' gj gs go p S v es:=
 {h with st:=h.st.ext e,bj:=h.bj.ext e,bs:=h.bs.ext e,bo:=h.bo.ext e,own:=dQ h.own e,ok:=fun x j=>(h.ok x j).ext e,ex:=h.ex.ext e}
theorem wU.apply(h:wU w0 w gj gs go p S v es){T:aV}(aa:dJ w' p T)(m:gB (S.M p) w w')(hn:∀g,T.M p g->S.M p g∨w.heap.size<=g)(ab:∀g,g<w.heap.size->S.Off g->T.Off g):
 dJ w' p T/\ah w' gj [.bool false] 4/\ah w' gs [.pointer (some ⟨p,0,none⟩)] 25/\ah w' go [v] 24/\w'.ownsRow w0.heap.size 34 68 v es.length (iM es)/\
  (∀g,(v.ownBlock=some g∨g=go)->T.Off g)/\(∀e∈es,e.Ok w')/\X w0 w'/\(∀g,T.M p g->w0.heap.size<=g):=by
 have I:∀g,S.M p g->g=p∨jr w g:=fun g j=>h.st.Iz j;have ac:∀g,v.ownBlock=some g->¬S.M p g:=by
  intro g j E;rcases I g E with u|u
  ·subst u;exact GU h.own h.st.blk aX j
  ·exact EU h.own g j u
 exact⟨aa,h.bj.mut m (h.st.notM h.bj aX),h.bs.mut m (h.st.notM h.bs aX),h.bo.mut m (h.st.notM h.bo aX),abt h.own m ac,fun g j=>ab g (j.elim (fun j=>(h.own.lt g j).2) (fun j=>j▸h.bo.lt)) (h.off g j),
  fun e R=>(h.ok e R).mut m I (h.ep e R),m.Ep h.ex (fun x ad E=>by have:=h.hi x E;omega),fun g j=>(hn g j).elim (h.hi g) (fun u=>Nat.le_trans h.ex.size u)⟩
end
end
theorem TB{x:Nat}(h:4611686018427387904<x)(j:x<18446744073709551616):kK x<0∨1099511627776<kK x:=by
 unfold kK;simp only[IntKind.wrap_i64];omega
theorem IG{w w':World}{B b:Nat}{e T:TypeId}{z n:Nat}{v:Value}{xs vs:aO}(h:w.ownsRow B e z v n xs)(u:aU w b w')(hb:ah w b vs T)(ac:e≠T):w'.ownsRow B e z v n xs:=by
 refine⟨h.1,?_⟩;rcases h.2 with h|⟨g,E,cu,I,R,j,aa⟩
 ·exact .inl h
 ·have ab:g≠b:=by
   rintro rfl;unfold ah at hb;rw[j]at hb;injection hb with hb;injection hb with _ hb;exact ac hb
  exact .inr ⟨g,E,cu,I,R,(u.block g ab).trans j,aa⟩
theorem TD{l:aj}{p M k:Nat}(h:k+4<=M):iW ((l.drop p).take M) k=iW l (p+k):=by
 unfold iW;have e:∀j,j<4->((l.drop p).take M)[k+j]? =l[p+k+j]? :=fun j E=>by
  rw[List.getElem?_take_of_lt J,List.getElem?_drop,Nat.add_assoc]
 have u:=e 0 J;rw[Nat.add_zero,Nat.add_zero]at u;rw[u,e 1 J,e 2 J,e 3 J]
theorem TF{l:aj}{p M k:Nat}(h:k+8<=M):fE ((l.drop p).take M) k=fE l (p+k):=by
 unfold fE;rw[TD J,TD J,<-Nat.add_assoc]
theorem TG(j:aj)(M k:Nat)(h:k+8<=M):∃E u:Int,vW j M (k:Int)= .tuple #[.int .i64 E,.int .i64 u]/\((u=0/\E=(fE j k:Nat)/\fE j k<=4611686018427387904)∨(u=4/\4611686018427387904<fE j k)):=by
 unfold vW;rw[if_pos (by unfold g_;rw[if_neg J,if_neg J]),Int.toNat_natCast];by_cases h:fE j k<=4611686018427387904
 ·rw[if_pos h];exact⟨_,_,F,.inl ⟨F,F,h⟩⟩
 ·rw[if_neg h];exact⟨_,_,F,.inr ⟨F,J⟩⟩
theorem abu{x:dW}(h:dR x.num 0 65535=true∨dR x.time 0 1099511627776=true):jX x=4:=by
 unfold jX dN dW.r;simp only;rw[if_pos (by simpa using h)]
theorem TI{x:dW}{e:Int}{j:dW×Int×Int}(h:(if jX x=0 then(x,e,0)else(u_,0,jX x))=j):(jX x=0/\j=(x,e,0))∨(jX x≠0/\j=(u_,0,jX x)):=by
 by_cases q:jX x=0
 ·rw[if_pos q]at h;exact .inl ⟨q,h.symm⟩
 ·rw[if_neg q]at h;exact .inr ⟨q,h.symm⟩
theorem abv{x:dW}{e:Int}{j:dW×Int×Int}(h:(jX x=0/\j=(x,e,0))∨(jX x≠0/\j=(u_,0,jX x)))(u:jX x=4):j=(u_,0,4):=by
 rcases h with⟨h, -⟩|⟨-,h⟩
 ·omega
 ·rw[h,u]
theorem abw{A:Int}(h:A<0∨1099511627776<A):dR A 0 1099511627776=true:=by
 unfold dR;rcases h with h|h
 ·rw[aQ h];rfl
 ·rw[aQ h,Bool.or_true]
theorem abx{A:Int}(h:A<0∨1099511627776<A):dR A 0 65535=true:=by
 unfold dR;rcases h with h|h
 ·rw[aQ h];rfl
 ·rw[aQ (show 65535<A by omega),Bool.or_true]
theorem aby{l:aj}{p N:Nat}(h:4611686018427387904<fE l (p+4)∨4611686018427387904<fE l (p+12)):jX (wQ l p N)=4:=by
 refine abu ?_;rcases h with h|h
 ·exact .inl (abx (TB h (JQ _ _)))
 ·exact .inr (abw (TB h (JQ _ _)))
theorem Mc{P:Program}{o:Oper}{a:Act}{t e:TypeId}{x y:Operand}{p q:aN}{n c k z:Nat}(u:qX p c k z=q)(j:o.op= .slice t x (some y) none none)(I:a.eval x= .slice p n c)(R:a.eval y= .int .i64 (k:Int))(E:P.underlying t=some (.slice e))(hs:(P.info? e).map (·.size)=some z)(hk:k<=n)(w:World):
 (execOp a.eval o).run P w= .ok (.value (.slice q (n - k) (c - k))) w:=by
 rw[<-u];exact Jr j I R E hs hk w
theorem abz(l:aj)(a:aN)(n c:Nat)(at_:Int)(w:World)(cG:l.length=n)(fh:n<=c)(hn:n<=140737488355328)(hc:c<=9223372036854775807)(d3:aK w a (l.map Y)):
 Calls prog 55 #[.slice a n c,.int .i64 at_] w (Le l at_ w):=by
 obtain⟨an,bu,ab⟩:=aW cG d3 (fun w' h=>aak l a n c at_ w' cG fh hn h);have en:=fun E w' h e=>SB (l:=l) (at_:=at_) (w:=w) (w':=w') (E:=E) h e;have a1:=O en;obtain⟨eW,u⟩:=aC (fQ l at_);rw[u]at a1;have c4:=O u;unfold fQ at u;obtain⟨E,b2⟩:=aC (qI l at_);rw[b2]at ab u;clear d3 en;by_cases q:E=0
 rotate_left
 ·rw[if_pos q]at u;have fn:(E != 0)=true:=by simpa using q
  rw[if_neg q]at ab;have aa:=O u.symm;clear u q b2;go_enter func55,ntmps55;go_upto_region 1 with(fail);generalize ag:World.alloc w _=ai;have aE:ah ai w.heap.size dS.v 34:=by rw[<-ag];exact ah.aI F F
  have az:X w ai:=by rw[<-ag];exact(X.refl w).alloc _
  obtain⟨ax,ae⟩:=aB aE az;clear ag aE az;go_wp2_with fail;refine(ab ai (bu.ext ae)).mono ?_;rintro x cR ⟨rfl,af⟩;obtain⟨a7,a0⟩:=aB (ax.ext af) (ae.ext af);clear af ax ae ab;go_wp2_with (refine bg F _ _ _ F F F a7 cZ dZ (xs:=dS.v) dZ (i_ dS) ?_);intro be cm bd;go_wp2_with fail;exact qJ F F cm cZ dZ F (a1 E _ aa (bd.ext a0 bG))
 rw[if_neg (by simpa using q)]at u;rw[if_pos q]at ab;obtain⟨p,rfl,fi,fg,e'⟩:=aaj (b2.trans q);rw[Int.toNat_natCast]at u ab;obtain⟨N,dC⟩:=aC (nH l p);rw[dC]at u ab e';subst q;rw[cG]at u fi;clear b2 fg dC;have fs:IntKind.i64.wrap ((n:Int) - p)=(n:Int) - p:=IntWalk.i64_in _ J;by_cases cL:n<p+121+N
 ·rw[if_pos cL]at u;have aa:=O u.symm;have cp:decide ((n:Int) - p<((121+N:Nat):Int))=true:=aQ J;clear u cL;obtain⟨M,cy⟩:=aC (121+N);rw[cy]at ab cp;go_enter func55,ntmps55;go_upto_region 1 with(fail);generalize ag:World.alloc w _=ai;have aE:ah ai w.heap.size dS.v 34:=by rw[<-ag];exact ah.aI F F
  have az:X w ai:=by rw[<-ag];exact(X.refl w).alloc _
  obtain⟨ax,ae⟩:=aB aE az;clear ag aE az;go_wp2_with fail;refine(ab ai (bu.ext ae)).mono ?_;rintro x cR ⟨rfl,af⟩;obtain⟨a7,a0⟩:=aB (ax.ext af) (ae.ext af);clear af ax ae ab;go_wp2_with (refine bg F _ _ _ F F F a7 cZ dZ (xs:=dS.v) dZ (i_ dS) ?_);intro be cm bd;go_wp2_with fail;exact qJ F F cm cZ dZ F (a1 1 _ aa (bd.ext a0 bG))
 rw[if_neg cL]at u;have cp:decide ((n:Int) - p<((121+N:Nat):Int))=false:=aP J;obtain⟨b,off,rfl,b8⟩:=bu.gQ (by rw[length_map,an.out];omega);have ef:dL (some ⟨b,off,none⟩) c p=some ⟨b,off+p,none⟩:=by unfold dL;rw[if_neg J,Option.map_some,dn]
 have eL:=O ef;obtain⟨K,dv⟩:=aC (89+N);obtain⟨M,cy⟩:=aC (121+N);obtain⟨S,b5⟩:=aC (dY 3 ((l.drop p).take K));obtain⟨a2,b6⟩:=aC ((l.drop (p+K)).take 32);have ek:Cm l p N=(S==a2):=by unfold Cm;rw[dv,Nat.add_assoc,dv,b5,b6]
 rw[ek]at u;rw[cy]at ab cp;have cC:S.length=32:=by rw[<-b5];exact j_ _ _
 have cA:a2.length=32:=by rw[<-b6,length_take,length_drop,an.out];omega
 have cI:=O (fun w' h=>Gf 3 ((l.drop p).take K) K (c - p) (some ⟨b,off+p,none⟩) w' (by rw[length_take,length_drop,an.out];omega) J J (fun h=>by cases h) h);have el:uX 3 ((l.drop p).take K) K= .tuple #[.agg (S.map Y).toArray,.int .i64 0]:=by
  unfold uX;rw[if_neg J,if_pos J,b5]
 rw[el]at cI;obtain⟨d8,c7,c8⟩:=aW (fun w=>vY underlying31 S a2 cC cA w) (show(S.map Y).length=32 by rw[length_map,cC]) (show(a2.map Y).length=32 by rw[length_map,cA]);have ep:=b_ S;have dg:aK w (some ⟨b,off+p,none⟩) (((l.drop p).take K).map Y):=xW b8 p K;have di:dP w ⟨b,off+p+K*1,none⟩ (a2.map Y):=by
  rw[<-b6,Nat.mul_one,Nat.add_assoc];exact xU b8 (p+K) 32
 obtain⟨cU,cV,a6⟩:=aW dg di b8;have fw:IntKind.i64.wrap ((p:Int)+(M:Int))=((p+M:Nat):Int):=by rw[IntWalk.i64_in _ J];omega
 have fv:IntKind.i64.wrap ((M:Int) - 32)=(K:Int):=by rw[IntWalk.i64_in _ J];omega
 have fd:p+M<=c:=J;have dy:K<=c - p:=J;have fp:M - K=32:=J;have em:qX (some ⟨b,off+p,none⟩) (c - p) K 1=some ⟨b,off+p+K*1,none⟩:=by unfold qX;rw[if_neg J,Option.map_some,dn]
 obtain⟨eS,ac⟩:=aB em u;clear b8 ef b5 b6 ek el cC cA dg di em u;go_enter func55,ntmps55;go_upto_region 1 with(fail);generalize ag:World.alloc w _=ai;have aE:ah ai w.heap.size dS.v 34:=by rw[<-ag];exact ah.aI F F
 have az:X w ai:=by rw[<-ag];exact(X.refl w).alloc _
 obtain⟨ax,ae⟩:=aB aE az;clear ag aE az;go_wp2_with fail;refine(ab ai (bu.ext ae)).mono ?_;rintro x cR ⟨rfl,af⟩;obtain⟨a7,a0⟩:=aB (ax.ext af) (ae.ext af);clear af ax ae ab;go_wp2_with (first|(refine bF F (oV (k:=p) (h:=p+M) F F F F underlying32 gu J fd eL _) ?_)|(refine bF F (zB (k:=K) F F F underlying32 gu dy _) ?_));refine(cI cR (cU.ext a0)).mono ?_;rintro x ca ⟨rfl,a4⟩;obtain⟨cj,c1⟩:=aB (a7.ext a4) (a0.ext a4);clear a4 a7 a0 cI cU;go_wp2_with (refine bg F _ _ _ F F F (ah.aI (vs:=List.replicate 32 (.int .u8 0)) F F) qA aF c7 ep ?_);intro be et bd;have a4:X ca be:=bd.ext ((X.refl ca).alloc _) bG;obtain⟨ci,c0,bv⟩:=aW (cj.ext a4) (c1.ext a4) et;have ff:w.heap.size<ca.heap.size:=cj.lt;clear bd a4 et cj c1 ep;obtain⟨gs,d7⟩:=aC ca.heap.size;rw[d7]at bv ff⊢;clear d7;go_upto_region 9 with(fail);obtain⟨C,R,aJ,bP⟩:=iw (show bT w be [w.heap.size,gs] [] be from bT.jA c0 (dV.two ci.lt bv.lt));have bm:∀j,C j->dP j ⟨gs,0,none⟩ (S.map Y):=fun j I=>dP.of (aK.eG (((R j).1 I).blk bv aF));have bo:∀j,C j->dP j ⟨b,off+p+K*1,none⟩ (a2.map Y):=fun j I=>cV.ext ((R j).1 I).base;refine fJ fun Z=> ?_;refine bD 0 F (bf F (fun j h=>bQ F F (bm j h) qA c7)) ?_;refine aA 1 ?_;refine aA 2 ?_;refine bD 3 F (bf F (fun j _=>Mc (k:=K) eS F F F underlying32 gu J j)) ?_;refine bD 4 F (bf F (fun j _=>rC (n:=32) F F underlying31 J j)) ?_;refine bD 5 F (bf F (fun j h=>bQ F F (bo j h) qA c8)) ?_;refine bD 6 F (bf F (fun j _=>jm F F F EI d8 j)) ?_;generalize be.drew=cS at*;have ck:=O (((R cS).1 Z).blk ci aF);have bt:=O ((R cS).1 Z).base
 clear Z R aJ bP bm bo ci c0 bv cV c8 d8;refine dH ?_;cases cM:(S==a2)with
 |false=>
  have aa:=O (show eW=(u_,0,13) by have h:=ac.out;rw[cM,if_pos F]at h;exact h.symm);clear ac;go_wp2_with (refine bg F _ _ _ F F F ck cZ dZ (xs:=dS.v) dZ (i_ dS) ?_);intro ex e3 fj;go_wp2_with fail;exact qJ F F e3 cZ dZ F (a1 13 _ aa (fj.ext bt bG))
 |true=>
 have u:=ac.out;rw[cM,if_neg aX]at u;replace u:=TI u;clear ac cM;obtain⟨am,b7⟩:=aC ((l.drop p).take M);have d1:am.length=M:=by rw[<-b7,length_take,length_drop,an.out];omega
 have d0:fE am 4=fE l (p+4):=by rw[<-b7];exact TF J
 have dT:fE am 12=fE l (p+12):=by rw[<-b7];exact TF J
 obtain⟨dq,bc,d',a9⟩:=TG am M 4 J;obtain⟨ev,br,eb,a_⟩:=TG am M 12 J;rw[d0]at a9;rw[dT]at a_;have dj:∀w',X w w'->aK w' (some ⟨b,off+p,none⟩) (am.map Y):=fun w' e=>by rw[<-b7];exact(xW a6 p M).ext e
 obtain⟨cE,cF⟩:=aB (fun w' h=>Jz am (some ⟨b,off+p,none⟩) M (c - p) 4 w' d1 J J h) (fun w' h=>Jz am (some ⟨b,off+p,none⟩) M (c - p) 12 w' d1 J J h);have ea:vW am M 4= .tuple #[.int .i64 dq,.int .i64 bc]:=d';have ec:vW am M 12= .tuple #[.int .i64 ev,.int .i64 br]:=eb;rw[ea]at cE;rw[ec]at cF;have cW:=O dj;clear d' eb ea ec dj d0 dT;go_wp2_with fail;refine(cE cS (cW _ bt)).mono ?_;rintro x ex ⟨rfl,cr⟩;obtain⟨db,a5⟩:=aB (ck.ext cr) (bt.ext cr);clear cr ck bt cE;go_wp2_with fail;refine(cF ex (cW _ a5)).mono ?_;rintro x cT ⟨rfl,cs⟩;obtain⟨a3,bh⟩:=aB (db.ext cs) (a5.ext cs);clear cs db a5 cF;by_cases bp:bc=0/\br=0
 rotate_left
 ·have d2:4611686018427387904<fE l (p+4)∨4611686018427387904<fE l (p+12):=by
   rcases a9 with⟨I, -, -⟩|⟨-,I⟩
   ·rcases a_ with⟨ap, -, -⟩|⟨-,ap⟩
    ·exact absurd ⟨I,ap⟩ bp
    ·exact .inr ap
   ·exact .inl I
  have a8:jX (wQ l p N)=4:=aby d2;have aa:=O (abv u a8);have cq:((bc != 0)||(br != 0))=true:=by
   by_cases I:bc=0
   ·have ap:br≠0:=fun ap=>bp ⟨I,ap⟩;simp[I,ap]
   ·simp[I]
  clear u a8 a9 a_ d2;by_cases I:bc=0
  ·subst I;have ap:(br != 0)=true:=by simpa using cq
   clear bp cq;go_wp2_with (refine bg F _ _ _ F F F a3 cZ dZ (xs:=dS.v) dZ (i_ dS) ?_);intro fm cn cQ;go_wp2_with fail;exact qJ F F cn cZ dZ F (a1 4 _ aa (cQ.ext bh bG))
  ·have I:(bc != 0)=true:=by simpa using I
   clear bp cq;go_wp2_with (refine bg F _ _ _ F F F a3 cZ dZ (xs:=dS.v) dZ (i_ dS) ?_);intro fm cn cQ;go_wp2_with fail;exact qJ F F cn cZ dZ F (a1 4 _ aa (cQ.ext bh bG))
 obtain⟨rfl,rfl⟩:=bp;obtain⟨rfl,a9⟩:dq=(fE l (p+4):Nat)/\fE l (p+4)<=4611686018427387904:=by rcases a9 with⟨-,h,ct⟩|⟨h, -⟩;exact⟨h,ct⟩;cases h
 obtain⟨rfl,a_⟩:ev=(fE l (p+12):Nat)/\fE l (p+12)<=4611686018427387904:=by rcases a_ with⟨-,h,ct⟩|⟨h, -⟩;exact⟨h,ct⟩;cases h
 have ba:∃ad,l[p+20]?.getD 0=ad:=⟨_,F⟩;obtain⟨ad,ba⟩:=ba;obtain⟨aq,bw⟩:=aC ((l.drop (p+21)).take 16);obtain⟨ar,bx⟩:=aC ((l.drop (p+37)).take 16);obtain⟨aw,bz⟩:=aC ((l.drop (p+53)).take 32);obtain⟨al,b0⟩:=aC ((l.drop (p+89)).take N);have cv:aq.length=16:=by rw[<-bw,length_take,length_drop,an.out];clear u;omega
 have cw:ar.length=16:=by rw[<-bx,length_take,length_drop,an.out];clear u;omega
 have cx:aw.length=32:=by rw[<-bz,length_take,length_drop,an.out];clear u;omega
 have dr:al.length=N:=by rw[<-b0,length_take,length_drop,an.out];clear u;omega
 have d5:wQ l p N=⟨(fE l (p+4):Nat),(fE l (p+12):Nat),(ad.toNat:Int),aq,ar,aw,al⟩:=by
  unfold wQ;rw[DW (by clear u;omega),DW (by clear u;omega),ba,bw,bx,bz,b0]
 rw[d5]at u;have dk:dP w ⟨b,off+p+21,none⟩ (aq.map Y):=by rw[<-bw,Nat.add_assoc];exact xU a6 (p+21) 16
 have dl:dP w ⟨b,off+p+37,none⟩ (ar.map Y):=by rw[<-bx,Nat.add_assoc];exact xU a6 (p+37) 16
 have dm:dP w ⟨b,off+p+53,none⟩ (aw.map Y):=by rw[<-bz,Nat.add_assoc];exact xU a6 (p+53) 32
 have dp:aK w (some ⟨b,off+p+89,none⟩) (al.map Y):=by rw[<-b0,Nat.add_assoc];exact xW a6 (p+89) N
 have df:w.cell? ⟨b,off+p+20*1,none⟩=some (.int .u8 (ad.toNat:Nat)):=by
  have h:=a6.out (p+20) (Y ad) (by rw[List.getElem?_map];have:l[p+20]? =some (l[p+20]'(by rw[an.out];clear u;omega)):=List.getElem?_eq_getElem _;rw[this]at ba⊢;rw[<-ba];rfl);rw[<-Nat.add_assoc]at h;exact h
 obtain⟨co,cD⟩:=aC (((fE l (p+4):Nat):Int):Int);obtain⟨cN,cJ⟩:=aC (((fE l (p+12):Nat):Int):Int);rw[cD,cJ]at u;rw[cD,cJ];have ac:=O u;clear u;have ft:IntKind.i64.wrap (ad.toNat:Int)=(ad.toNat:Int):=IntWalk.i64_in _ (by have:=ad.toNat_lt;omega);have eg:dL (some ⟨b,off+p,none⟩) (c - p) 21=some ⟨b,off+p+21,none⟩:=by unfold dL;rw[if_neg J,Option.map_some,dn]
 have eh:dL (some ⟨b,off+p,none⟩) (c - p) 37=some ⟨b,off+p+37,none⟩:=by unfold dL;rw[if_neg J,Option.map_some,dn]
 have ei:dL (some ⟨b,off+p,none⟩) (c - p) 53=some ⟨b,off+p+53,none⟩:=by unfold dL;rw[if_neg J,Option.map_some,dn]
 have ej:dL (some ⟨b,off+p,none⟩) (c - p) 89=some ⟨b,off+p+89,none⟩:=by unfold dL;rw[if_neg J,Option.map_some,dn]
 obtain⟨eM,eN,eQ,eR,eA,eC,eE,ez⟩:=jg eg eh ei ej dk dl dm df;have e7:K - 89=N:=J;obtain⟨d4,eI,eJ,eK,cc,cd,ce⟩:=su (fun w' e=>DL al (some ⟨b,off+p+89,none⟩) N (c - p - 89) w' dr J (dp.ext e)) (show(aq.map Y).length=16 by rw[length_map,cv]) (show(ar.map Y).length=16 by rw[length_map,cw]) (show(aw.map Y).length=32 by rw[length_map,cx]) cv cw cx;have fa:37<=c - p:=J;have fb:53<=c - p:=J;have fc:85<=c - p:=J;have e8:20<M:=J;have e6:89<=K:=J;clear eg eh ei ej dk dl dm df dp cv cw cx d5 cD cJ ba a9 a_ bw bx bz b0;go_upto_region 15 with(fail);obtain⟨C,R,aJ,bP⟩:=iw (show bT w cT [w.heap.size] [] cT from bT.jA bh (dV.one a3.lt));have bm:∀j,C j->j.cell? ⟨b,off+p+20*1,none⟩=some (.int .u8 (ad.toNat:Nat)):=fun j I=>gW ez ((R j).1 I).base;have bo:∀j,C j->dP j ⟨b,off+p+21,none⟩ (aq.map Y):=fun j I=>eA.ext ((R j).1 I).base;have ed:∀j,C j->dP j ⟨b,off+p+37,none⟩ (ar.map Y):=fun j I=>eC.ext ((R j).1 I).base;have ee:∀j,C j->dP j ⟨b,off+p+53,none⟩ (aw.map Y):=fun j I=>eE.ext ((R j).1 I).base;refine fJ fun Z=> ?_;refine aA 0 ?_;refine aA 1 ?_;refine aA 2 ?_;refine bD 3 F (bf F (fun j _=>fP (i:=20) F F F underlying32 gu e8 j)) ?_;refine bD 4 F (bf F (fun j h=>kT F F (bm j h) FI)) ?_;refine aA 5 ?_;refine aA 6 ?_;refine bD 7 F (bf F (fun j _=>oV (k:=21) (h:=37) F F F F underlying32 gu J fa eM j)) ?_;refine bD 8 F (bf F (fun j _=>rC (n:=16) F F underlying29 J j)) ?_;refine bD 9 F (bf F (fun j h=>bQ F F (bo j h) dh eI)) ?_;refine aA 10 ?_;refine bD 11 F (bf F (fun j _=>oV (k:=37) (h:=53) F F F F underlying32 gu J fb eN j)) ?_
 refine bD 12 F (bf F (fun j _=>rC (n:=16) F F underlying29 J j)) ?_;refine bD 13 F (bf F (fun j h=>bQ F F (ed j h) dh eJ)) ?_;refine aA 14 ?_;refine bD 15 F (bf F (fun j _=>oV (k:=53) (h:=85) F F F F underlying32 gu J fc eQ j)) ?_;refine bD 16 F (bf F (fun j _=>rC (n:=32) F F underlying31 J j)) ?_;refine bD 17 F (bf F (fun j h=>bQ F F (ee j h) qA eK)) ?_;refine aA 18 ?_;refine aA 19 ?_;refine bD 20 F (bf F (fun j _=>oV (k:=89) (h:=K) F F F F underlying32 gu e6 dy eR j)) ?_;rw[e7];refine zo (B:=World.heap cT |>.size) (A:=23) (d:=17) (T:=34) (vs:=dS.v) (D:=C) undef F aJ (fun _ h=>h) (fun _ h=>((R _).1 h).kept.1) Z ?_;try dsimp only
 refine cO ?_;refine lZ 21 (β:=aN×Nat) (fun z=> .slice z.1 N z.2) (fun z w'=>w'.ownsRow (w.heap.size+1) 5 1 (.slice z.1 N z.2) N (al.map Y)) F F F F (fun _ _=>rfl) au au au F (fun _ _=>jw) ?phi21 ?step21 ?rest21
 case phi21=>exact fun z j w2 h e=>dQ h e
 case step21=>
  intro x j dt c_ b3;have e_:w.heap.size+1<=j.heap.size:=by have:=a3.lt;have:=((R j).1 dt).kept.1;omega
  have e4:=((R j).1 dt).base;clear Z;go_wp2_with fail;refine(d4 j e4).mono ?_;rintro e w2 ⟨v,rfl,own, -,e2⟩;obtain⟨a',c',rfl, -, -, -, -⟩:=nT own;go_wp2_with fail;exact b3 (a',c') _ e2 (mg own e_)
 case rest21=>
 rintro⟨dd,de⟩;refine aH ?_;refine AY 22 F (fun _=>bf F (fun j _=>QH al F F F F F F F F cc cd ce j)) ?_;refine wY F F F (fun _ _=>rfl) au (fun _ _=>jw) ?_;rintro e1 fk ⟨ds,er⟩ eo hb;obtain⟨cf,c2,c9⟩:=aW hb ((R fk).1 ds) er;clear hb ds er bm bo ed ee d4;obtain⟨ao,b4⟩:=jE (⟨co,cN,(ad.toNat:Int),aq,ar,aw,dd,N,de,al⟩:aG);rw[<-b4];obtain⟨c5,bi⟩:=aB b4 (show ao.v.length=68 by rw[b4];unfold aG.v;simp[cc.out,cd.out,ce.out]);clear b4;refine aZ 24 ?_;intro c_ b3;go_wp2_with (refine bg F _ _ _ F F F cf cZ dZ (xs:=ao.v) bi (i_ ao) ?_);intro ew dc cP;have b1:=bT.upd c2 cP eo bh.size;refine b3 _ _ ((R ew).2 b1) ?_;obtain⟨cb,da⟩:=aB dc (b1.blk a3 aF);have cX:=O b1.base;have cg:=O (IG c9 cP cf aX);have fr:w.heap.size<e1:=Nat.lt_of_lt_of_le a3.lt eo;clear b3 c_ cP dc b1 c2 cf bh a3 c9;refine dH ?_;unfold vS;have cH:∀w',w'.ownsRow (w.heap.size+1) 5 1 (.slice dd N de) N (al.map Y)->ao.Ld w' w.heap.size:=by
  intro w' h;obtain⟨a',c',fe,I,ap,e5,a8⟩:=nT h;cases fe;have e9:N<=140737488355328:=by clear a8 ac;omega
  rw[c5.out];refine⟨⟨cc,cd,ce,dr,I,e9,fun h=> ?_,a8⟩,SA h a8 J⟩;have:=e5 h;exact⟨by simp only;omega,this⟩
 have c3:=O cH;have cz:ao.p=⟨co,cN,(ad.toNat:Int),aq,ar,aw,al⟩:=by rw[c5.out];rfl
 have bl:=O (fun w' h=>Qy ao w' h);rw[xH,cz]at bl;have c6:=O cz;obtain⟨e0,dE⟩:=aC ((⟨co,cN,(ad.toNat:Int),aq,ar,aw,al⟩:dW):dW);rw[dE]at ac bl c6;obtain⟨a5,du⟩:=aC (jX e0);rw[du]at ac bl;have d6:((p+121+N:Nat):Int)=((p+M:Nat):Int):=by clear cH;omega
 rw[d6]at ac;clear cH cz dE du d6;go_wp2_with (refine bV F 34 (.tmp 17) F F cb cZ bi ?_);refine(bl ew (c3 _ cg).1).mono ?_;rintro x fx ⟨rfl,bj⟩;obtain⟨ch,ey,cY,eV⟩:=bU (da.ext bj) (cb.ext bj) (cX.ext bj) (dQ cg bj);clear bj da cb cX cg bl;rcases ac.out with⟨b9,bk⟩|⟨b9,bk⟩
 ·subst b9;have aa:=O bk;clear ac bk;go_wp2_with (first|(refine bV F 34 (.tmp 17) F F ey cZ bi ?_)|(refine bg F _ _ _ F F F ch cZ dZ (xs:=ao.v) bi (i_ ao) ?_));intro fl cl b';go_wp2_with fail;refine qJ F F cl cZ bi F ⟨ao,?_,c3 _ (IG eV b' ch aX),?_,b'.ext cY bG⟩
  ·rw[c4.out,aa.out];rfl
  ·rw[c4.out,aa.out,c6.out]
 ·have aa:=O bk;have fo:(a5 != 0)=true:=by simpa using b9
  clear ac bk b9;go_wp2_with (refine bg F _ _ _ F F F ch cZ dZ (xs:=dS.v) dZ (i_ dS) ?_);intro fl cl b';go_wp2_with fail;exact qJ F F cl cZ dZ F (a1 a5 _ aa (b'.ext cY bG))
theorem TJ(a:aN)(n c:Nat)(at_ j:Int)(w:World)(hn:n<=140737488355328)(hc:n<=c)(ae:c<=9223372036854775807)(ab:0<=j)(af:j<=1099511627776):
 Calls prog 98 #[.slice a n c,.int .i64 at_,.int .i64 j] w (yD a n c at_ j w):=by
 by_cases E:at_<0
 ·have u:∀e w',(e=Ending.returned (.tuple #[.slice none 0 0,.int .i64 4])/\w=w')->yD a n c at_ j w e w':=by
   rintro e w' ⟨rfl,rfl⟩;have:g_ n at_ j=4:=by simp[g_,E]
   refine⟨F,?_⟩;rw[if_neg J,this]
  refine Calls.mono ?_ u;clear u;go_enter func98,ntmps98;go_wp2
  go_ret2
  exact⟨F,F⟩
 ·have aa:0<=at_:=J;by_cases ac:(n:Int)<at_
  ·have u:∀e w',(e=Ending.returned (.tuple #[.slice none 0 0,.int .i64 1])/\w=w')->yD a n c at_ j w e w':=by
    rintro e w' ⟨rfl,rfl⟩;have:g_ n at_ j=1:=by simp only[g_,E,if_false];rw[if_pos J]
    refine⟨F,?_⟩;rw[if_neg J,this]
   refine Calls.mono ?_ u;clear u;go_enter func98,ntmps98;go_wp2
   go_ret2
   exact⟨F,F⟩
  ·by_cases ad:(n:Int) - at_<j
   ·have u:∀e w',(e=Ending.returned (.tuple #[.slice none 0 0,.int .i64 1])/\w=w')->yD a n c at_ j w e w':=by
     rintro e w' ⟨rfl,rfl⟩;have:g_ n at_ j=1:=by simp only[g_,E,if_false];rw[if_pos J]
     refine⟨F,?_⟩;rw[if_neg J,this]
    refine Calls.mono ?_ u;clear u;go_enter func98,ntmps98;go_wp2
    go_ret2
    exact⟨F,F⟩
   ·have I:g_ n at_ j=0:=by simp only[g_,E,if_false];rw[if_neg J]
    have R:=O I;clear I;obtain⟨p,rfl⟩:=Int.eq_ofNat_of_zero_le aa;obtain⟨m,rfl⟩:=Int.eq_ofNat_of_zero_le ab;go_enter func98,ntmps98;go_wp2;all_goals
     go_ret2
     refine⟨F,?_⟩;rw[if_pos R.out];simp[dL, *]
theorem CX(E:Int)(w:World):
 Calls prog 97 #[.int .i64 E] w fun e w'=>e= .returned (.tuple #[.agg dS.v.toArray,.int .i64 0,.int .i64 E])/\X w w':=by
 go_enter func97,ntmps97;go_upto_region 1 with(fail);generalize j:World.alloc w _=I;have R:ah I w.heap.size dS.v 34:=by rw[<-j];exact ah.aI F F
 have u:X w I:=by rw[<-j];exact(X.refl w).alloc _
 obtain⟨ab,aa⟩:=aB R u;clear j R u;go_wp2_with (refine bg F _ _ _ F F F ab cZ dZ (xs:=dS.v) dZ (i_ dS) ?_);intro ae ac ad;go_wp2_with fail;exact qJ F F ac cZ dZ F ⟨F,ad.ext aa bG⟩
theorem abA(l:aj)(n:Nat)(at_:Int)(E:l.length=n):g_ n at_ 89≠0->qI l at_=g_ n at_ 89:=by
 intro h;unfold g_ at h⊢;unfold qI;rw[E];by_cases j:at_<0
 ·rw[if_pos j,if_pos j]
 ·rw[if_neg j]at h⊢;rw[if_neg j];by_cases u:(n:Int)<89∨(n:Int) - 89<at_
  ·rw[if_pos u,if_pos u]
  ·rw[if_neg u]at h;exact absurd F h
theorem aG.len'{e:aG}(ha:e.bI.length=16)(hk:e.key.length=16)(j:e.prev.length=32):e.v.length=68:=by unfold aG.v;simp[ha,hk,j]
theorem aG.abB{e:aG}(ha:e.bI.length=16)(hk:e.key.length=16)(j:e.prev.length=32):e.v[67]? =some (.slice e.ba e.bn e.bc):=by
 unfold aG.v;rw[show(67:Nat)=64+1+1+1 by rfl,List.getElem?_cons_succ,List.getElem?_cons_succ,List.getElem?_cons_succ,List.getElem?_append_right (by simp[ha]),List.getElem?_append_right (by simp[ha,hk]),List.getElem?_append_right (by simp[ha,hk,j])];simp[ha,hk,j]
theorem aG.abC(e:aG)(a:aN)(n c:Nat)(l:aj)(ha:e.bI.length=16)(hk:e.key.length=16)(j:e.prev.length=32):e.v.set 67 (.slice a n c)={e with ba:=a,bn:=n,bc:=c,body:=l}.v:=by
 unfold aG.v;rw[show(67:Nat)=64+1+1+1 by rfl,set_cons_succ,set_cons_succ,set_cons_succ,set_append_right _ _ (by simp[ha]),set_append_right _ _ (by simp[ha,hk]),set_append_right _ _ (by simp[ha,hk,j])];simp[ha,hk,j]
theorem abD(l:aj)(a:aN)(n c:Nat)(at_:Int)(w:World)(ef:l.length=n)(eh:n<=c)(hn:n<=140737488355328)(hc:c<=9223372036854775807)(ea:aK w a (l.map Y)):
 Calls prog 56 #[.slice a n c,.int .i64 at_] w (Le l at_ w):=by
 obtain⟨ae,eV,ag⟩:=aW ef ea (fun w'=>TJ a n c at_ 89 w' hn eh hc J J);have eA:=fun E w' h e=>SB (l:=l) (at_:=at_) (w:=w) (w':=w') (E:=E) h e;have a9:=O eA;obtain⟨e',u⟩:=aC (fQ l at_);rw[u]at a9;have cy:=O u;unfold fQ at u;clear ea eA;by_cases q:g_ n at_ 89=0
 rotate_left
 ·have d1:=abA l n at_ ef q;rw[d1,if_pos q]at u;unfold yD at ag;simp only[if_neg q]at ag;obtain⟨E,bz⟩:=aC (g_ n at_ 89);rw[bz]at u ag q;have fx:(E != 0)=true:=by simpa using q
  have al:=O u.symm;clear u q d1 bz;go_enter func56,ntmps56;go_upto_region 1 with(fail);generalize ac:World.alloc w _=I;have an:ah I w.heap.size dS.v 34:=by rw[<-ac];exact ah.aI F F
  have am:X w I:=by rw[<-ac];exact(X.refl w).alloc _
  obtain⟨af,ab⟩:=aB an am;clear ac an am;go_wp2_with fail;refine(ag I).mono ?_;rintro x ad ⟨R,rfl⟩;rw[<-R];clear R ad ag;go_wp2_with fail;refine(CX E I).mono ?_;rintro x b7 ⟨rfl,aa⟩;obtain⟨aw,aq⟩:=aB (af.ext aa) (ab.ext aa);clear aa af ab;go_wp2_with (refine bg F _ _ _ F F F aw cZ dZ (xs:=dS.v) dZ (i_ dS) ?_);intro b8 ax aE;go_wp2_with fail;exact qJ F F ax cZ dZ F (a9 E _ al (aE.ext aq bG))
 obtain⟨p,rfl,fX⟩:=Jy q J;have fY:p+89<=n:=J;obtain⟨b,off,rfl,a6⟩:=eV.gQ (by rw[length_map,ae.out];omega);have br:=O a6;have b4:dL (some ⟨b,off,none⟩) c p=some ⟨b,off+p,none⟩:=by unfold dL;rw[if_neg J,Option.map_some,dn]
 unfold yD at ag;simp only[if_pos q,Int.toNat_natCast,b4]at ag;have ec:(89:Int).toNat=89:=F;rw[ec]at ag;have dT:qI l (p:Int)=if(l.drop p).take 4≠[75,87,69,49]then 2 else if 32768<nH l p then 5 else 0:=by
  unfold qI;rw[if_neg J,if_neg (by rw[ae.out];omega),Int.toNat_natCast]
 rw[dT,Int.toNat_natCast]at u;have eg:((l.drop p).take 4).length=4:=by rw[length_take,length_drop,ae.out];omega
 have b5:=O (fun w' (e:X w w')=>Ba w' (some ⟨b,off+p,none⟩) ((l.drop p).take 4) 4 (c - p) ((xW a6 p 4).ext e) eg.symm);have cq:(aY ((l.drop p).take 4)).toList=(l.drop p).take 4:=by unfold aY;rw[ByteArray.toList_mk]
 have ex:dL (some ⟨b,off+p,none⟩) (c - p) 0=some ⟨b,off+p,none⟩:=by unfold dL;rw[if_neg J,Option.map_some,dn,Nat.add_zero]
 have bt:=O ex;have cp:4<=c - p:=J;clear dT q b4 ec ex eg;by_cases bh:(l.drop p).take 4=[75,87,69,49]
 rotate_left
 ·rw[if_pos bh,if_pos aX]at u;have al:=O u.symm;have fp:((aY ((l.drop p).take 4)).toList==[75,87,69,49])=false:=by rw[cq];simpa using bh
  clear u bh cq;go_enter func56,ntmps56;go_upto_region 1 with(fail);generalize ac:World.alloc w _=I;have an:ah I w.heap.size dS.v 34:=by rw[<-ac];exact ah.aI F F
  have am:X w I:=by rw[<-ac];exact(X.refl w).alloc _
  obtain⟨af,ab⟩:=aB an am;clear ac an am;have be:=b5.out I ab;go_wp2_with fail;refine(ag I).mono ?_;rintro x ad ⟨R,rfl⟩;rw[<-R];clear R ad ag;go_wp2_with (refine bF F (DX (h:=4) F F F underlying32 gu cp bt _) ?_);refine(CX 2 I).mono ?_;rintro x b7 ⟨rfl,aa⟩;obtain⟨aw,aq⟩:=aB (af.ext aa) (ab.ext aa);clear aa af ab be;go_wp2_with (refine bg F _ _ _ F F F aw cZ dZ (xs:=dS.v) dZ (i_ dS) ?_);intro b8 ax aE;go_wp2_with fail;exact qJ F F ax cZ dZ F (a9 2 _ al (aE.ext aq bG))
 rw[if_neg (show¬((l.drop p).take 4≠[75,87,69,49]) by simpa using bh)]at u;have fp:(aY ((l.drop p).take 4)).toList=[75,87,69,49]:=cq.trans bh;have ey:dL (some ⟨b,off+p,none⟩) (c - p) 85=some ⟨b,off+p+85,none⟩:=by unfold dL;rw[if_neg J,Option.map_some,dn]
 have cc:=O ey;have cQ:89<=c - p:=J;have eI:((l.drop (p+85)).take 4).length=4:=by rw[length_take,length_drop,ae.out];omega
 have a8:=O (fun w' (e:X w w')=>DV ((l.drop (p+85)).take 4) (some ⟨b,off+p+85,none⟩) 4 (c - p - 85) w' eI J (by have h:=(xW a6 (p+85) 4).ext e;rw[<-Nat.add_assoc]at h;exact h));have d':jM ((l.drop (p+85)).take 4)=nH l p:=Pj (by rw[ae.out];omega);have fi:nH l p<4294967296:=(iW l (p+85)).toNat_lt;rw[d',DW J]at a8;obtain⟨N,d4⟩:=aC (nH l p);rw[d4]at u a8 fi;clear cq bh ey eI d' d4;by_cases bv:32768<N
 ·rw[if_pos bv,if_pos aX]at u;have al:=O u.symm;have fc:decide (32768<N)=true:=aQ bv;have fd:decide ((32768:Int)<(N:Int))=true:=aQ J;clear u bv;go_enter func56,ntmps56;go_upto_region 1 with(fail);generalize ac:World.alloc w _=I;have an:ah I w.heap.size dS.v 34:=by rw[<-ac];exact ah.aI F F
  have am:X w I:=by rw[<-ac];exact(X.refl w).alloc _
  obtain⟨af,ab⟩:=aB an am;clear ac an am;have be:=b5.out I ab;go_wp2_with fail;refine(ag I).mono ?_;rintro x ad ⟨R,rfl⟩;rw[<-R];clear R ad ag;go_wp2_with (first|(refine bF F (DX (h:=4) F F F underlying32 gu cp bt _) ?_)|(refine bF F (oV (k:=85) (h:=89) F F F F underlying32 gu J cQ cc _) ?_));refine(a8 I ab).mono ?_;rintro x ad ⟨rfl,R⟩;rw[<-R];clear R ad a8;go_wp2_with fail;refine(CX 5 I).mono ?_;rintro x b7 ⟨rfl,aa⟩;obtain⟨aw,aq⟩:=aB (af.ext aa) (ab.ext aa);clear aa af ab be;go_wp2_with (refine bg F _ _ _ F F F aw cZ dZ (xs:=dS.v) dZ (i_ dS) ?_);intro b8 ax aE;go_wp2_with fail;exact qJ F F ax cZ dZ F (a9 5 _ al (aE.ext aq bG))
 rw[if_neg bv,if_neg aX,ae.out]at u;have fc:decide (32768<N)=false:=aP bv;have fd:decide ((32768:Int)<(N:Int))=false:=aP J;obtain⟨K,d2⟩:=aC (89+N);obtain⟨M,fN⟩:=aC (121+N);have f1:IntKind.i64.wrap (89+(N:Int))=(K:Int):=by rw[IntWalk.i64_in _ J];omega
 have f2:IntKind.i64.wrap ((K:Int)+32)=(M:Int):=by rw[IntWalk.i64_in _ J];omega
 have a7:=O (fun w'=>TJ (some ⟨b,off,none⟩) n c p (M:Int) w' hn eh hc J J);by_cases cA:n<p+121+N
 ·rw[if_pos cA]at u;have al:=O u.symm;have fr:g_ n (p:Int) (M:Int)=1:=by unfold g_;rw[if_neg J,if_pos J]
  unfold yD at a7;simp only[fr]at a7;clear u cA;go_enter func56,ntmps56;go_upto_region 1 with(fail);generalize ac:World.alloc w _=I;have an:ah I w.heap.size dS.v 34:=by rw[<-ac];exact ah.aI F F
  have am:X w I:=by rw[<-ac];exact(X.refl w).alloc _
  obtain⟨af,ab⟩:=aB an am;clear ac an am;have be:=b5.out I ab;go_wp2_with fail;refine(ag I).mono ?_;rintro x ad ⟨R,rfl⟩;rw[<-R];clear R ad ag;go_wp2_with (first|(refine bF F (DX (h:=4) F F F underlying32 gu cp bt _) ?_)|(refine bF F (oV (k:=85) (h:=89) F F F F underlying32 gu J cQ cc _) ?_));refine(a8 I ab).mono ?_;rintro x ad ⟨rfl,R⟩;rw[<-R];clear R ad a8;go_wp2_with fail;refine(a7 I).mono ?_;rintro x ad ⟨R,rfl⟩;rw[<-R];clear R ad a7;go_wp2_with fail;refine(CX 1 I).mono ?_;rintro x b7 ⟨rfl,aa⟩;obtain⟨aw,aq⟩:=aB (af.ext aa) (ab.ext aa);clear aa af ab be;go_wp2_with (refine bg F _ _ _ F F F aw cZ dZ (xs:=dS.v) dZ (i_ dS) ?_);intro b8 ax aE;go_wp2_with fail;exact qJ F F ax cZ dZ F (a9 1 _ al (aE.ext aq bG))
 rw[if_neg cA]at u;have bd:g_ n (p:Int) (M:Int)=0:=by unfold g_;rw[if_neg J,if_neg J]
 unfold yD at a7;have b4:dL (some ⟨b,off,none⟩) c p=some ⟨b,off+p,none⟩:=by unfold dL;rw[if_neg J,Option.map_some,dn]
 simp only[bd,if_true,Int.toNat_natCast,b4]at a7;have fS:((M:Nat):Int).toNat=M:=F;obtain⟨S,cn⟩:=aC (dY 3 ((l.drop p).take K));obtain⟨a_,co⟩:=aC ((l.drop (p+K)).take 32);have ew:Cm l p N=(S==a_):=by unfold Cm;rw[d2,Nat.add_assoc,d2,cn,co]
 rw[ew]at u;have cN:S.length=32:=by rw[<-cn];exact j_ _ _
 have cM:a_.length=32:=by rw[<-co,length_take,length_drop,ae.out];omega
 have cW:=O (fun w' (e:X w w')=>uV 3 ((l.drop p).take K) K (c - p) (some ⟨b,off+p,none⟩) w' J J (by rw[length_take,length_drop,ae.out];omega) J ((xW a6 p K).ext e));rw[cn]at cW;obtain⟨ei,fw,dg⟩:=aW (fun w=>vY underlying31 S a_ cN cM w) (show(S.map Y).length=32 by rw[length_map,cN]) (show(a_.map Y).length=32 by rw[length_map,cM]);have ds:dP w ⟨b,off+p+K*1,none⟩ (a_.map Y):=by
  rw[<-co,Nat.mul_one,Nat.add_assoc];exact xU a6 (p+K) 32
 have c9:=O ds;have bj:∃ao,l[p+20]?.getD 0=ao:=⟨_,F⟩;obtain⟨ao,bj⟩:=bj;obtain⟨a0,ch⟩:=aC ((l.drop (p+21)).take 16);obtain⟨a1,ci⟩:=aC ((l.drop (p+37)).take 16);obtain⟨a2,cj⟩:=aC ((l.drop (p+53)).take 32);obtain⟨a3,ck⟩:=aC ((l.drop (p+89)).take N);have cF:a0.length=16:=by rw[<-ch,length_take,length_drop,ae.out];clear u;omega
 have cG:a1.length=16:=by rw[<-ci,length_take,length_drop,ae.out];clear u;omega
 have cH:a2.length=32:=by rw[<-cj,length_take,length_drop,ae.out];clear u;omega
 have dE:a3.length=N:=by rw[<-ck,length_take,length_drop,ae.out];clear u;omega
 obtain⟨bi,cR⟩:=aC (kK (fE l (p+4)):Int);obtain⟨bk,cX⟩:=aC (kK (fE l (p+12)):Int);have ed:wQ l p N=⟨bi,bk,(ao.toNat:Int),a0,a1,a2,a3⟩:=by
  unfold wQ;rw[cR,cX,bj,ch,ci,cj,ck]
 rw[ed]at u;have eC:((l.drop (p+4)).take 8).length=8:=by rw[length_take,length_drop,ae.out];clear u;omega
 have eE:((l.drop (p+12)).take 8).length=8:=by rw[length_take,length_drop,ae.out];clear u;omega
 obtain⟨cU,cT⟩:=aB (fun w' (e:X w w')=>DV ((l.drop (p+4)).take 8) (some ⟨b,off+p+4,none⟩) 8 (c - p - 4) w' eC J (by have h:=(xW a6 (p+4) 8).ext e;rw[<-Nat.add_assoc]at h;exact h)) (fun w' (e:X w w')=>DV ((l.drop (p+12)).take 8) (some ⟨b,off+p+12,none⟩) 8 (c - p - 12) w' eE J (by have h:=(xW a6 (p+12) 8).ext e;rw[<-Nat.add_assoc]at h;exact h));rw[JO (by rw[ae.out];clear u;omega),cR]at cU;rw[JO (by rw[ae.out];clear u;omega),cX]at cT;have dt:dP w ⟨b,off+p+21,none⟩ (a0.map Y):=by rw[<-ch,Nat.add_assoc];exact xU br (p+21) 16
 have du:dP w ⟨b,off+p+37,none⟩ (a1.map Y):=by rw[<-ci,Nat.add_assoc];exact xU br (p+37) 16
 have dv:dP w ⟨b,off+p+53,none⟩ (a2.map Y):=by rw[<-cj,Nat.add_assoc];exact xU br (p+53) 32
 have dy:aK w (some ⟨b,off+p+89,none⟩) (a3.map Y):=by rw[<-ck,Nat.add_assoc];exact xW br (p+89) N
 have dr:w.cell? ⟨b,off+p+20*1,none⟩=some (.int .u8 (ao.toNat:Nat)):=by
  have h:=br.out (p+20) (Y ao) (by rw[List.getElem?_map];have:l[p+20]? =some (l[p+20]'(by rw[ae.out];clear u;omega)):=List.getElem?_eq_getElem _;rw[this]at bj⊢;rw[<-bj];rfl);rw[<-Nat.add_assoc]at h;exact h
 have ap:=O u;clear u;have f0:IntKind.i64.wrap (ao.toNat:Int)=(ao.toNat:Int):=IntWalk.i64_in _ (by have:=ao.toNat_lt;omega);have en:dL (some ⟨b,off+p,none⟩) (c - p) 21=some ⟨b,off+p+21,none⟩:=by unfold dL;rw[if_neg J,Option.map_some,dn]
 have eo:dL (some ⟨b,off+p,none⟩) (c - p) 37=some ⟨b,off+p+37,none⟩:=by unfold dL;rw[if_neg J,Option.map_some,dn]
 have ep:dL (some ⟨b,off+p,none⟩) (c - p) 53=some ⟨b,off+p+53,none⟩:=by unfold dL;rw[if_neg J,Option.map_some,dn]
 have er:dL (some ⟨b,off+p,none⟩) (c - p) 89=some ⟨b,off+p+89,none⟩:=by unfold dL;rw[if_neg J,Option.map_some,dn]
 have et:dL (some ⟨b,off+p,none⟩) (c - p) 4=some ⟨b,off+p+4,none⟩:=by unfold dL;rw[if_neg J,Option.map_some,dn]
 have ev:dL (some ⟨b,off+p,none⟩) (c - p) 12=some ⟨b,off+p+12,none⟩:=by unfold dL;rw[if_neg J,Option.map_some,dn]
 have ez:qX (some ⟨b,off+p,none⟩) (c - p) K 1=some ⟨b,off+p+K*1,none⟩:=by unfold qX;rw[if_neg J,Option.map_some,dn]
 obtain⟨e_,e4,e5,e6,e7,e8,e9,eQ⟩:=jg ez en eo ep er et ev dt;obtain⟨eR,eS,eN⟩:=aW du dv dr;have fL:K - 89=N:=J;obtain⟨eb,eW,e0,e1,bm,bo,bp⟩:=su (fun w' e=>DL a3 (some ⟨b,off+p+89,none⟩) N (c - p - 89) w' dE J (dy.ext e)) (show(a0.map Y).length=16 by rw[length_map,cF]) (show(a1.map Y).length=16 by rw[length_map,cG]) (show(a2.map Y).length=32 by rw[length_map,cH]) cF cG cH;have fj:12<=c - p:=J;have fk:20<=c - p:=J;have fl:37<=c - p:=J;have fm:53<=c - p:=J;have fn:85<=c - p:=J;have d3:K<=c - p:=J;have fR:M - K=32:=J;have fg:89<=K:=J;have c0:IntKind.i64.wrap ((p:Int)+89)=((p+89:Nat):Int):=by rw[IntWalk.i64_in _ J];omega
 have c1:IntKind.i64.wrap (((p+89:Nat):Int)+(N:Int))=((p+K:Nat):Int):=by rw[IntWalk.i64_in _ J];omega
 have c2:IntKind.i64.wrap (((p+K:Nat):Int)+32)=((p+M:Nat):Int):=by rw[IntWalk.i64_in _ J];omega
 have ee:((p+121+N:Nat):Int)=((p+M:Nat):Int):=J;rw[ee]at ap;obtain⟨d6,d7,d8⟩:=aW c0 c1 c2;clear ee c0 c1 c2 en eo ep er et ev ez dt du dv dr dy cF cG cH ed cR cX bj ch ci cj ck cn co ew cN cM ds eC eE a6 bd b4;go_enter func56,ntmps56;go_upto_region 1 with(fail);generalize ac:World.alloc w _=I;have an:ah I w.heap.size dS.v 34:=by rw[<-ac];exact ah.aI F F
 have am:X w I:=by rw[<-ac];exact(X.refl w).alloc _
 obtain⟨af,ab⟩:=aB an am;clear ac an am;have be:=b5.out I ab;go_wp2_with fail;refine(ag I).mono ?_;rintro x ad ⟨R,rfl⟩;rw[<-R];clear R ad ag;go_wp2_with (first|(refine bF F (DX (h:=4) F F F underlying32 gu cp bt _) ?_)|(refine bF F (oV (k:=85) (h:=89) F F F F underlying32 gu J cQ cc _) ?_));refine(a8 I ab).mono ?_;rintro x ad ⟨rfl,R⟩;rw[<-R];clear R ad a8;go_wp2_with fail;refine(a7 I).mono ?_;rintro x ad ⟨R,rfl⟩;rw[<-R];clear R ad a7 be b5 bt cc;go_upto_region 13 with(fail);obtain⟨C,ai,aJ,bP⟩:=iw (show bT w I [w.heap.size] [] I from bT.jA ab (dV.one af.lt));have ek:∀j,C j->j.cell? ⟨b,off+p+20*1,none⟩=some (.int .u8 (ao.toNat:Nat)):=fun j az=>gW eN ((ai j).1 az).base;have b3:∀j,C j->dP j ⟨b,off+p+21,none⟩ (a0.map Y):=fun j az=>eQ.ext ((ai j).1 az).base;have el:∀j,C j->dP j ⟨b,off+p+37,none⟩ (a1.map Y):=fun j az=>eR.ext ((ai j).1 az).base;have em:∀j,C j->dP j ⟨b,off+p+53,none⟩ (a2.map Y):=fun j az=>eS.ext ((ai j).1 az).base;refine fJ fun Z=> ?_;refine aA 0 ?_;refine bD 1 F (bf F (fun j _=>oV (k:=4) (h:=12) F F F F underlying32 gu J fj e8 j)) ?_;refine aA 3 ?_;refine bD 4 F (bf F (fun j _=>oV (k:=12) (h:=20) F F F F underlying32 gu J fk e9 j)) ?_;refine aA 6 ?_;refine bD 7 F (bf F (fun j _=>fP (i:=20) F F F underlying32 gu aX j)) ?_;refine bD 8 F (bf F (fun j h=>kT F F (ek j h) FI)) ?_;refine aA 9 ?_;refine aA 10 ?_;refine bD 11 F (bf F (fun j _=>oV (k:=21) (h:=37) F F F F underlying32 gu J fl e4 j)) ?_;refine bD 12 F (bf F (fun j _=>rC (n:=16) F F underlying29 J j)) ?_;refine bD 13 F (bf F (fun j h=>bQ F F (b3 j h) dh eW)) ?_
 refine aA 14 ?_;refine bD 15 F (bf F (fun j _=>oV (k:=37) (h:=53) F F F F underlying32 gu J fm e5 j)) ?_;refine bD 16 F (bf F (fun j _=>rC (n:=16) F F underlying29 J j)) ?_;refine bD 17 F (bf F (fun j h=>bQ F F (el j h) dh e0)) ?_;refine aA 18 ?_;refine bD 19 F (bf F (fun j _=>oV (k:=53) (h:=85) F F F F underlying32 gu J fn e6 j)) ?_;refine bD 20 F (bf F (fun j _=>rC (n:=32) F F underlying31 J j)) ?_;refine bD 21 F (bf F (fun j h=>bQ F F (em j h) qA e1)) ?_;refine zo (B:=World.heap I |>.size) (A:=23) (d:=12) (T:=34) (vs:=dS.v) (D:=C) undef F aJ (fun _ h=>h) (fun _ h=>((ai _).1 h).kept.1) Z ?_;try dsimp only
 refine cO ?_;refine lZ 2 (β:=Unit) (fun _=> .int .i64 bi) (fun _ _=>True) F F F F (fun _ _=>rfl) au au au F (fun _ _=>jw) ?phi2 ?step2 ?rest2
 case phi2=>exact fun _ _ _ _ _=>trivial
 case step2=>
  intro x j cI bu a5;have cD:=((ai j).1 cI).base;clear Z;go_wp2_with fail;refine(cU j cD).mono ?_;rintro e w2 ⟨rfl,rfl⟩;go_wp2_with fail;exact a5 () _ (X.refl _) trivial
 case rest2=>
 intro _;refine aH ?_;refine lZ 5 (β:=Unit) (fun _=> .int .i64 bk) (fun _ _=>True) F F F F (fun _ _=>rfl) au au au F (fun _ _=>jw) ?phi5 ?step5 ?rest5
 case phi5=>exact fun _ _ _ _ _=>trivial
 case step5=>
  rintro x j ⟨cI,_⟩ bu a5;have cD:=((ai j).1 cI).base;clear Z;go_wp2_with fail;refine(cT j cD).mono ?_;rintro e w2 ⟨rfl,rfl⟩;go_wp2_with fail;exact a5 () _ (X.refl _) trivial
 case rest5=>
 intro _;refine aH ?_;refine AY 22 F (fun _=>bf F (fun j _=>YD F F F F F F F bm bo bp j)) ?_;refine wY F F F (fun _ _=>rfl) au (fun _ _=>jw) ?_;rintro cC ft ⟨⟨d0,_⟩,_⟩ eJ hb;obtain⟨da,db⟩:=aB hb ((ai ft).1 d0);clear hb d0 ek b3 el em cU cT;obtain⟨ar,cm⟩:=jE (⟨bi,bk,(ao.toNat:Int),a0,a1,a2,none,0,0,[]⟩:aG);rw[<-cm];obtain⟨de,e3⟩:=aB cm (show ar.v.length=68 by rw[cm];unfold aG.v;simp[bm.out,bo.out,bp.out]);clear cm;refine aZ 24 ?_;intro bu a5;go_wp2_with (refine bg F _ _ _ F F F da cZ dZ (xs:=ar.v) e3 (i_ ar) ?_);intro c4 dp eK;have cl:=bT.upd db eK eJ ab.size;refine a5 _ _ ((ai c4).2 cl) ?_;obtain⟨c6,cz⟩:=aB dp (cl.blk af aF);have ct:=O cl.base;have fW:w.heap.size<cC:=Nat.lt_of_lt_of_le af.lt eJ;clear a5 bu eK dp cl db da ab af Z ai aJ bP;refine dH ?_;unfold vS;go_wp2_with (refine bF F (oV (k:=89) (h:=K) F F F F underlying32 gu fg d3 e7 _) ?_);refine(eb c4 ct).mono ?_;rintro x eM ⟨v,rfl,own, -,cg⟩;obtain⟨ba,bc,rfl, -, -, -, -⟩:=nT own;obtain⟨di,dl,bl,c_⟩:=bU (mg own (show w.heap.size+1<=c4.heap.size from cz.lt)) (cz.ext cg) (c6.ext cg) (ct.ext cg);clear own cg cz c6 ct eb;have bd:ar.bI=a0/\ar.key=a1/\ar.prev=a2:=by rw[de.out];exact⟨F,F,F⟩
 have cP:ar.bI.length=16:=by rw[bd.1];exact bm
 have cS:ar.key.length=16:=by rw[bd.2.1];exact bo
 have cV:ar.prev.length=32:=by rw[bd.2.2];exact bp
 have fs:=bl.cell' (aG.abB cP cS cV);have fe:=bl.frozen 67;have cx:=O (And.intro cP (And.intro cS cV));clear bd cP cS cV;go_upto_region 15 with(fail);generalize cY:World.setCell eM _ _=b6;obtain⟨a4,cJ⟩:=jE ({ar with ba:=ba,bn:=N,bc:=bc,body:=a3}:aG);have dq:ah b6 cC a4.v 34:=by rw[<-cY,cJ,<-aG.abC ar ba N bc a3 cx.1 cx.2.1 cx.2.2];exact bl.set 67 _
 have cs:aU eM cC b6:=by rw[<-cY];exact aU.setCell _
 have b1:a4=⟨bi,bk,(ao.toNat:Int),a0,a1,a2,ba,N,bc,a3⟩:=by rw[cJ,de.out]
 obtain⟨dd,c7,cb,dm,b',dj⟩:=iq b1 dq (aG.len' (e:=a4) (by rw[b1];exact bm) (by rw[b1];exact bo) (by rw[b1];exact bp)) (dl.upd cs J) (cs.ext c_ J) (IG di cs bl aX);clear cY fs fe cJ b1 dq cs bl dl c_ di;obtain⟨C,ai,aJ,bP⟩:=iw (show bT b6 b6 [] [] b6 from bT.jA (X.refl _) (dV.none _));have b3:∀j,C j->dP j ⟨b,off+p+K*1,none⟩ (a_.map Y):=fun j az=>c9.ext (b'.ext ((ai j).1 az).base);refine fJ fun Z=> ?_;refine aA 0 ?_;refine aA 1 ?_;refine aA 2 ?_;refine bD 3 F (bf F (fun j _=>zB (k:=K) F F F underlying32 gu d3 j)) ?_;refine aA 5 ?_;refine aA 6 ?_;refine aA 7 ?_;refine bD 8 F (bf F (fun j _=>Mc (k:=K) e_ F F F underlying32 gu J j)) ?_;refine bD 9 F (bf F (fun j _=>rC (n:=32) F F underlying31 J j)) ?_;refine bD 10 F (bf F (fun j h=>bQ F F (b3 j h) qA dg)) ?_;refine aZ 4 ?_;intro bu a5;go_wp2_with fail;refine((cW _ (b'.ext ((ai _).1 Z).base))).mono ?_;rintro e c5 ⟨rfl,dC⟩;replace Z:=aJ _ _ Z dC;go_wp2_with fail;refine a5 _ _ Z ?_;clear a5 bu dC;refine aH ?_;refine bD 11 F (bf F (fun j _=>jm F F F EI ei j)) ?_;have bw:=((ai c5).1 Z).base;obtain⟨ce,b9,ca,cd⟩:=bU (dm.ext bw) (c7.ext bw) (b'.ext bw) (dQ dj bw);clear Z ai aJ bP b3 bw c9 dg ei cW dm c7 b' dj;refine dH ?_;cases c3:(S==a_)with
 |false=>
  have al:=O (show e'=(u_,0,13) by have h:=ap.out;rw[c3,if_pos F]at h;exact h.symm);clear ap;go_wp2_with fail;refine(CX 13 c5).mono ?_;rintro x b7 ⟨rfl,aa⟩;obtain⟨aw,aq⟩:=aB (ce.ext aa) (ca.ext aa);clear aa ce ca b9 cd;go_wp2_with (refine bg F _ _ _ F F F aw cZ dZ (xs:=dS.v) dZ (i_ dS) ?_);intro b8 ax aE;go_wp2_with fail;exact qJ F F ax cZ dZ F (a9 13 _ al (aE.ext aq bG))
 |true=>
 have u:=ap.out;rw[c3,if_neg aX]at u;replace u:=TI u;clear ap c3;have ap:=O u;clear u;have ej:∀w',w'.ownsRow (w.heap.size+1) 5 1 (.slice ba N bc) N (a3.map Y)->a4.Ld w' w.heap.size:=by
  intro w' h;obtain⟨a',c',fo,az,fz,ff,cE⟩:=nT h;cases fo;have fh:N<=140737488355328:=by clear cE ap;omega
  rw[dd.out];refine⟨⟨bm,bo,bp,dE,az,fh,fun h=> ?_,cE⟩,SA h cE J⟩;have:=ff h;exact⟨by simp only;omega,this⟩
 have dc:=O ej;have cL:a4.p=⟨bi,bk,(ao.toNat:Int),a0,a1,a2,a3⟩:=by rw[dd.out];rfl
 have b2:=O (fun w' h=>Ei a4 w' h);rw[xH,cL]at b2;have df:=O cL;obtain⟨fa,d5⟩:=aC ((⟨bi,bk,(ao.toNat:Int),a0,a1,a2,a3⟩:dW):dW);rw[d5]at ap b2 df;obtain⟨cw,bz⟩:=aC (jX fa);rw[bz]at ap b2;clear ej cL d5 bz;go_wp2_with (refine bV F 34 (.tmp 12) F F b9 cZ cb ?_);refine(b2 c5 (dc _ cd).1).mono ?_;rintro x fv ⟨rfl,bx⟩;obtain⟨cf,c8,cv,dk⟩:=bU (ce.ext bx) (b9.ext bx) (ca.ext bx) (dQ cd bx);clear bx ce b9 ca cd b2;rcases ap.out with⟨cr,b0⟩|⟨cr,b0⟩
 ·subst cr;have al:=O b0;have c0:=d6.out;have c1:=d7.out;have c2:=d8.out;clear ap b0 d6 d7 d8;go_wp2_with (first|(refine bV F 34 (.tmp 12) F F c8 cZ cb ?_)|(refine bg F _ _ _ F F F cf cZ dZ (xs:=a4.v) cb (i_ a4) ?_));intro f3 fb eL;go_wp2_with fail;refine qJ F F fb cZ cb F ⟨a4,?_,dc _ (IG dk eL cf aX),?_,eL.ext cv bG⟩
  ·rw[cy.out,al.out,show((p+M:Nat):Int)=(p:Int)+89+(N:Int)+32 by clear cy;omega];rfl
  ·rw[cy.out,al.out,df.out]
 ·have al:=O b0;have fy:(cw != 0)=true:=by simpa using cr
  clear ap b0 cr;go_wp2_with fail;refine(CX cw fv).mono ?_;rintro x b7 ⟨rfl,aa⟩;obtain⟨aw,aq⟩:=aB (cf.ext aa) (cv.ext aa);clear aa cf cv c8 dk;go_wp2_with (refine bg F _ _ _ F F F aw cZ dZ (xs:=dS.v) dZ (i_ dS) ?_);intro b8 ax aE;go_wp2_with fail;exact qJ F F ax cZ dZ F (a9 cw _ al (aE.ext aq bG))
section
open Go Go.RowKit
section
variable {P:Program} {ops:Array Oper} {Q:Exit->Act->World->Prop} {T S:World->Prop} {W:List Nat}
def lX(P:Program)(ops:Array Oper)(Q:Exit->Act->World->Prop)(T S:World->Prop)(W:List Nat):Nat->Array Bool->Act->World->Prop
 |0,listed,a,w=>Region.ready .any ops listed=[]/\Q .normal a w
 |f+1,listed,a,w=>(Region.ready .any ops listed=[]->Q .normal a w)/\
  ∀i∈Region.ready .any ops listed,wpOp P ops Q i (fun a' w'=>(T w'/\(W.contains i=false->S w->S w'))/\lX P ops Q T S W f (listed.setIfInBounds i true) a' w') a w
theorem TK:∀(f:Nat) (j:Array Bool) (a:Act) (w:World),lX P ops Q T S W f j a w->wpAny P .any ops Q f j a w
 |0,_,_,_,h=>h
 |f+1,_,_,_,h=>⟨h.1,fun i E=>wpOp_mono (fun a' w' u=>TK f _ a' w' u.2) (h.2 i E)⟩
theorem Md{I:World->Prop}{i:Nat}{ab:Oper}{v:Value}(am:ops[i]? =some ab)(az:∀(j:Nat) (o:Oper) cs b,ops[j]? =some o->o.op≠.select cs b)
 (a1:∀u j w w',y8 ops u->(u.getD i false=true->False)->j∈Region.ready .any ops u->(T w'/\(W.contains j=false->S w->S w'))->I w->I w')
 (a2:∀c a w,Q (.panic c) (a.put ab.dst v) w->Q (.panic c) a w):
 ∀(f:Nat) (u:Array Bool) (a:Act) (w:World),y8 ops u->
  (∀j ac,ops[j]? =some ac->j≠i->u.getD j true=false->(∀e∈ac.after,Region.binds .any e=true->e.on≠i)->ab.apart ops ac=true)->
  i∈Region.ready .any ops u->YieldsIf P ops I ab v a->I w->T w->
  lX P ops Q T S W f (u.setIfInBounds i true) (a.put ab.dst v) w->lX P ops Q T S W (f+1) u a w:=by
 intro f;induction f with
 |zero=>
  intro u a w _ _ aa ai ag al H;refine⟨fun h=>(by rw[h]at aa;cases aa),fun j ad=> ?_⟩;by_cases E:j=i
  ·subst E;exact ai.wpOp am ag ⟨⟨al,fun _ h=>h⟩,H⟩
  ·have:=ready_mono ad E;rw[H.1]at this;cases this
 |succ f a_=>
  intro u a w ao ap aa ai ag al H;refine⟨fun h=>(by rw[h]at aa;cases aa),fun j ad=> ?_⟩;by_cases E:j=i
  ·subst E;exact ai.wpOp am ag ⟨⟨al,fun _ h=>h⟩,H⟩
  ·have af:=H.2 j (ready_mono ad E);obtain⟨aw,ac,an,a3⟩:=mem_ready.1 ad;have R:=(mem_ready.1 aa).1;have aq:u.getD i false=true->False:=fun h=>by
    simp only[Array.getD_eq_getD_getElem?]at h R;cases ax:u[i]? with
    |none=>rw[ax]at R;simp at R
    |some b=>rw[ax]at h R;simp at h R;rw[h]at R;cases R
   have a9:∀e∈ac.after,Region.binds .any e=true->e.on≠i:=fun e a4 hb a5=>by
    have af:=a3 e a4 hb;rw[a5]at af;exact aq af
   have a0:=wpOp_putIf an (ap j ac an E aw a9) (fun cs b=>az i ab cs b am) (fun cs b=>az j ac cs b an) a2 ai af;have a6:∀k ok,ops[k]? =some ok->k≠i->(u.setIfInBounds j true).getD k true=false->
    (∀e∈ok.after,Region.binds .any e=true->e.on≠i)->ab.apart ops ok=true:=fun k ok hk a7 aE a8=>by
    refine ap k ok hk a7 ?_ a8;by_cases ar:j=k
    ·subst ar;exact aw
    ·rw[getD_set_ne true ar]at aE;exact aE
   refine wpOp_mono (fun a' w' ae=>⟨ae.2.1,a_ (u.setIfInBounds j true) a' w' (ao.set ad) a6 (ready_mono aa (Ne.symm E)) ae.1 (a1 u j w w' ao aq ad ae.2.1 ag) ae.2.1.1 ?_⟩) a0;rw[Array.setIfInBounds_comm _ _ E];exact ae.2.2
theorem abE(i:Nat){u:Oper}{r:List Oper}{v:Value}{f:Nat}{j:Array Bool}{a:Act}{w:World}(E:ops.toList.drop i=u::r)
 (hs:Region.noSelect ops=true)(aa:uT ops j=true)(hf:Region.free .any ops j i=true)(ab:(Region.ready .any ops j).contains i=true)
 (I:∀c a w,Q (.panic c) (a.put u.dst v) w->Q (.panic c) a w)(ac:YieldsIf P ops (fun _=>True) u v a)(R:T w)
 (h:lX P ops Q T S W f (j.setIfInBounds i true) (a.put u.dst v) w):lX P ops Q T S W (f+1) j a w:=
 Md (jy E) (Region.noSelect_spec hs) (fun _ _ _ _ _ _ _ _ _=>trivial) I f j a w (FV aa) (Region.free_spec (jy E) hf) (by simpa using ab) ac trivial R h
theorem TL(i:Nat){u:Oper}{r:List Oper}{v:Value}{f:Nat}{j:Array Bool}{a:Act}{w:World}(I:ops.toList.drop i=u::r)
 (hs:Region.noSelect ops=true)(aa:uT ops j=true)(hf:Region.free .any ops j i=true)(ab:(Region.ready .any ops j).contains i=true)
 (R:∀c a w,Q (.panic c) (a.put u.dst v) w->Q (.panic c) a w)(ac:YieldsIf P ops T u v a)(E:T w)
 (h:lX P ops Q T S W f (j.setIfInBounds i true) (a.put u.dst v) w):lX P ops Q T S W (f+1) j a w:=
 Md (jy I) (Region.noSelect_spec hs) (fun _ _ _ _ _ _ _ h _=>h.1) R f j a w (FV aa) (Region.free_spec (jy I) hf) (by simpa using ab) ac E E h
theorem abG(i:Nat){E:Oper}{r:List Oper}{v:Value}{f:Nat}{u:Array Bool}{a:Act}{w:World}(I:ops.toList.drop i=E::r)
 (hs:Region.noSelect ops=true)(ad:(W.all fun j=>xq ops 12 j i)=true)(ae:uT ops u=true)(hf:Region.free .any ops u i=true)(af:(Region.ready .any ops u).contains i=true)
 (R:∀c a w,Q (.panic c) (a.put E.dst v) w->Q (.panic c) a w)(ai:YieldsIf P ops S E v a)(aa:S w)(ac:T w)
 (h:lX P ops Q T S W f (u.setIfInBounds i true) (a.put E.dst v) w):lX P ops Q T S W (f+1) u a w:=
 Md (jy I) (Region.noSelect_spec hs) (fun u j w w' hd ag hj h ab=>h.2 (by
  cases hq:W.contains j with
  |false=>rfl
  |true=>exact absurd (Jw hd 12 j i (OB hj) (all_eq_true.1 ad j (by simpa using hq))) ag) ab) R f u a w (FV ae) (Region.free_spec (jy I) hf) (by simpa using af) ai aa ac h
theorem II{i:Nat}{o:Oper}{r:List Oper}{f:Nat}{u:Array Bool}{a:Act}{w:World}(aa:Region.ready .any ops u=[i])(ae:ops.toList.drop i=o::r)
 (h:∀E:Exit->Act->World->Prop,(∀a w',T w'->(W.contains i=false->S w->S w')->lX P ops Q T S W f (u.setIfInBounds i true) a w'->E .normal a w')->wpList P ops E [o] a w):
 lX P ops Q T S W (f+1) u a w:=by
 refine⟨fun I=>(by rw[aa]at I;cases I),fun j R=> ?_⟩;rw[aa]at R;obtain rfl:j=i:=by simpa using R
 exact mZ (jy ae) (h _ fun a w' ac ab ad=>⟨⟨ac,ab⟩,ad⟩)
theorem abH{j:Array Bool}{a:Act}{w:World}(hr:Region.ready .any ops j=[])(h:Q .normal a w):∀f,lX P ops Q T S W f j a w
 |0=>⟨hr,h⟩
 |_+1=>⟨fun _=>h,by rw[hr];simp⟩
theorem abI{id:Nat}{a:Act}{w:World}(j:P.follows .mixedOrders=true)
 (h:lX P ops Q T S W ops.size (Array.replicate ops.size false) a w.drew):(Code.region id ops true).wp P Q a w:=
 wp_region_any j (TK _ _ _ _ h)
end
section
variable {P:Program} {ops:Array Oper} {Q:Exit->Act->World->Prop} {T S:World->Prop} {W:List Nat}
theorem rW(i:Nat){u:Oper}{r:List Oper}{f:Nat}{j:Array Bool}{a:Act}{w:World}{E:Prop}{v:Value}(h:E)(ac:ops.toList.drop i=u::r:=by exact F)(hs:Region.noSelect ops=true:=by kernel_rfl)(aa:uT ops j=true:=by kernel_rfl)(ab:Region.free .any ops j i=true:=by kernel_rfl)(ad:(Region.ready .any ops j).contains i=true:=by kernel_rfl)(ae:Region.wanted u (yielded ops a.tmps)=true:=by exact F)(af:∀w,(fun _=>True) w->(execOp a.eval u).run P w= .ok (.value v) w:=by(intro _ _;go_simp;try with_reducible rfl))(hx:E->lX P ops Q T S W f (j.setIfInBounds i true) (a.put u.dst v) w:=by(intro hx;simp only[Act.put,setIfInBounds_toArray,set_cons_succ,set_cons_zero];exact hx))(R:T w:=by exact qU)(I:∀c a w,Q (.panic c) (a.put u.dst v) w->Q (.panic c) a w:=by exact fun _ _ _ h=>h):lX P ops Q T S W (f+1) j a w:=
 abE i ac hs aa ab ad I (.inl ⟨ae,af⟩) R (hx h)
theorem abJ(i:Nat){u:Oper}{r:List Oper}{f:Nat}{j:Array Bool}{a:Act}{w:World}{I:Prop}{v:Value}{E:Prop}(hf:E)(h:I)(ad:ops.toList.drop i=u::r:=by exact F)(hs:Region.noSelect ops=true:=by kernel_rfl)(ab:uT ops j=true:=by kernel_rfl)(ac:Region.free .any ops j i=true:=by kernel_rfl)(ae:(Region.ready .any ops j).contains i=true:=by kernel_rfl)(af:Region.wanted u (yielded ops a.tmps)=true:=by exact F)(ag:E->∀w,T w->(execOp a.eval u).run P w= .ok (.value v) w:=by(intro hf wq eU;have oz:=hf wq eU;go_simp;try with_reducible rfl))(hx:I->lX P ops Q T S W f (j.setIfInBounds i true) (a.put u.dst v) w:=by(intro hx;simp only[Act.put,setIfInBounds_toArray,set_cons_succ,set_cons_zero];exact hx))(aa:T w:=by exact qU)(R:∀c a w,Q (.panic c) (a.put u.dst v) w->Q (.panic c) a w:=by exact fun _ _ _ h=>h):lX P ops Q T S W (f+1) j a w:=
 TL i ad hs ab ac ae R (.inl ⟨af,ag hf⟩) aa (hx h)
theorem abK(i:Nat){u:Oper}{r:List Oper}{f:Nat}{j:Array Bool}{a:Act}{w:World}{E:Prop}{v:Value}(ac:ops.toList.drop i=u::r)(ae:YieldsIf P ops T u v a)(h:E)(hs:Region.noSelect ops=true:=by kernel_rfl)(aa:uT ops j=true:=by kernel_rfl)(ab:Region.free .any ops j i=true:=by kernel_rfl)(ad:(Region.ready .any ops j).contains i=true:=by kernel_rfl)(hx:E->lX P ops Q T S W f (j.setIfInBounds i true) (a.put u.dst v) w:=by(intro hx;simp only[Act.put,setIfInBounds_toArray,set_cons_succ,set_cons_zero];exact hx))(R:T w:=by exact qU)(I:∀c a w,Q (.panic c) (a.put u.dst v) w->Q (.panic c) a w:=by exact fun _ _ _ h=>h):lX P ops Q T S W (f+1) j a w:=
 TL i ac hs aa ab ad I ae R (hx h)
theorem abL(i:Nat){E:Oper}{r:List Oper}{f:Nat}{u:Array Bool}{a:Act}{w:World}{R:Prop}{v:Value}{I:Prop}(hf:I)(h:R)(ag:ops.toList.drop i=E::r:=by exact F)(hs:Region.noSelect ops=true:=by kernel_rfl)(ad:(W.all fun j=>xq ops 12 j i)=true:=by kernel_rfl)(ae:uT ops u=true:=by kernel_rfl)(af:Region.free .any ops u i=true:=by kernel_rfl)(ai:(Region.ready .any ops u).contains i=true:=by kernel_rfl)(al:Region.wanted E (yielded ops a.tmps)=true:=by exact F)(am:I->∀w,S w->(execOp a.eval E).run P w= .ok (.value v) w:=by(intro hf wq eU;have oz:=hf wq eU;go_simp;try with_reducible rfl))(hx:R->lX P ops Q T S W f (u.setIfInBounds i true) (a.put E.dst v) w:=by(intro hx;simp only[Act.put,setIfInBounds_toArray,set_cons_succ,set_cons_zero];exact hx))(ab:S w:=by exact Z)(ac:T w:=by exact qU)(aa:∀c a w,Q (.panic c) (a.put E.dst v) w->Q (.panic c) a w:=by exact fun _ _ _ h=>h):lX P ops Q T S W (f+1) u a w:=
 abG i ag hs ad ae af ai aa (.inl ⟨al,am hf⟩) ab ac (hx h)
end
end
def yV(n:Nat):Code->Option (Array Oper)
 | .region id ops _=>if id=n then some ops else none
 | .seq a b=>match yV n a with
  |some c=>some c
  |none=>yV n b
 | .cond _ a b=>match yV n a with
  |some c=>some c
  |none=>yV n b
 | .loop c=>yV n c
 | .block _ c=>yV n c
 | .scope c=>yV n c
 |_=>none
def xZ(f:Func)(n:Nat):Array Oper:=((f.body.bind (yV n)).getD #[])
section
open Go Go.RowKit
theorem TM{w:World}{B g n:Nat}{a:aN}{xs:aO}(h:bJ w B a xs)(u:xs.length=0->n=0)(E:g<B):iC g a n:=by
 rcases h with h|⟨b,off,ha,hb,_⟩
 ·exact .inl (u (by rw[h];rfl))
 ·refine .inr fun A j=> ?_;rw[ha]at j;injection j with j;rw[<-j];show b≠g;omega
theorem Me{w w':World}{B:Nat}{r:Option Nat}{a:aN}{xs:aj}(h:bJ w B a (xs.map Y))(j:∀g,r=some g->iC g a xs.length)(k:w.grownBy w' r):bJ w' B a (xs.map Y):=
 h.row (z:=1) (by rw[length_map,Nat.one_mul]) j k
structure mW(w:World)(B:Nat)(v:Value)(rs:List aG):Prop where
 own:w.ownsRow B 34 68 v rs.length (iM rs)
 ok:∀e∈rs,e.Ok w
 eo:∀e∈rs,∀g,v.ownBlock=some g->iC g e.ba e.bn
section
variable {w w':World} {B:Nat} {v v':Value} {rs:List aG}
theorem mW.nil(w:World)(B:Nat):mW w B (.slice none 0 0) []:=⟨⟨F,.inl ⟨F,F⟩⟩,aF,aF⟩
theorem mW.ext(h:mW w B v rs)(e:X w w'):mW w' B v rs:=⟨dQ h.own e,fun x j=>(h.ok x j).ext e,h.eo⟩
theorem mW.upd(h:mW w B v rs){g:Nat}{vs:aO}{T:TypeId}(u:aU w g w')(hb:ah w g vs T)(I:34≠T)(R:∀e∈rs,iC g e.ba e.bn):mW w' B v rs:=
 ⟨n_ h.own u hb I,fun x E=>(h.ok x E).row (r:=some g) (fun q j=>by injection j with j;exact j▸R x E) (qC u),h.eo⟩
theorem mW.append(h:mW w B v rs){e:aG}(ab:e.Ok w)(ac:∀g,v.ownBlock=some g->iC g e.ba e.bn)(ow:w'.ownsRow B 34 68 v' (rs.length+1) (iM rs++e.v))(aa:w.grownBy w' v.ownBlock)
 (hb:v'.ownBlock=v.ownBlock∨v'.ownBlock=some w.heap.size):mW w' B v' (rs++[e]):=by
 have u:∀x∈rs++[e],x.Ok w/\∀g,v.ownBlock=some g->iC g x.ba x.bn:=fun x j=>by
  rcases mem_append.1 j with j|j
  ·exact⟨h.ok x j,h.eo x j⟩
  ·rw[mem_singleton.1 j];exact⟨ab,ac⟩
 refine⟨?_,fun x j=>(u x j).1.row (u x j).2 aa,fun x j g E=> ?_⟩
 ·rw[length_append,length_singleton,GV];have:iM [e]=e.v:=by unfold iM;simp
  rw[this];exact ow
 ·rcases hb with I|I
  ·exact(u x j).2 g (I▸E)
  ·rw[I]at E;injection E with E;exact yU (u x j).1.hcl (fun R=>by rw[length_map,(u x j).1.hb]at R;exact R) J
theorem mW.lower(h:mW w B v rs){B':Nat}(hb:B'<=B):mW w B' v rs:=⟨mg h.own hb,h.ok,h.eo⟩
theorem mW.abM(h:mW w B v rs):∃a c,v= .slice a rs.length c/\sK w a rs.length c rs:=by
 obtain⟨a,c,E,u,j,hc⟩:=iJ h.own;exact⟨a,c,E,F,u,j,h.ok,hc⟩
end
noncomputable def abN(n:Nat):Array Oper:=xZ f11 n
theorem abO(l:aj)(a:aN)(n c:Nat)(w:World)(cf:l.length=n)(df:n<=c)(hn:n<=1000000000)(hc:c<=9223372036854775807)(ce:aK w a (l.map Y)):
 Calls prog 11 #[.slice a n c] w fun x w'=>∃v rs,x= .returned (.tuple #[v,.int .i64 (nI l).2])/\mW w' w.heap.size v rs/\rs.map aG.p=(nI l).1/\(∀e∈rs,bJ w' w.heap.size e.ba (e.body.map Y))/\X w w':=by
 obtain⟨dm,b1⟩:=aB ce cf;obtain⟨dr,cb⟩:=jE (fun x w'=>∃v rs,x= .returned (.tuple #[v,.int .i64 (nI l).2])/\mW w' w.heap.size v rs/\rs.map aG.p=(nI l).1/\(∀e∈rs,bJ w' w.heap.size e.ba (e.body.map Y))/\X w w':Ending->World->Prop);rw[<-cb];obtain⟨bc,c8⟩:=aB cb (fun(p:Nat) ae (bh:X w ae)=>abD l a n c (p:Int) ae cf df J hc (ce.ext bh));clear cf ce cb;go_enter func11,ntmps11;go_upto_region 3 with fail;generalize ci:World.alloc w _=c0;have cF:ah c0 w.heap.size (kN.map Y) 31:=by rw[<-ci];exact ah.aI F F
 have ad:X w c0:=by rw[<-ci];exact(X.refl w).alloc _
 obtain⟨B0,ck⟩:=aB cF ad;clear ci cF ad;obtain⟨g5,bl⟩:=aC w.heap.size;have R:=O bl;rw[bl]at B0
 conv=>rw[bl]
 clear bl;go_wp2_with fail;go_loopw [4,6] (fun v i wr=>∃(p:Nat) (rs:List aG),i= .int .i64 (p:Int)/\lW l p (rs.map aG.p)/\mW wr (g5+1) v rs/\(∀e∈rs,bJ wr (g5+1) e.ba (e.body.map Y))/\ah wr g5 ((lq (rs.map aG.p)).map Y) 31/\X w wr) (fun _ i _=>n - (intOf i).toNat)
 case atStart=>exact⟨0,[],F,lW.start l,mW.nil _ _,aF,B0,ck⟩
 case round=>
  obtain⟨p,rs,rfl,cQ,ch,cP,cL,bh⟩:=hrel;obtain⟨a3,bd,bz,bx,a6⟩:=dM cQ ch cP cL bh;obtain⟨cW,cX,rfl,dj,dg,di⟩:=iJ ch.own;clear cQ ch cP cL bh dj dg di B0 ck;by_cases bo:p<n
  ·have a9:=O (show p<l.length by rw[b1.out];exact bo);have dd:decide ((p:Int)<(n:Int))=true:=aQ J;have de:decide (p<n)=true:=aQ bo;go_wp2_with fail;refine(c8 p wr a6).mono ?_;rintro dE w2 ⟨e,rfl,aw,cN,e2⟩;have an:=O cN;have cA:=O aw.1;have cz:=O aw.2;have a2:=O (aG.len aw.1);obtain⟨E,ca⟩:=aC ((fQ l p).2.2);obtain⟨Q,j⟩:=aC ((fQ l p).2.1);rw[ca,j];obtain⟨a1,c_⟩:=aB ca j;have cs:=O bx.lt;obtain⟨cy,ct,b3,B2,cE,co,cl⟩:=su (show∀g,g<wr.heap.size->iC g e.ba e.bn from fun g u=>TM aw.2 (fun ad=>by rw[length_map,aw.1.hb]at ad;exact ad) u) (show wr.heap.size<=w2.heap.size from e2.size) (show∀g,(Value.slice cW rs.length cX).ownBlock=some g->g<wr.heap.size from fun g u=>(bd.own.lt g u).2) (bx.ext e2) (bd.ext e2) (fun x hx=>(bz x hx).ext e2) (a6.ext e2);clear cN aw ca j e2 a6 bx bd bz;go_upto_region 6 with(refine bg F _ (.tmp 7) _ F F F (ah.aI (vs:=dS.v) F F) cZ (aG.len (EJ w)) a2 (i_ e) ?_);intro az cG cY;have ai:X w2 az:=cY.ext ((X.refl _).alloc _) bG;obtain⟨af,a5,be,a8,a7,ao,db⟩:=su cG (B2.ext ai) (cE.ext ai) (fun x hx=>(co x hx).ext ai) (cl.ext ai) (cA.ext ai) (cz.ext ai);clear cG cY ai B2 cE co cl cA cz;generalize w2.heap.size=cI at*;by_cases bj:E=0
   ·subst bj;have bp:(rs.map aG.p).length=rs.length:=length_map _;by_cases am:e.num=(rs.length:Int)
    ·have a_:=O (show(fQ l p).1.num=((rs.map aG.p).length:Int) by rw[<-an.out,bp];exact am);obtain⟨ax,bm⟩:=aC (lq (rs.map aG.p));have cg:ax.length=32:=by rw[<-bm];exact Lh _
     obtain⟨b0,cv⟩:=aB (show(ax.map Y).length=32 by rw[length_map];exact cg) bm;rw[bm]at a5;obtain⟨bs,cd⟩:=aC ((!(e.prev==ax)));obtain⟨cw,cC,cr⟩:=aW (fun ae=>(vY underlying31 e.prev ax ao.hp cg ae).trans (by rw[cd])) (show(e.prev.map Y).length=32 by rw[length_map];exact ao.hp) cd;have cH:=af.cell' (aG.aL e);rw[am]at cH;have dq:=O am;clear bm cd am cg bp;go_upto_region 10 with fail;cases bs with
     |true=>
      have b2:=O (show(fQ l p).1.prev≠lq (rs.map aG.p) by
       rw[<-an.out,cv.out];intro h;have I:=cr.out;rw[show e.prev=ax from h]at I;simp at I)
      have aa:=O (a3.seal a9 a1 a_ b2);go_wp2_with (first|(refine bF F (bQ F F (dF af (aG.BH ao)) bY cC) ?_)|(refine bV F 31 _ F F a5 bY b0 ?_)|(refine bF F (jm F F F EI (fun w=>cw w) _) ?_))
      (try go_ret)
      rw[bc.out];exact⟨_,rs,by rw[aa.out];rfl,be.lower (by have:=R.out;omega),by rw[aa.out],fun x hx=>(a8 x hx).lower (by have:=R.out;omega),a7⟩
     |false=>
      have b2:=O (show(fQ l p).1.prev=lq (rs.map aG.p) by
       rw[<-an.out,cv.out];have I:=cr.out;show e.prev=ax;simpa using I)
      obtain⟨q,cT,cS,cR⟩:=a3.step a9 a1 a_ b2;have da:Q=(q:Int):=by rw[<-c_.out,cT]
      subst da;obtain⟨ba,c9⟩:=aB cR cS;clear cT cS cR;go_upto_region 12 with(first|(refine bF F (bQ F F (dF af (aG.BH ao)) bY cC) ?_)|(refine bV F 31 _ F F a5 bY b0 ?_)|(refine bF F (jm F F F EI (fun w=>cw w) _) ?_));have dp:rs.length+1<=9000000:=by have I:=ba.many;have bi:=ba.pl;rw[b1.out]at bi;rw[length_append,length_map,length_singleton]at I;omega
      have c5:=O (show dN e=0 by
       have I:=ba.good (fQ l p).1 aF;rw[<-an.out]at I;rw[xH];exact I)
      have c6:=O (nZ e);have c7:=O (show((ig e).map Y).length=32 by rw[length_map];exact c6);obtain⟨C,ac,aJ,bP⟩:=iw (show bT w az [cI] [] az from bT.jA a7 (dV.one af.lt));refine fJ (ops:=(abN 12)) fun Z=> ?_;refine aA 0 ?_;refine bD 1 F (oC F 34 _ F F (fun ae h=>((ac ae).1 h).blk af aF) cZ a2) ?_;refine bD 4 F (oC F 34 _ F F (fun ae h=>((ac ae).1 h).blk af aF) cZ a2) ?_;refine aA 6 ?_;have ar:X az az.drew:=(X.refl _).drew;obtain⟨br,b7,bv,b5,b4⟩:=dM (a5.ext ar) (be.ext ar) (fun x hx=>(a8 x hx).ext ar) (ao.ext ar) (db.ext ar);generalize World.drew az=aE at Z⊢br b7 bv b5 b4;clear ar;refine aZ 2 ?_;intro ab j;go_wp2_with (refine Cc GX aX F F F a2 ?_);refine j _ _ (aJ _ _ Z ((X.refl aE).alloc _)) ?_;clear j ab;have al:X aE (World.alloc aE (.cells e.v.toArray 34)):=(X.refl _).alloc _;have cx:=O (aK.eG (ah.aI (w:=aE) (T:=34) (vs:=e.v) F F));have cJ:=aJ _ _ Z al;obtain⟨bt,ag,cp,b6,cD⟩:=dM (br.ext al) (b7.ext al) (fun x hx=>(bv x hx).ext al) (b5.ext al) (b4.ext al);generalize aE.heap.size=g4 at*;generalize World.alloc aE (.cells e.v.toArray 34)=dk at*;clear Z al br b7 bv b5 b4;have Z:=cJ;clear cJ;refine aH ?_;refine aZ 3 ?_;intro ab j;go_wp2_with (refine qB GX F _ _ F (g5+1) (m:=1) (news:=e.v) F F ag.own (by rw[a2.out]) bG (by intro h;cases h) cx (i_ e) J J (by have:=bt.lt;omega) ?_);intro dC a0 cV aq cM;have cU:∀g,(Value.slice cW rs.length cX).ownBlock=some g->g5+1<=g:=fun g u=>(ag.own.lt g u).1;have bk:C a0:=(ac a0).2 (((ac dk).1 Z).yJ aq (fun g u h=>by
       have I:=b3.out g u;have bi:g=cI:=by simpa using h
       have dy:=ct.out;omega) (fun g u=>by have I:=cU g u;have bi:=R.out;omega))
      obtain⟨b8,cj,cm⟩:=aW (ag.append b6 (fun g u=>cy g (b3 g u)) cV aq cM) (bt.besides ag.own aq aX) (show X w a0 from((ac a0).1 bk).base);have cq:=O (show∀x∈rs++[e],bJ a0 (g5+1) x.ba (x.body.map Y)from fun x hx=>by
       rcases mem_append.1 hx with hx|hx
       ·exact Me (cp x hx) (by rw[(ag.ok x hx).hb];exact ag.eo x hx) aq
       ·rw[mem_singleton.1 hx];exact Me (cD.lower (by have:=cs.out;omega)) (by rw[b6.hb];exact fun g u=>cy g (b3 g u)) aq)
      refine j _ _ bk ?_;clear j ab Z cV aq cM cU ag bt cp b6 cD cx;have Z:=bk;clear bk;refine aH ?_;refine aZ 5 ?_;intro ab j;go_wp2_with fail;refine(GN e a0 (b8.ok e aF) c5).mono ?_;rintro dT dl ⟨rfl,ap⟩;have cc:=aJ _ _ Z ap;obtain⟨b9,bu,cn,bw⟩:=bU (b8.ext ap) (cj.ext ap) (cm.ext ap) (fun x hx=>(cq x hx).ext ap);go_wp2_with fail;refine j _ _ cc ?_;clear j ab Z ap b8 cj cm cq;have Z:=cc;clear cc;refine aH ?_;refine aZ 7 ?_;intro ab j;go_wp2_with (fail);refine j _ _ Z ?_;clear j ab;refine aH ?_;refine aZ 8 ?_;intro ab j;go_wp2_with (refine bg F _ _ _ F F F bu bY b0 c7 (b_ _) ?_);intro c1 b' a4;replace Z:C c1:=(ac c1).2 (((ac dl).1 Z).store a4 b' aF (by have:=R.out;omega) (by have I:=ct.out;have bi:=cs.out;simp;omega));obtain⟨dc,c2,c3,c4⟩:=bU (b9.upd a4 bu aX (fun x hx=>TM (bw x hx) (fun ad=>by rw[length_map,(b9.ok x hx).hb]at ad;exact ad) (Nat.lt_succ_self _))) b' (a4.ext cn (by have:=R.out;omega)) (fun x hx=>(bw x hx).upd a4 (Nat.lt_succ_self _));go_wp2_with fail;refine j _ _ Z ?_;clear j ab b' a4 b9 bu cn bw;refine aH ?_;refine aZ 9 ?_;intro ab j;go_wp2_with (fail);refine j _ _ Z ?_;clear j ab;refine aH ?_;refine dH ?_;clear Z aJ ac bP C;go_wp2_with fail;go_roundw
      case rel=>
       refine⟨q,rs++[e],F,?_,dc,c4,?_,c3⟩
       ·rw[map_append,map_singleton,an.out];exact ba
       ·rw[map_append,map_singleton,SC,Ii e ao.hb];exact c2
      case measure=>simp[intOf];have:=c9.out;omega
    ·have a_:=O (show(fQ l p).1.num≠((rs.map aG.p).length:Int) by rw[<-an.out,bp];exact am);have dv:(e.num != (rs.length:Int))=true:=by simp;exact am
     have du:decide (e.num=(rs.length:Int))=false:=aP am;have aa:=O (a3.order a9 a1 a_);have cH:=af.cell' (aG.aL e);clear bp;go_wp2_with fail
     (try go_ret)
     rw[bc.out];exact⟨_,rs,by rw[aa.out];rfl,be.lower (by have:=R.out;omega),by rw[aa.out],fun x hx=>(a8 x hx).lower (by have:=R.out;omega),a7⟩
   ·have ds:(E != 0)=true:=by simp;exact bj
    have dt:decide (E=0)=false:=aP bj;have aa:=O (a3.bad a9 (by rw[a1.out];exact bj));go_wp2_with fail
    (try go_ret)
    rw[bc.out];exact⟨_,rs,by rw[aa.out,a1.out];rfl,be.lower (by have:=R.out;omega),by rw[aa.out],fun x hx=>(a8 x hx).lower (by have:=R.out;omega),a7⟩
  ·have dd:decide ((p:Int)<(n:Int))=false:=aP J;have de:decide (p<n)=false:=aP bo;have aa:=O (a3.fin (by rw[b1.out];exact bo));go_wp2_with fail
   (try go_ret)
   rw[bc.out];exact⟨_,rs,by rw[aa.out];rfl,bd.lower (by have:=R.out;omega),by rw[aa.out],fun x hx=>(bz x hx).lower (by have:=R.out;omega),a6⟩
end
theorem abT(t:aj)(a:aN)(n c:Nat)(w:World)(ht:t.length=n)(hn:n<=1048576)(al:n<=c)(hc:c<=9223372036854775807)(aa:a=none->c=0)(ab:aK w a (t.map Y)):
 Calls prog 63 #[.slice a n c] w fun e w'=>e= .returned (.tuple #[.agg ((dY 1 t).map Y).toArray,.int .i64 0])/\X w w':=by
 have hs:=O (fun w' h=>Gf 1 t n c a w' ht al hc aa h);have ac:uX 1 t n= .tuple #[.agg ((dY 1 t).map Y).toArray,.int .i64 0]:=by rw[uX,if_neg J,if_pos J]
 rw[ac]at hs;have R:Hid (((dY 1 t).map Y).length=32):=O (by rw[length_map,j_]);have am:=b_ (dY 1 t);have af:=O ab;clear ht ab ac aa;generalize (dY 1 t).map Y=ao at*;go_enter func63,ntmps63;go_upto_region 1 with(fail);generalize E:World.alloc w _=I;have ad:ah I w.heap.size (List.replicate 32 (.int .u8 0)) 31:=by rw[<-E];exact ah.aI F F
 have u:X w I:=by rw[<-E];exact(X.refl w).alloc _
 clear E;go_wp2_with fail;refine(hs I (af.ext u)).mono ?_;rintro e ap ⟨rfl,j⟩;obtain⟨ag,ae⟩:=aB (ad.ext j) (u.ext j);clear ad u j;go_wp2_with (refine bg F _ _ _ F F F ag bY aF R am ?_);intro aq ai an;go_wp2;refine iy F F ai bY R F ⟨F,an.ext ae bG⟩
theorem TP:(prog.info? 31).map (fun i=>(i.zero,i.size,i.bytes))=some (some (.agg (List.replicate 32 (.int .u8 0)).toArray),32,32):=au
theorem TQ:(Value.agg (List.replicate 32 (.int .u8 0)).toArray).cells.size=32:=by simp[Value.cells]
theorem abU(y:aj)(E:y.length=32)(j:Array Value)(hc:j.size=32):Instr.fill (fun i=>some (i*32,32)) j [(0,.agg (y.map Y).toArray)]=some (y.map Y).toArray:=by
 have h:=Great.fill_whole (s:=32) J [.agg (y.map Y).toArray] j (by intro v u;rw[mem_singleton.1 u];simp[Value.cells,E]) (by simp[hc]);simpa[Value.cells]using h
theorem abV{P:Program}{o:Oper}{a:Act}{t e:TypeId}{x:Operand}{y:aj}(aa:o.op= .buildSlice t 1 #[(0,x)])(ac:a.eval x= .agg (y.map Y).toArray)(ad:y.length=32)(ab:P.underlying t=some (.slice e))
 {j:TypeInfo}{z:Value}(R:P.info? e=some j)(ae:j.zero=some z)(u:j.size=32)(af:z.cells.size=32)(w:World):
 (execOp a.eval o).run P w= .ok (.value (.slice (some ⟨w.heap.size,0,none⟩) 1 1)) (w.alloc (.cells (y.map Y).toArray e)):=by
 have h:=run_buildSlice (P:=P) w t e 1 #[(0,.agg (y.map Y).toArray)] (y.map Y).toArray j z ab R ae (by rw[u];omega) (by rw[u];omega) (by rw[u];exact abU y ad _ aF);have I:(#[(0,x)].map fun(p:Nat×Operand)=>(p.1,a.eval p.2))= #[(0,.agg (y.map Y).toArray)]:=by simp[ac]
 unfold execOp;simp only[aa,Sem.run_bind];have E:(Instr.buildSlice t 1 (#[(0,x)].map fun(p:Nat×Operand)=>(p.1,a.eval p.2))).run P w= .ok (.slice (some ⟨w.heap.size,0,none⟩) 1 1) (w.alloc (.cells (y.map Y).toArray e)):=by rw[I];exact h
 rw[E];rfl
theorem abW{P:Program}{ops:Array Oper}{rest:List Oper}{o:Oper}{a:Act}{w w':World}{Q:Exit->Act->World->Prop}{v:Value}(u:o.guard=none)(E:(execOp a.eval o).run P w= .ok (.value v) w')(h:wpList P ops Q rest (a.put o.dst v) w'):wpList P ops Q (o::rest) a w:=
 wpList_plain u fun K j=>by
  unfold Oper.wp;rw[E,Oper.upon_value];exact j _ _ h
theorem TR{ops:Array Oper}{rest:List Oper}{o:Oper}{a:Act}{w:World}{Q:Exit->Act->World->Prop}(j:o.guard=none){x:Operand}{y:aj}(E:o.op= .buildSlice 59 1 #[(0,x)])(R:a.eval x= .agg (y.map Y).toArray)(aa:y.length=32)
 (h:wpList prog ops Q rest (a.put o.dst (.slice (some ⟨w.heap.size,0,none⟩) 1 1)) (w.alloc (.cells (y.map Y).toArray 31))):wpList prog ops Q (o::rest) a w:=by
 obtain⟨ad,u,ab,I,ac⟩:=info_parts TP;exact abW j (abV E R aa underlying59 u ab I TQ w) h
theorem abX(w:World)(B:Nat)(t e ty:TypeId){E:TypeInfo}{aa:Value}{z:Nat}(ae:prog.underlying t=some (.slice e))(ab:prog.info? e=some E)(al:E.zero=some aa)(ad:E.size=z)(ag:E.bytes=z)(aE:aa.cells.size=z)(am:0<z)
 {v:Value}{n m c:Nat}{xs news:aO}{y:Addr}(I:w.ownsRow B e z v n xs)(ai:news.length=m*z)(hc:∀j u,news[j]? =some u->w.cell? (y.add j)=some u)(an:∀u∈news,u.oneCell'=true)
 (hb:(n+m)*z<=140737488355328)(aw:B<=w.heap.size):
 ∃v' w',(Builtin.append_ #[t,t] ty #[v,.slice (some y) m c]).run prog w= .ok v' w'/\w'.ownsRow B e z v' (n+m) (xs++news)/\w.grownBy w' v.ownBlock/\
  (v'.ownBlock=v.ownBlock∨v'.ownBlock=some w.heap.size):=by
 have a6:n+m<=140737488355328:=Nat.le_trans (Nat.le_mul_of_pos_right _ am) hb;have a4:m*z<=140737488355328:=Nat.le_trans (Nat.mul_le_mul_right z (Nat.le_add_left m n)) hb;have ao:news.length=m*E.size:=by rw[ad];exact ai
 obtain⟨v',w',ac,ap,aq,ar⟩:=run_append_own (P:=prog) w B t ty e E aa z z ae ab al ad ag aE am v n xs I y m c news ai hc an (by unfold maxLen;omega) hb aw;refine⟨v',w',ac,ap,aq,?_⟩;rcases I.2 with⟨rfl,rfl⟩|⟨g,af,cu,rfl,a0,a3,a5,a1,a2,a7⟩
 ·by_cases ax:m=0
  ·left
   rw[ar.2 ⟨F,ax⟩]
  ·right
   have R:=run_append_nil (P:=prog) w t ty e E aa ae ab al y m c news ao hc J J (by rw[ag];omega);exact JJ R ac F
 ·by_cases az:n+m<=af
  ·left
   obtain⟨w2,R,_⟩:=run_append_fits (P:=prog) w B t ty e E z ae ab ad g n af xs I y m c news ai hc an az;exact JJ R ac F
  ·right
   have R:=run_append_grow (P:=prog) w t ty e E aa ae ab al ⟨g,0,none⟩ n af xs (by rw[ad];exact I.1) (I.cells (g:=g) F) y m c news ao hc J J (growslice_fits J (by rw[ag];omega));exact JJ R ac F
theorem TS{ops:Array Oper}{rest:List Oper}{o:Oper}{a:Act}{w:World}{Q:Exit->Act->World->Prop}(ac:o.guard=none)(s x:Operand)
 (ae:o.op= .call {callee:= .builtin .append,args:= #[s,x],argTypes:= #[59,59]})(base:Nat){v:Value}{n c g:Nat}{j:List (aj)}{y:aj}{T:TypeId}
 (hs:a.eval s=v)(al:a.eval x= .slice (some ⟨g,0,none⟩) 1 c)(af:w.ownsRow base 31 32 v n (dB j))(am:y.length=32)(hb:ah w g (y.map Y) T)
 (hn:(n+1)*32<=140737488355328)(ab:base<=w.heap.size)
 (h:∀v' w',w'.ownsRow base 31 32 v' (n+1) (dB (j++[y]))->w.grownBy w' v.ownBlock->(v'.ownBlock=v.ownBlock∨v'.ownBlock=some w.heap.size)->wpList prog ops Q rest (a.put o.dst v') w'):wpList prog ops Q (o::rest) a w:=by
 obtain⟨ao,ad,an,ai,aa⟩:=info_parts TP;obtain⟨v',w',ag,u,E,I⟩:=abX w base 59 31 o.type (m:=1) (c:=c) underlying59 ad an ai aa TQ aX af (by rw[length_map,am]) (tJ hb) (b_ _) hn ab;exact wpList_plain ac fun K R=>Lib.wp_append_run w s x _ _ ae v _ hs al v' w' ag (R _ _ (h v' w' (by rw[Oh,Oi];exact u) E I))
theorem dP.keep{w w':World}{p:Addr}{xs:aO}(h:dP w p xs)(I:p.spot=none)(hk:w'.heap[p.block]? =w.heap[p.block]?):dP w' p xs:=by
 intro j u R;have E:=h j u R;obtain⟨b,off,aa⟩:=p;simp only at I hk;subst I;rw[dn]at E⊢;simp only[World.cell?]at E⊢;rw[hk];exact E
end Go.Proofs.YtjlhhnkhcbpnjaaGreatDoor
