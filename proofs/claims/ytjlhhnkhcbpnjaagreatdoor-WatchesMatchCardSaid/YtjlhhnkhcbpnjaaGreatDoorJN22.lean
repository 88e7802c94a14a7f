/- Laws; no condition. -/
import Derived.Test.YtjlhhnkhcbpnjaaGreatDoorJN21
import Derived.Deep.Strs
import Derived.ProofKit
import Derived.OpenShut
namespace Go.Proofs.YtjlhhnkhcbpnjaaGreatDoor
open Go Go.RowKit Go.ChangeShapes Go.WideShapes Go.ChangeAt Go.Deep List Tryz
set_option linter.all false
set_option maxHeartbeats 40000000
set_option maxRecDepth 100000
variable{H:Type}{enc:TypeId×Value->H}{P:Program}{w:World}
def afT{w:World}{base:Nat}{p:Addr}{k:Nat}{cs:aP}(h:w.cells? base p k=some cs):cs.length=k/\d9 w p cs:=by
 unfold World.cells? at h;split at h
 ·refine⟨by simpa using mapM_some_length h,λj u a=> ?_⟩;have c:j<k:=by
   have d:=(iK.1 a).1;have b:=mapM_some_length h;simp at b;omega
  have:=mapM_some_get h j j (by simp[c]);rw[a]at this;exact this
 ·cases h
instance:Inhabited l9:=⟨⟨0,0,0,0,0,0⟩⟩
def ae8{base f:Nat}{a:Bool}{cs:aP}{x:DataW H×List MemPlace}(q:DataW.trod enc prog w base (λ_=>true) a f 103 cs=some x)(s:cs.length=6):
 ∃r:l9,cs=r.v:=by
 have u:=underlying103;obtain⟨xs,m,_,_,S,t,c⟩:=DataW.trod_struct u q;have b:prog.cellsOf 3=1:=aC
 match xs,t,cs,s with
 |[y0,D,E,G,I,K],_,[v,y,z,A,B,C],_=>
 have k:DataW.trod enc prog w base (λ_=>true) a m 3 [v]=some y0:=by have:=c 0 _ F;simpa[b]using this
 have g1:DataW.trod enc prog w base (λ_=>true) a m 3 [y]=some D:=by have:=c 1 _ F;simpa[b]using this
 have l:DataW.trod enc prog w base (λ_=>true) a m 3 [z]=some E:=by have:=c 2 _ F;simpa[b]using this
 have n:DataW.trod enc prog w base (λ_=>true) a m 3 [A]=some G:=by have:=c 3 _ F;simpa[b]using this
 have o:DataW.trod enc prog w base (λ_=>true) a m 3 [B]=some I:=by have:=c 4 _ F;simpa[b]using this
 have p:DataW.trod enc prog w base (λ_=>true) a m 3 [C]=some K:=by have:=c 5 _ F;simpa[b]using this
 obtain⟨L,d,_,_⟩:=KP underlying3 k;obtain⟨M,e,_,_⟩:=KP underlying3 g1;obtain⟨N,g,_,_⟩:=KP underlying3 l;obtain⟨P,h,_,_⟩:=KP underlying3 n;obtain⟨Q,i,_,_⟩:=KP underlying3 o;obtain⟨R,j,_,_⟩:=KP underlying3 p;refine⟨⟨L,M,N,P,Q,R⟩,?_⟩;unfold l9.v;simp only[List.cons.injEq,and_true]at d e g h i j;rw[d,e,g,h,i,j]
def afb{base f:Nat}{B:Bool}{cs:aP}{x:DataW H×List MemPlace}(C:DataW.trod enc prog w base (λ_=>true) B f 22 cs=some x):
 ∃(a:aO) (n c:Nat) (ls:List l9),cs=[.slice a n c]/\ls.length=n/\n<=c/\c<=maxLen/\aM w a (yw ls):=by
 have m:prog.cellsOf 103=6:=aC;rcases DataW.trod_slice underlying22 C with⟨D,e⟩|⟨a,len,cap,h,rest,n,_,rfl,rfl,T,E,I,U,A,W,V⟩
 ·exact⟨none,0,0,[],D,F,aQ _,w_ _,.inl F⟩
 ·have o:∀i,i<len->∃s:l9,d9 w (a.add (i*6)) s.v:=by
   intro i k;have e:=A i k;have N:h[i]? =some (h[i]'J):=aB;rw[m,N,Option.bind_eq_some_iff]at e;obtain⟨S,z,P⟩:=e;obtain⟨G,v⟩:=afT z;obtain⟨r,K⟩:=ae8 P G;exact⟨r,K▸v⟩
  obtain⟨g,j⟩:=choose_lt (p:=λi s=>d9 w (a.add (i*6)) (l9.v s)) o;refine⟨some a,len,cap,(List.range len).map g,F,aB,E,I,?_⟩;by_cases Q:len=0
  ·left;subst Q;rfl
  ·have t:=j 0 J;obtain⟨b,off,R⟩:=a;have M:R=none:=by
    have:=t 0 (.int .i64 (g 0).wait) F;simpa[Addr.add]using World.cell?_spot this
   subst M;refine .inr ⟨b,off,F,λi u l=> ?_⟩;have k:i<6*len:=by
    have:=(iK.1 l).1;rw[YF]at this;simpa using this
   have y:=j (i / 6) J;have L:((List.range len).map g)[i / 6]? =some (g (i / 6)):=by
    rw[iT,List.getElem?_range J];rfl
   have q:(l9.v (g (i / 6)))[i%6]? =some u:=by
    rw[<-YE L,uM (Jk _ J),qY,FD,Nat.div_add_mod];exact l
   have d:=y _ _ q;rw[eX,eX]at d;rw[show off+i / 6*6+i%6=off+i by omega]at d;exact d
def ajE{r:Reach}{e base:Nat}{i:Bool}{v:Value}{d:DataW H}{o:List MemPlace}
 (m:Value.okWide prog w r e 22 v)(h:DataW.Trod enc prog w base (λ_=>true) i 22 v d o):
 ∃(a:aO) (n c:Nat) (ls:List l9),v= .slice a n c/\ls.length=n/\n<=c/\c<=maxLen/\aM w a (yw ls):=by
 obtain⟨a,n,c,rfl⟩:=okWide_slice underlying22 m;obtain⟨s,j⟩:=h;obtain⟨p,t,q,ls,b,k,l,g,f⟩:=afb j;simp[Value.cells]at b;obtain⟨rfl,rfl,rfl⟩:=b;exact⟨a,n,c,ls,F,k,l,g,f⟩
def aoD{n:Int}(h:(Lit.int .u8 n).wf=true):∃x:UInt8,Value.int .u8 n=Y x:=by
 have a:=bounds_u8 h;refine⟨UInt8.ofNat n.toNat,?_⟩;unfold Y
 congr 1
 rw[FL];omega
def aoG:∀(vs:aP),(∀(i:Nat) (v:Value),vs[i]? =some v->∃x:UInt8,v=Y x)->∃l:ah,vs=l.map Y
 |[],_=>⟨[],F⟩
 |v::vs,h=>by
  obtain⟨x,hx⟩:=h 0 v F;obtain⟨l,a⟩:=aoG vs λi u b=>h (i+1) u (by simpa using b);exact⟨x::l,by rw[hx,a];rfl⟩
def aoS{a:Prop}(e:a:=by
 have h4:DataW.trod enc P w base sp aoz m e [u]=some xs[i]:=by
  rw[<-h2,<-hx];exact h1
 obtain⟨k,hk,_,hw⟩:=KP he h4;have hu':u= .int .u8 k:=by simpa using hk
 rw[hu'];exact aoD hw):a:=e
def aoP{r:Reach}{k base:Nat}{sp:Nat->Bool}{aoz:Bool}{t e:TypeId}{n:Nat}{v:Value}{d:DataW H}{A:List MemPlace}(g:P.underlying t=some (.array n e))(he:P.underlying e=some (.int .u8))(o:P.cellsOf e=1)(q:P.cellsOf t=n)
 (c:Value.okWide P w r k t v)(b:DataW.Trod enc P w base sp aoz t v d A):∃l:ah,l.length=n/\v= .agg (l.map Y).toArray:=by
 unfold Value.okWide at c;rw[g]at c;obtain⟨cs,rfl,hs,_⟩:=c;obtain⟨B,x⟩:=b;obtain⟨xs,m,_,_,C,D,s⟩:=DataW.trod_array g x;have p:cs.toList.length=n:=by rw[pz,hs,q]
 obtain⟨l,f⟩:=aoG cs.toList λi u h=>by
  have z:i<n:=by
   have:=(iK.1 h).1;omega
  have h1:=s i z;rw[o,nA]at h1;have hx:xs[i]? =some xs[i]:=aB;have h2:(cs.toList.drop i).take 1=[u]:=by
   have a:=qY (xs:=cs.toList) (i:=i) (j:=0);rw[z8,h]at a;cases b:cs.toList.drop i with
   |nil=>rw[b]at a;simp at a
   |cons y r=>rw[b]at a;simp at a;simp[a]
  exact aoS
 refine⟨l,?_,?_⟩
 ·have:=lq List.length f;rw[p,aI]at this;exact this.symm
 ·rw[<-f]
instance:Inhabited zR:=⟨⟨0,0,false,0⟩⟩
def aoM{base f:Nat}{a:Bool}{cs:aP}{x:DataW H×List MemPlace}(o:DataW.trod enc prog w base (λ_=>true) a f 76 cs=some x)(p:cs.length=4):
 ∃r:zR,cs=r.v:=by
 have u:=underlying76;obtain⟨xs,m,_,_,L,s,b⟩:=DataW.trod_struct u o;have c:prog.cellsOf 3=1:=aC;have i:prog.cellsOf 4=1:=aC;have j:prog.cellsOf 5=1:=aC
 match xs,s,cs,p with
 |[y0,C,D,E],_,[y,z,A,B],_=>
 have k:DataW.trod enc prog w base (λ_=>true) a m 3 [y]=some y0:=by have:=b 0 _ F;simpa[c]using this
 have g1:DataW.trod enc prog w base (λ_=>true) a m 3 [z]=some C:=by have:=b 1 _ F;simpa[c]using this
 have l:DataW.trod enc prog w base (λ_=>true) a m 4 [A]=some D:=by have:=b 2 _ F;simpa[i]using this
 have n:DataW.trod enc prog w base (λ_=>true) a m 5 [B]=some E:=by have:=b 3 _ F;simpa[j]using this
 obtain⟨G,d,_,_⟩:=KP underlying3 k;obtain⟨I,e,_,_⟩:=KP underlying3 g1;obtain⟨K,g,_⟩:=DataW.trod_bool underlying4 l;obtain⟨M,h,_,v⟩:=KP underlying5 n;obtain⟨q,t⟩:=aoD v;refine⟨⟨G,I,K,q⟩,?_⟩;unfold zR.v;simp only[List.cons.injEq,and_true]at d e g h;rw[d,e,g,h,t]
def aoN{base f:Nat}{B:Bool}{cs:aP}{x:DataW H×List MemPlace}(C:DataW.trod enc prog w base (λ_=>true) B f 70 cs=some x):
 ∃(a:aO) (n c:Nat) (ls:List zR),cs=[.slice a n c]/\ls.length=n/\n<=c/\c<=maxLen/\aM w a (CG ls):=by
 have m:prog.cellsOf 76=4:=aC;rcases DataW.trod_slice underlying70 C with⟨D,e⟩|⟨a,len,cap,h,rest,n,_,rfl,rfl,T,E,I,U,A,W,V⟩
 ·exact⟨none,0,0,[],D,F,aQ _,w_ _,.inl F⟩
 ·have o:∀i,i<len->∃s:zR,d9 w (a.add (i*4)) s.v:=by
   intro i k;have e:=A i k;have N:h[i]? =some (h[i]'J):=aB;rw[m,N,Option.bind_eq_some_iff]at e;obtain⟨S,z,P⟩:=e;obtain⟨G,v⟩:=afT z;obtain⟨r,K⟩:=aoM P G;exact⟨r,K▸v⟩
  obtain⟨g,j⟩:=choose_lt (p:=λi s=>d9 w (a.add (i*4)) (zR.v s)) o;refine⟨some a,len,cap,(List.range len).map g,F,aB,E,I,?_⟩;by_cases Q:len=0
  ·left;subst Q;rfl
  ·have t:=j 0 J;obtain⟨b,off,R⟩:=a;have M:R=none:=by
    have:=t 0 (.int .i64 (g 0).h) F;simpa[Addr.add]using World.cell?_spot this
   subst M;refine .inr ⟨b,off,F,λi u l=> ?_⟩;have k:i<4*len:=by
    have:=(iK.1 l).1;rw[ai5]at this;simpa using this
   have y:=j (i / 4) J;have L:((List.range len).map g)[i / 4]? =some (g (i / 4)):=by
    rw[iT,List.getElem?_range J];rfl
   have q:(zR.v (g (i / 4)))[i%4]? =some u:=by
    rw[<-ai4 L,uM (Jk _ J),qY,FD,Nat.div_add_mod];exact l
   have d:=y _ _ q;rw[eX,eX]at d;rw[show off+i / 4*4+i%4=off+i by omega]at d;exact d
def aoO{r:Reach}{e base:Nat}{i:Bool}{v:Value}{d:DataW H}{o:List MemPlace}
 (m:Value.okWide prog w r e 70 v)(h:DataW.Trod enc prog w base (λ_=>true) i 70 v d o):
 ∃(a:aO) (n c:Nat) (ls:List zR),v= .slice a n c/\ls.length=n/\n<=c/\c<=maxLen/\aM w a (CG ls):=by
 obtain⟨a,n,c,rfl⟩:=okWide_slice underlying70 m;obtain⟨s,j⟩:=h;obtain⟨p,t,q,ls,b,k,l,g,f⟩:=aoN j;simp[Value.cells]at b;obtain⟨rfl,rfl,rfl⟩:=b;exact⟨a,n,c,ls,F,k,l,g,f⟩
end Go.Proofs.YtjlhhnkhcbpnjaaGreatDoor
