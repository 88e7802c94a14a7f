/- Laws that the row leans on; no condition. -/
import Derived.Test.YtjlhhnkhcbpnjaaGreatDoorJM27
import Derived.Deep.Strs
namespace Go.Proofs.YtjlhhnkhcbpnjaaGreatDoor
open Go List Tryz
set_option linter.unusedVariables false
set_option linter.unusedSimpArgs false
set_option maxHeartbeats 40000000
set_option maxRecDepth 100000
section
open Go Go.RowKit Go.ChangeShapes Go.WideShapes Go.ChangeAt Go.Deep
theorem aee{w:World}{base:Nat}{p:Addr}{k:Nat}{cs:aO}(h:w.cells? base p k=some cs):cs.length=k/\dP w p cs:=by
 unfold World.cells? at h;split at h
 ·refine⟨by simpa using mapM_some_length h,fun j u E=> ?_⟩;have R:j<k:=by
   have aa:=(List.getElem?_eq_some_iff.1 E).1;have I:=mapM_some_length h;simp at I;omega
  have:=mapM_some_get h j j (by simp[R]);rw[E]at this;exact this
 ·cases h
end
section
open Go Go.RowKit Go.ChangeShapes Go.WideShapes Go.ChangeAt Go.Deep
instance:Inhabited jD:=⟨⟨0,0,0,0,0,0⟩⟩
section
variable {H:Type} {enc:TypeId×Value->H} {w:World}
theorem aef{base f:Nat}{j:Bool}{cs:aO}{x:DataW H×List MemPlace}(hf:DataW.trod enc prog w base (fun _=>true) j f 103 cs=some x)(af:cs.length=6):
 ∃r:jD,cs=r.v:=by
 have ht:=underlying103;obtain⟨xs,m,_,_,a2,ag,E⟩:=DataW.trod_struct ht hf;have u:prog.cellsOf 3=1:=au
 match xs,ag,cs,af with
 |[y0,ao,ap,aq,ar,aw],_,[ai,al,v2,v3,am,an],_=>
 have g0:DataW.trod enc prog w base (fun _=>true) j m 3 [ai]=some y0:=by have:=E 0 _ F;simpa[u]using this
 have g1:DataW.trod enc prog w base (fun _=>true) j m 3 [al]=some ao:=by have:=E 1 _ F;simpa[u]using this
 have ae:DataW.trod enc prog w base (fun _=>true) j m 3 [v2]=some ap:=by have:=E 2 _ F;simpa[u]using this
 have g3:DataW.trod enc prog w base (fun _=>true) j m 3 [v3]=some aq:=by have:=E 3 _ F;simpa[u]using this
 have g4:DataW.trod enc prog w base (fun _=>true) j m 3 [am]=some ar:=by have:=E 4 _ F;simpa[u]using this
 have g5:DataW.trod enc prog w base (fun _=>true) j m 3 [an]=some aw:=by have:=E 5 _ F;simpa[u]using this
 obtain⟨ax,I,_,_⟩:=DataW.trod_int underlying3 g0;obtain⟨az,R,_,_⟩:=DataW.trod_int underlying3 g1;obtain⟨z2,aa,_,_⟩:=DataW.trod_int underlying3 ae;obtain⟨aE,ab,_,_⟩:=DataW.trod_int underlying3 g3;obtain⟨a0,ac,_,_⟩:=DataW.trod_int underlying3 g4;obtain⟨a1,ad,_,_⟩:=DataW.trod_int underlying3 g5;refine⟨⟨ax,az,z2,aE,a0,a1⟩,?_⟩;unfold jD.v;simp only[List.cons.injEq,and_true]at I R aa ab ac ad;rw[I,R,aa,ab,ac,ad]
theorem aeg{base f:Nat}{am:Bool}{cs:aO}{x:DataW H×List MemPlace}(hf:DataW.trod enc prog w base (fun _=>true) am f 22 cs=some x):
 ∃(a:aN) (n c:Nat) (ls:List jD),cs=[.slice a n c]/\ls.length=n/\n<=c/\c<=maxLen/\aK w a (qQ ls):=by
 have ac:prog.cellsOf 103=6:=au;rcases DataW.trod_slice underlying22 hf with⟨an,E⟩|⟨a,len,cap,I,rest,n,_,rfl,rfl,hb,ao,aq,a3,al,uW,a4⟩
 ·exact⟨none,0,0,[],an,F,Nat.le_refl _,Nat.zero_le _,.inl F⟩
 ·have ad:∀i,i<len->∃s:jD,dP w (a.add (i*6)) s.v:=by
   intro i aa;have E:=al i aa;have az:I[i]? =some (I[i]'J):=aF;rw[ac,az,Option.bind_eq_some_iff]at E;obtain⟨a2,ai,aE⟩:=E;obtain⟨ap,nu⟩:=aee ai;obtain⟨r,ar⟩:=aef aE ap;exact⟨r,ar▸nu⟩
  obtain⟨g,R⟩:=choose_lt (p:=fun i s=>dP w (a.add (i*6)) (jD.v s)) ad;refine⟨some a,len,cap,(List.range len).map g,F,aF,ao,aq,?_⟩;by_cases a0:len=0
  ·left;subst a0;rfl
  ·have af:=R 0 J;obtain⟨b,off,a1⟩:=a;have ax:a1=none:=by
    have:=af 0 (.int .i64 (g 0).wait) F;simpa[Addr.add]using World.cell?_spot this
   subst ax;refine .inr ⟨b,off,F,fun i u ab=> ?_⟩;have aa:i<6*len:=by
    have:=(List.getElem?_eq_some_iff.1 ab).1;rw[UR]at this;simpa using this
   have ag:=R (i / 6) J;have aw:((List.range len).map g)[i / 6]? =some (g (i / 6)):=by
    rw[List.getElem?_map,List.getElem?_range J];rfl
   have ae:(jD.v (g (i / 6)))[i%6]? =some u:=by
    rw[<-UQ aw,List.getElem?_take_of_lt (Nat.mod_lt _ J),List.getElem?_drop,Nat.mul_comm,Nat.div_add_mod];exact ab
   have j:=ag _ _ ae;rw[dn,dn]at j;rw[show off+i / 6*6+i%6=off+i by omega]at j;exact j
theorem aeh{r:Reach}{u base:Nat}{aa:Bool}{v:Value}{d:DataW H}{ae:List MemPlace}
 (ad:Value.okWide prog w r u 22 v)(R:DataW.Trod enc prog w base (fun _=>true) aa 22 v d ae):
 ∃(a:aN) (n c:Nat) (ls:List jD),v= .slice a n c/\ls.length=n/\n<=c/\c<=maxLen/\aK w a (qQ ls):=by
 obtain⟨a,n,c,rfl⟩:=okWide_slice underlying22 ad;obtain⟨ai,hf⟩:=R;obtain⟨af,n2,ag,ls,j,ab,ac,I,E⟩:=aeg hf;simp[Value.cells]at j;obtain⟨rfl,rfl,rfl⟩:=j;exact⟨a,n,c,ls,F,ab,ac,I,E⟩
end
end
end Go.Proofs.YtjlhhnkhcbpnjaaGreatDoor
