/- Laws that the row leans on; no condition. -/
import Derived.Test.YtjlhhnkhcbpnjaaGreatDoorJ35
import Derived.Deep.Strs
namespace Go.Proofs.YtjlhhnkhcbpnjaaGreatDoor
open Go List Tryz
set_option linter.unusedVariables false
set_option linter.unusedSectionVars false
set_option linter.unusedSimpArgs false
set_option maxHeartbeats 40000000
set_option maxRecDepth 100000
section
open Go Go.RowKit Go.ChangeShapes Go.WideShapes Go.ChangeAt Go.Deep
theorem aee{w:World}{base:Nat}{p:Addr}{k:Nat}{cs:aO}(h:w.cells? base p k=some cs):cs.length=k/\dP w p cs:=by
 unfold World.cells? at h;split at h
 ·refine⟨by simpa using mapM_some_length h,fun j u E=> ?_⟩;have R:j<k:=by
   have aa:=(List.getElem?_eq_some_iff.1 E).1;have I:=mapM_some_length h;simp at I;omega
  have:=mapM_some_get h j j (by simp[R]);rw[E]at this;exact this
 ·cases h
end
section
open Go Go.RowKit Go.ChangeShapes Go.WideShapes Go.ChangeAt Go.Deep
instance:Inhabited jD:=⟨⟨0,0,0,0,0,0⟩⟩
section
variable {H:Type} {enc:TypeId×Value->H} {w:World}
theorem aef{base f:Nat}{j:Bool}{cs:aO}{x:DataW H×List MemPlace}(hf:DataW.trod enc prog w base (fun _=>true) j f 103 cs=some x)(af:cs.length=6):
 ∃r:jD,cs=r.v:=by
 have ht:=underlying103;obtain⟨xs,m,_,_,a2,ag,E⟩:=DataW.trod_struct ht hf;have u:prog.cellsOf 3=1:=au
 match xs,ag,cs,af with
 |[y0,ao,ap,aq,ar,aw],_,[ai,al,v2,v3,am,an],_=>
 have g0:DataW.trod enc prog w base (fun _=>true) j m 3 [ai]=some y0:=by have:=E 0 _ F;simpa[u]using this
 have g1:DataW.trod enc prog w base (fun _=>true) j m 3 [al]=some ao:=by have:=E 1 _ F;simpa[u]using this
 have ae:DataW.trod enc prog w base (fun _=>true) j m 3 [v2]=some ap:=by have:=E 2 _ F;simpa[u]using this
 have g3:DataW.trod enc prog w base (fun _=>true) j m 3 [v3]=some aq:=by have:=E 3 _ F;simpa[u]using this
 have g4:DataW.trod enc prog w base (fun _=>true) j m 3 [am]=some ar:=by have:=E 4 _ F;simpa[u]using this
 have g5:DataW.trod enc prog w base (fun _=>true) j m 3 [an]=some aw:=by have:=E 5 _ F;simpa[u]using this
 obtain⟨ax,I,_,_⟩:=DataW.trod_int underlying3 g0;obtain⟨az,R,_,_⟩:=DataW.trod_int underlying3 g1;obtain⟨z2,aa,_,_⟩:=DataW.trod_int underlying3 ae;obtain⟨aE,ab,_,_⟩:=DataW.trod_int underlying3 g3;obtain⟨a0,ac,_,_⟩:=DataW.trod_int underlying3 g4;obtain⟨a1,ad,_,_⟩:=DataW.trod_int underlying3 g5;refine⟨⟨ax,az,z2,aE,a0,a1⟩,?_⟩;unfold jD.v;simp only[List.cons.injEq,and_true]at I R aa ab ac ad;rw[I,R,aa,ab,ac,ad]
theorem aeg{base f:Nat}{ap:Bool}{cs:aO}{x:DataW H×List MemPlace}(hf:DataW.trod enc prog w base (fun _=>true) ap f 22 cs=some x):
 ∃(a:aN) (n c:Nat) (ac:List jD),cs=[.slice a n c]/\ac.length=n/\n<=c/\c<=maxLen/\aK w a (qQ ac):=by
 have ae:prog.cellsOf 103=6:=au;rcases DataW.trod_slice underlying22 hf with⟨aq,E⟩|⟨a,len,ad,I,rest,n,_,rfl,rfl,hb,ar,ax,a6,ao,a8,a7⟩
 ·exact⟨none,0,0,[],aq,F,Nat.le_refl _,Nat.zero_le _,.inl F⟩
 ·have af:∀i,i<len->∃s:jD,dP w (a.add (i*6)) s.v:=by
   intro i aa;have E:=ao i aa;have a1:I[i]? =some (I[i]'J):=aF;rw[ae,a1,Option.bind_eq_some_iff]at E;obtain⟨a5,an,a2⟩:=E;obtain⟨aw,al⟩:=aee an;obtain⟨r,az⟩:=aef a2 aw;exact⟨r,az▸al⟩
  obtain⟨g,R⟩:=choose_lt (p:=fun i s=>dP w (a.add (i*6)) (jD.v s)) af;refine⟨some a,len,ad,(List.range len).map g,F,aF,ar,ax,?_⟩;by_cases a3:len=0
  ·left;subst a3;rfl
  ·have ai:=R 0 J;obtain⟨b,off,a4⟩:=a;have a0:a4=none:=by
    have:=ai 0 (.int .i64 (g 0).wait) F;simpa[Addr.add]using World.cell?_spot this
   subst a0;refine .inr ⟨b,off,F,fun i u ab=> ?_⟩;have aa:i<6*len:=by
    have:=(List.getElem?_eq_some_iff.1 ab).1;rw[UR]at this;simpa using this
   have am:=R (i / 6) J;have aE:((List.range len).map g)[i / 6]? =some (g (i / 6)):=by
    rw[List.getElem?_map,List.getElem?_range J];rfl
   have ag:(jD.v (g (i / 6)))[i%6]? =some u:=by
    rw[<-UQ aE,List.getElem?_take_of_lt (Nat.mod_lt _ J),List.getElem?_drop,Nat.mul_comm,Nat.div_add_mod];exact ab
   have j:=am _ _ ag;rw[dn,dn]at j;rw[show off+i / 6*6+i%6=off+i by omega]at j;exact j
theorem aeh{r:Reach}{E base:Nat}{ab:Bool}{v:Value}{d:DataW H}{af:List MemPlace}
 (ae:Value.okWide prog w r E 22 v)(aa:DataW.Trod enc prog w base (fun _=>true) ab 22 v d af):
 ∃(a:aN) (n c:Nat) (j:List jD),v= .slice a n c/\j.length=n/\n<=c/\c<=maxLen/\aK w a (qQ j):=by
 obtain⟨a,n,c,rfl⟩:=okWide_slice underlying22 ae;obtain⟨al,hf⟩:=aa;obtain⟨ag,n2,ai,j,u,ac,ad,R,I⟩:=aeg hf;simp[Value.cells]at u;obtain⟨rfl,rfl,rfl⟩:=u;exact⟨a,n,c,j,F,ac,ad,R,I⟩
end
end
end Go.Proofs.YtjlhhnkhcbpnjaaGreatDoor
