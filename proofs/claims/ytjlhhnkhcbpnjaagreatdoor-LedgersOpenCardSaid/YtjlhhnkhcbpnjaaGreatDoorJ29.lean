/- Laws that the row leans on; no condition. -/
import Derived.Test.YtjlhhnkhcbpnjaaGreatDoorJ28
namespace Go.Proofs.YtjlhhnkhcbpnjaaGreatDoor
open Go Go.RowKit List Tryz
set_option linter.unusedVariables false
set_option linter.unusedSectionVars false
set_option linter.unusedSimpArgs false
set_option maxHeartbeats 40000000
set_option maxRecDepth 100000
theorem UA{w:World}{B q:Nat}{e:TypeId}{z n j:Nat}{xs:aO}(h:w.ownsRow B e z (.slice (some ⟨q,0,none⟩) n j) n xs):
 ∃rest,ah w q (xs++rest) e/\(xs++rest).length=j*z/\xs.length=n*z/\B<=q/\n<=j/\j<=maxLen:=by
 obtain⟨ac,h⟩:=h;rcases h with⟨u,rfl⟩|⟨g,ad,cu,u,hb,ab,I,R,aa,E⟩
 ·cases u
 ·cases u;refine⟨cu.toList.drop (n*z),?_,?_,ac,hb,I,R⟩
  ·unfold ah;rw[<-E,take_append_drop];simpa using ab
  ·rw[<-E,take_append_drop,Array.length_toList,aa]
theorem adr(j:Int)(M:Nat):∃I E:Nat,E<=M/\(∀u t w,(Builtin.max_ u t #[.int .i64 j,.int .i64 0]).run prog w= .ok (.int .i64 (I:Int)) w)/\(∀u t w,(Builtin.min_ u t #[.int .i64 (I:Int),.int .i64 (M:Int)]).run prog w= .ok (.int .i64 (E:Int)) w):=by
 refine⟨j.toNat,min j.toNat M,Nat.min_le_right _ _,fun u t w=> ?_,fun u t w=> ?_⟩
 ·rw[run_max_int2]
  congr 2
  by_cases h:(0:Int)>j
  ·rw[if_pos h];omega
  ·rw[if_neg h];omega
 ·rw[run_min_int2]
  congr 2
  by_cases h:(M:Int)<(j.toNat:Int)
  ·rw[if_pos h];omega
  ·rw[if_neg h];omega
theorem UC{l:aj}:∀(f p:Nat) (es:List dW),(∀e∈es,jX e=0)->∀e∈(wR l f p es).1,jX e=0
 |0,_,_,h=>h
 |f+1,p,es,h=>by
  unfold wR;split
  ·exact h
  split
  ·exact h
  split
  ·exact h
  split
  ·exact h
  ·rename_i _ h1 _ _;refine UC f _ _ fun e he=> ?_;rcases mem_append.1 he with he|he
   ·exact h e he
   ·rw[mem_singleton.1 he];obtain⟨_,_,_,_,hg⟩:=Lj (Decidable.not_not.1 h1);exact hg
theorem ads(l:aj):∀e∈(nI l).1,jX e=0:=UC _ _ _ aF
theorem adt{es:List aG}(h:∀e∈es,e.body.length=e.bn):E9 (es.map aG.p)=vJ es:=by
 unfold E9 vJ;rw[acR h,acS h,length_map];unfold wV MS;rw[List.getLast?_map];cases j:es.getLast? with
 |none=>
  have:es=[]:=by simpa using j
  subst this;rfl
 |some e=>
  have E:es.length≠0:=by
   intro u;rw[length_eq_zero_iff.1 u]at j;cases j
  unfold x8;rw[if_neg (by unfold qM;rw[length_map];exact E)];rfl
theorem UD{es:List aG}{rest:aO}{k:Nat}{e x:aG}(h:BK es)(hk:es[k]? =some x)(ab:e.v.length=68):fV (iM es++rest) (k*68) e.v=iM (es.set k e)++rest:=by
 obtain⟨ac,ad⟩:=List.getElem?_eq_some_iff.1 hk;have j:es=es.take k++x::es.drop (k+1):=by
  rw[<-ad,getElem_cons_drop,take_append_drop]
 have E:∀y:aG,iM (y::es.drop (k+1))=y.v++iM (es.drop (k+1)):=fun y=>by unfold iM;rw[flatMap_cons]
 have u:(iM (es.take k)).length=k*68:=by
  rw[BL (fun y ae=>h y (mem_of_mem_take ae)),length_take];omega
 have aa:x.v.length=68:=h x (by rw[j];simp);have I:iM es=iM (es.take k)++(x.v++iM (es.drop (k+1))):=by
  conv=>lhs;rw[j]
  rw[GV,E]
 have R:iM (es.set k e)=iM (es.take k)++(e.v++iM (es.drop (k+1))):=by
  rw[set_eq_take_append_cons_drop,if_pos ac,GV,E]
 rw[I,R];unfold fV;simp only[append_assoc];rw[ab,take_left' u,<-drop_drop,drop_left' u,drop_left' aa]
theorem Nk:∀{es:List aG} {w:World},(∀e∈es,e.Ok w)->(∀e∈es,dN e=0)->(kG es).length<=32889*es.length/\121*es.length<=(kG es).length
 |[],_,_,_=>by unfold kG;simp
 |e::es,w,h,hv=>by
  obtain⟨h1,h2⟩:=Nk (es:=es) (fun x j=>h x (mem_cons_of_mem _ j)) (fun x j=>hv x (mem_cons_of_mem _ j));have u:kG (e::es)=iZ e++kG es:=by unfold kG;rw[flatMap_cons]
  have E:=GR (h e aF);have I:=(qy (h e aF) (hv e aF)).2.2.2.2.2.2;rw[u,length_append,length_cons];omega
theorem adu(t:Int)(n:Nat)(hn:0<n)(hb:n<=1000000000):∃(A:Int) (k:Nat),t.tmod n=A/\IntKind.i64.wrap (A+n)=A+n/\(A+n).tmod n=(k:Int)/\k<n:=by
 have j:=Int.tmod_lt_of_pos t (show(0:Int)<n by omega);have u: -(n:Int)<t.tmod n:=by
  have:=Int.lt_tmod_of_pos t (show(0:Int)<n by omega);omega
 have E:=Int.tmod_lt_of_pos (t.tmod n+n) (show(0:Int)<n by omega);have I:=Int.tmod_nonneg (n:Int) (show 0<=t.tmod n+n by omega);exact⟨t.tmod n,((t.tmod n+n).tmod n).toNat,F,IntWalk.i64_in _ J,J,J⟩
theorem o_.valid{es:List aG}{S:dw}(h:o_ es S):∀e∈es,dN e=0:=fun e j=>by
 obtain⟨k,hk⟩:=List.getElem?_of_mem j;exact(h.at hk).1
section
open Go Go.RowKit
structure dO(B g:Nat)(w w':World):Prop where
 os:w'.os=w.os
 tape:w'.tape=w.tape
 output:w'.output=w.output
 size:w.heap.size<=w'.heap.size
 block:∀k,k<B->k≠g->w'.heap[k]? =w.heap[k]?
theorem dO.refl(B g:Nat)(w:World):dO B g w w:=⟨F,F,F,Nat.le_refl _,fun _ _ _=>rfl⟩
theorem dO.trans{B g:Nat}{a b c:World}(h:dO B g a b)(k:dO B g b c):dO B g a c:=⟨k.os.trans h.os,k.tape.trans h.tape,k.output.trans h.output,Nat.le_trans h.size k.size,fun i j hn=>(k.block i j hn).trans (h.block i j hn)⟩
theorem dO.below{B g:Nat}{a b:World}(h:Below B a b):dO B g a b:=⟨h.os,h.tape,h.output,h.size,fun k hk _=>h.block k hk⟩
theorem dO.upd{B g:Nat}{a b:World}(h:aU a g b):dO B g a b:=⟨h.os,h.tape,h.output,by rw[h.size];exact Nat.le_refl _,fun k _ hn=>h.block k hn⟩
theorem dO.blk{B g k:Nat}{w w':World}{vs:aO}{T:TypeId}(h:dO B g w w')(hk:k<B)(hn:k≠g)(hb:ah w k vs T):ah w' k vs T:=by
 unfold ah at*;rw[h.block k hk hn];exact hb
abbrev ST:TypeId:=32
theorem UE(l:aj)(s:ByteArray)(v:Value)(n B g:Nat)(w:World)(own:h_ w B v n l)(hb:ah w g [v] ST)(be:g<B)(aw:B<=w.heap.size)(hn:n+s.size+1<=140737488355328):
 Calls prog 136 #[.string s,.pointer (some ⟨g,0,none⟩)] w fun e w'=>∃v',e= .returned (.tuple #[])/\h_ w' B v' (n+(s.size+1)) (l++kU s)/\ah w' g [v'] ST/\dO B g w w':=by
 obtain⟨aq,av,rfl,bi,bd,bh, -⟩:=own.slice;obtain⟨o,ad⟩:=aC (UInt8.ofNat s.size:UInt8);have a0:=Xi s.size;have aL:kU s=o::s.data.toList:=by unfold kU;rw[ad]
 rw[ad]at a0;have ba:=O aL;clear aL ad;obtain⟨N,ax⟩:=aC s.size;have a9:=O ax;rw[ax]at a0;have a4:ah (w.alloc (.cells #[.int .u8 o.toNat] 5)) w.heap.size (([o]:aj).map Y) 5:=ah.aI F F;have ab:X w (w.alloc (.cells #[.int .u8 o.toNat] 5)):=(X.refl w).alloc _;obtain⟨ap,E,al⟩:=aW a4 (own.ext ab) ((Below.refl B w).alloc aw (.cells #[.int .u8 o.toNat] 5));have ac:B<=(w.alloc (.cells #[.int .u8 o.toNat] 5)).heap.size:=Nat.le_trans aw ab.size;have kv:=hb.cell' (i:=0) (v:= .slice aq n av) F;have a5:=O hb;clear a4 ab own bi bd bh hb;go_enter func136,ntmps136;go_wp2_with (first|(at_builtin;refine uj F _ _ F B (ys:=[o]) F F E F (tJ ap) J ac ?_));intro v3 bl a1 g3;have I:=O a1;have aM:=E.pK;have am:=O (al.grown g3 ac (by intro q ae;exact aM _ ae));have az:B<=bl.heap.size:=Nat.le_trans ac g3.size;clear a1 g3 aM E al ap kv;go_wp2_with (first|(at_builtin;refine P9 F _ _ F B F F I J az ?_));intro bk ai a2 g4;have a3:h_ ai B bk (n+(N+1)) (l++kU s):=by
  rw[ba.out,show n+(N+1)=n+1+N by omega];exact a2
 have aR:=I.pK;obtain⟨an,ao⟩:=aB (am.grown g4 az (by intro q ae;exact aR _ ae)) a3;clear a2 a3 g4 aR I am;have j:=Below.lF an be a5;have bj:=j.cell' (i:=0) (v:= .slice aq n av) F;have bc:=j.frozen 0;obtain⟨R,aa,rfl, -, -, -, -⟩:=ao.slice;have a6:=O j;clear j;go_wp2_with fail;generalize af:World.setCell ai _ _=u;have ar:ah u g [.slice R (n+(N+1)) aa] ST:=by rw[<-af];exact a6.set 0 (.slice R (n+(N+1)) aa)
 have ag:aU ai g u:=by rw[<-af];exact aU.setCell _
 have aD:h_ u B (.slice R (n+(N+1)) aa) (n+(s.size+1)) (l++kU s):=by rw[a9.out];exact ao.turn fun i bm _=>ag.block i J
 have aE:dO B g w u:=(dO.below an).trans (dO.upd ag);obtain⟨a8,a_,a7⟩:=aW aD aE ar;clear aD aE ar ag af bj bc
 go_end0
 exact⟨_,F,a8,a7,a_⟩
theorem yg(b:Bool)(w:World):Calls prog 138 #[.bool b] w fun e w'=>e= .returned (.int .i64 (if b then 1 else 0))/\w=w':=by
 cases b<;>(
  go_enter func138,ntmps138;go_wp2;go_ret;exact⟨F,F⟩)
structure AA(w0:World)(gb gi B:Nat)(us:ByteArray)(b:ay)(N:Nat)(sq:List Nat)(w:World)(v:Value):Prop where
 body:ah w w0.heap.size b.v 101
 var:ah w gb [v] ST
 own:h_ w B v (fG sq b.p).length (fG sq b.p)
 len:(fG sq b.p).length<=N*sq.length
 ext:X w0 w
 le:B<=w.heap.size
 it:w.heap[gi]? =some (.stringIter us sq.length)
structure IX(w0:World)(gb gi B:Nat)(us:ByteArray)(b:ay)(N:Nat)(sq:List Nat)(w:World)(v:Value):Prop where
 body:ah w w0.heap.size b.v 101
 var:ah w gb [v] ST
 own:h_ w B v (fG sq b.p).length (fG sq b.p)
 len:(fG sq b.p).length<=N*sq.length
 ext:X w0 w
 le:B<=w.heap.size
 it:w.heap[gi]? =some (.stringIter us (sq.length+1))
section
variable {w0:World} {gb gi B N i m:Nat} {us:ByteArray} {b:ay} {sq:List Nat} {w w2:World} {v v3:Value}
theorem AA.next(h:AA w0 gb gi B us b N sq w v)(E:w0.heap.size≠gi)(hb:gb≠gi)(aa:w0.heap.size<=gi)(R:gi<B)(u:∀k,k≠gi->w2.heap[k]? =w.heap[k]?)(hs:w2.heap.size=w.heap.size)(j:w2.os=w.os/\w2.tape=w.tape/\w2.output=w.output)(I:w2.heap[gi]? =some (.stringIter us (sq.length+1))):IX w0 gb gi B us b N sq w2 v where
 body:=by unfold ah;rw[u _ E];exact h.body
 var:=by unfold ah;rw[u _ hb];exact h.var
 own:=h.own.turn fun k hk _=>u k J
 len:=h.len
 ext:=⟨j.1.trans h.ext.os,j.2.1.trans h.ext.tape,j.2.2.trans h.ext.output,by have:=h.ext.size;omega,fun k hk=>(u k J).trans (h.ext.block k hk)⟩
 le:=by rw[hs];exact h.le
 it:=I
theorem IX.next(h:IX w0 gb gi B us b N sq w v)(aa:w0.heap.size<gb)(u:gi≠gb)(j:w0.heap.size<B)(E:gi<B)(t:dO B gb w w2)(R:ah w2 gb [v3] ST)(own:h_ w2 B v3 m (fG sq b.p++jo i b.p))(hf:(jo i b.p).length<=N):AA w0 gb gi B us b N (sq++[i]) w2 v3 where
 body:=t.blk j J h.body
 var:=R
 own:=by
  have I:=own.1;rw[Gx];rw[I];exact own
 len:=by
  have:=h.len;rw[Gx,length_append,length_append,length_singleton,Nat.mul_add,Nat.mul_one];omega
 ext:=⟨t.os.trans h.ext.os,t.tape.trans h.ext.tape,t.output.trans h.ext.output,Nat.le_trans h.ext.size t.size,fun k hk=>(t.block k J J).trans (h.ext.block k hk)⟩
 le:=Nat.le_trans h.le t.size
 it:=by rw[t.block gi E u,h.it,length_append];rfl
end
theorem adv{act:Int}(h:iI act=true):(6∈gy act->dK act 7=false)/\(7∈gy act->dK act 6=false)/\(8∈gy act->dK act 6=false/\dK act 7=false)/\(10∈gy act->dK act 6=false/\dK act 7=false):=by
 rcases wo h with rfl|rfl|rfl|rfl|rfl|rfl|rfl|rfl|rfl|rfl|rfl|rfl<;>decide
theorem IY{act:Int}(h:iI act=true){i:Nat}(j:i∈gy act):dK act i=true:=by
 rw[<-JR h]at j;exact(mem_filter.1 j).2
end
end Go.Proofs.YtjlhhnkhcbpnjaaGreatDoor
