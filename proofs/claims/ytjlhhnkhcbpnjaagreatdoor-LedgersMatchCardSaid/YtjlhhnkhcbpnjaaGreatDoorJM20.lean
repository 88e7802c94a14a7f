/- Laws that the row leans on; no condition. -/
import Derived.Test.YtjlhhnkhcbpnjaaGreatDoorJM19
namespace Go.Proofs.YtjlhhnkhcbpnjaaGreatDoor
open Go Go.RowKit List Tryz
set_option linter.unusedVariables false
set_option linter.unusedSimpArgs false
set_option maxHeartbeats 40000000
set_option maxRecDepth 100000
theorem adt{es:List aG}(h:∀e∈es,e.body.length=e.bn):E9 (es.map aG.p)=vJ es:=by
 unfold E9 vJ;rw[acR h,acS h,length_map];unfold wV MS;rw[List.getLast?_map];cases j:es.getLast? with
 |none=>
  have:es=[]:=by simpa using j
  subst this;rfl
 |some e=>
  have E:es.length≠0:=by
   intro u;rw[length_eq_zero_iff.1 u]at j;cases j
  unfold x8;rw[if_neg (by unfold qM;rw[length_map];exact E)];rfl
theorem Nk:∀{es:List aG} {w:World},(∀e∈es,e.Ok w)->(∀e∈es,dN e=0)->(kG es).length<=32889*es.length/\121*es.length<=(kG es).length
 |[],_,_,_=>by unfold kG;simp
 |e::es,w,h,hv=>by
  obtain⟨h1,h2⟩:=Nk (es:=es) (fun x j=>h x (mem_cons_of_mem _ j)) (fun x j=>hv x (mem_cons_of_mem _ j));have u:kG (e::es)=iZ e++kG es:=by unfold kG;rw[flatMap_cons]
  have E:=GR (h e aF);have I:=(qy (h e aF) (hv e aF)).2.2.2.2.2.2;rw[u,length_append,length_cons];omega
theorem o_.valid{es:List aG}{S:dw}(h:o_ es S):∀e∈es,dN e=0:=fun e j=>by
 obtain⟨k,hk⟩:=List.getElem?_of_mem j;exact(h.at hk).1
theorem UY:prog.eqGuardType prog.depth 46=false:=au
theorem ad3:prog.stoodInHeld 46=false:=au
theorem UZ:prog.cellsOf 31=32:=au
theorem ad4(C T:Int){x y:aj}(j:x.length=32):(iY C T x y).toArray.extract 2 (2+32)=(x.map Y).toArray:=by
 rw[<-Yn C T (r2:=y) j];simp[List.extract]
theorem ad5(C T:Int){x y:aj}(j:x.length=32)(u:y.length=32):(iY C T x y).toArray.extract 34 (34+32)=(y.map Y).toArray:=by
 rw[<-Yo C T j u];simp[List.extract]
theorem ad6:(prog.fieldsOf 46).toList.map (fun f=>(f.name,f.type,f.offset))=[("Count",3,0),("Time",3,1),("Last",31,2),("Root",31,34)]:=au
theorem ad7(C T:Int)(x y:aj)(j:x.length=32)(ag:y.length=32)(w:World):
 (Op.equalIn 10000 46 (.agg (iY C T x y).toArray) (.agg (iY C T x y).toArray)).run prog w= .ok true w:=by
 have a0:prog.underlying 46=some (.struct (prog.fieldsOf 46)):=by unfold Program.fieldsOf;rw[underlying46]
 rw[show(10000:Nat)=9999+1 from F,run_equalIn_struct w 9999 _ _ _ a0 ad3];have h:=ad6;generalize (prog.fieldsOf 46).toList=a1 at h;obtain⟨ab,a2,rfl,k1,h⟩:=map_eq_cons_iff.1 h;obtain⟨ac,a3,rfl,k2,h⟩:=map_eq_cons_iff.1 h;obtain⟨ad,a4,rfl,k3,h⟩:=map_eq_cons_iff.1 h;obtain⟨ae,a5,rfl,k4,h⟩:=map_eq_cons_iff.1 h;obtain rfl:=map_eq_nil_iff.1 h;simp only[Prod.mk.injEq]at k1 k2 k3 k4;obtain⟨ao,u,ap⟩:=k1;obtain⟨aq,E,ar⟩:=k2;obtain⟨aw,I,ax⟩:=k3;obtain⟨az,R,aE⟩:=k4;have ai:(part ab.type (iY C T x y).toArray ab.offset).run prog w= .ok (.int .i64 C) w:=by rw[u,ap];exact O7 underlying3 F
 have al:(part ac.type (iY C T x y).toArray ac.offset).run prog w= .ok (.int .i64 T) w:=by rw[E,ar];exact O7 underlying3 F
 have am:(part ad.type (iY C T x y).toArray ad.offset).run prog w= .ok (.agg (x.map Y).toArray) w:=by rw[I,ax,O8 underlying31 UZ,ad4 C T j]
 have an:(part ae.type (iY C T x y).toArray ae.offset).run prog w= .ok (.agg (y.map Y).toArray) w:=by rw[R,aE,O8 underlying31 UZ,ad5 C T j ag]
 have aa:∀z:Int,(Op.equalIn 9999 3 (.int .i64 z) (.int .i64 z)).run prog w= .ok true w:=fun z=>by
  rw[run_equalIn_int w 9998 _ _ _ _ _ underlying3];simp
 have e2:∀l:aj,l.length=32->(Op.equalIn 9999 31 (.agg (l.map Y).toArray) (.agg (l.map Y).toArray)).run prog w= .ok true w:=fun l af=>by
  have:=run_equalIn_bytes w 9997 31 5 32 underlying31 underlying5 (fun w=>by kernel_rfl) l l af af;exact this.trans aF
 rw[F9 (by rw[ao];decide) ai ai (by rw[u];exact aa C),F9 (by rw[aq];decide) al al (by rw[E];exact aa T),F9 (by rw[aw];decide) am am (by rw[I];exact e2 x j),F9 (by rw[az];decide) an an (by rw[R];exact e2 y ag)];simp[Op.eqFields]
theorem qz(C T:Int)(x y:aj)(j:x.length=32)(u:y.length=32)(w:World):
 (binOp .neq 46 (.agg (iY C T x y).toArray) (.agg (iY C T x y).toArray)).run prog w= .ok (.bool false) w:=by
 rw[run_neq_struct,ad7 C T x y j u w];rfl
theorem xV(l m r:aj)(q:Nat)(h:l.length=q)(j:m.length=8):fE (l++(m++r)) q=fE (l++m) q:=by grind [fE,iW]
section
open Go Go.RowKit
structure dO(B g:Nat)(w w':World):Prop where
 os:w'.os=w.os
 tape:w'.tape=w.tape
 output:w'.output=w.output
 size:w.heap.size<=w'.heap.size
 block:∀k,k<B->k≠g->w'.heap[k]? =w.heap[k]?
theorem dO.refl(B g:Nat)(w:World):dO B g w w:=⟨F,F,F,Nat.le_refl _,fun _ _ _=>rfl⟩
theorem dO.trans{B g:Nat}{a b c:World}(h:dO B g a b)(k:dO B g b c):dO B g a c:=⟨k.os.trans h.os,k.tape.trans h.tape,k.output.trans h.output,Nat.le_trans h.size k.size,fun i j hn=>(k.block i j hn).trans (h.block i j hn)⟩
theorem dO.below{B g:Nat}{a b:World}(h:Below B a b):dO B g a b:=⟨h.os,h.tape,h.output,h.size,fun k hk _=>h.block k hk⟩
theorem dO.upd{B g:Nat}{a b:World}(h:aU a g b):dO B g a b:=⟨h.os,h.tape,h.output,by rw[h.size];exact Nat.le_refl _,fun k _ hn=>h.block k hn⟩
theorem dO.blk{B g k:Nat}{w w':World}{vs:aO}{T:TypeId}(h:dO B g w w')(hk:k<B)(hn:k≠g)(hb:ah w k vs T):ah w' k vs T:=by
 unfold ah at*;rw[h.block k hk hn];exact hb
abbrev ST:TypeId:=32
theorem UE(l:aj)(s:ByteArray)(v:Value)(n B g:Nat)(w:World)(own:h_ w B v n l)(hb:ah w g [v] ST)(bk:g<B)(aw:B<=w.heap.size)(hn:n+s.size+1<=140737488355328):
 Calls prog 136 #[.string s,.pointer (some ⟨g,0,none⟩)] w fun e w'=>∃v',e= .returned (.tuple #[])/\h_ w' B v' (n+(s.size+1)) (l++kU s)/\ah w' g [v'] ST/\dO B g w w':=by
 obtain⟨av,ar,rfl,bm,bj,bl, -⟩:=own.slice;obtain⟨o,ad⟩:=aC (UInt8.ofNat s.size:UInt8);have a4:=Xi s.size;have a1:kU s=o::s.data.toList:=by unfold kU;rw[ad]
 rw[ad]at a4;have bh:=O a1;clear a1 ad;obtain⟨N,ax⟩:=aC s.size;have bd:=O ax;rw[ax]at a4;have a8:ah (w.alloc (.cells #[.int .u8 o.toNat] 5)) w.heap.size (([o]:aj).map Y) 5:=ah.aI F F;have ab:X w (w.alloc (.cells #[.int .u8 o.toNat] 5)):=(X.refl w).alloc _;obtain⟨ap,E,al⟩:=aW a8 (own.ext ab) ((Below.refl B w).alloc aw (.cells #[.int .u8 o.toNat] 5));have ac:B<=(w.alloc (.cells #[.int .u8 o.toNat] 5)).heap.size:=Nat.le_trans aw ab.size;have kv:=hb.cell' (i:=0) (v:= .slice av n ar) F;have a9:=O hb;clear a8 ab own bm bj bl hb;go_enter func136,ntmps136;go_wp2_with (first|(at_builtin;refine uj F _ _ F B (ys:=[o]) F F E F (tJ ap) J ac ?_));intro v3 br a5 g3;have I:=O a5;have a2:=E.pK;have am:=O (al.grown g3 ac (by intro q ae;exact a2 _ ae));have az:B<=br.heap.size:=Nat.le_trans ac g3.size;clear a5 g3 a2 E al ap kv;go_wp2_with (first|(at_builtin;refine P9 F _ _ F B F F I J az ?_));intro bp ai a6 g4;have a7:h_ ai B bp (n+(N+1)) (l++kU s):=by
  rw[bh.out,show n+(N+1)=n+1+N by omega];exact a6
 have a3:=I.pK;obtain⟨an,ao⟩:=aB (am.grown g4 az (by intro q ae;exact a3 _ ae)) a7;clear a6 a7 g4 a3 I am;have j:=Below.lF an bk a9;have bo:=j.cell' (i:=0) (v:= .slice av n ar) F;have bi:=j.frozen 0;obtain⟨R,aa,rfl, -, -, -, -⟩:=ao.slice;have a_:=O j;clear j;go_wp2_with fail;generalize af:World.setCell ai _ _=u;have aq:ah u g [.slice R (n+(N+1)) aa] ST:=by rw[<-af];exact a_.set 0 (.slice R (n+(N+1)) aa)
 have ag:aU ai g u:=by rw[<-af];exact aU.setCell _
 have aE:h_ u B (.slice R (n+(N+1)) aa) (n+(s.size+1)) (l++kU s):=by rw[bd.out];exact ao.turn fun i bt _=>ag.block i J
 have a0:dO B g w u:=(dO.below an).trans (dO.upd ag);obtain⟨bc,be,ba⟩:=aW aE a0 aq;clear aE a0 aq ag af bo bi
 go_end0
 exact⟨_,F,bc,ba,be⟩
theorem yg(b:Bool)(w:World):Calls prog 138 #[.bool b] w fun e w'=>e= .returned (.int .i64 (if b then 1 else 0))/\w=w':=by
 cases b<;>(
  go_enter func138,ntmps138;go_wp2;go_ret;exact⟨F,F⟩)
structure AA(w0:World)(gb gi B:Nat)(us:ByteArray)(b:ay)(N:Nat)(sq:List Nat)(w:World)(v:Value):Prop where
 body:ah w w0.heap.size b.v 101
 var:ah w gb [v] ST
 own:h_ w B v (fG sq b.p).length (fG sq b.p)
 len:(fG sq b.p).length<=N*sq.length
 ext:X w0 w
 le:B<=w.heap.size
 it:w.heap[gi]? =some (.stringIter us sq.length)
structure IX(w0:World)(gb gi B:Nat)(us:ByteArray)(b:ay)(N:Nat)(sq:List Nat)(w:World)(v:Value):Prop where
 body:ah w w0.heap.size b.v 101
 var:ah w gb [v] ST
 own:h_ w B v (fG sq b.p).length (fG sq b.p)
 len:(fG sq b.p).length<=N*sq.length
 ext:X w0 w
 le:B<=w.heap.size
 it:w.heap[gi]? =some (.stringIter us (sq.length+1))
section
variable {w0:World} {gb gi B N i m:Nat} {us:ByteArray} {b:ay} {sq:List Nat} {w w2:World} {v v3:Value}
theorem AA.next(h:AA w0 gb gi B us b N sq w v)(E:w0.heap.size≠gi)(hb:gb≠gi)(aa:w0.heap.size<=gi)(R:gi<B)(u:∀k,k≠gi->w2.heap[k]? =w.heap[k]?)(hs:w2.heap.size=w.heap.size)(j:w2.os=w.os/\w2.tape=w.tape/\w2.output=w.output)(I:w2.heap[gi]? =some (.stringIter us (sq.length+1))):IX w0 gb gi B us b N sq w2 v where
 body:=by unfold ah;rw[u _ E];exact h.body
 var:=by unfold ah;rw[u _ hb];exact h.var
 own:=h.own.turn fun k hk _=>u k J
 len:=h.len
 ext:=⟨j.1.trans h.ext.os,j.2.1.trans h.ext.tape,j.2.2.trans h.ext.output,by have:=h.ext.size;omega,fun k hk=>(u k J).trans (h.ext.block k hk)⟩
 le:=by rw[hs];exact h.le
 it:=I
theorem IX.next(h:IX w0 gb gi B us b N sq w v)(aa:w0.heap.size<gb)(u:gi≠gb)(j:w0.heap.size<B)(E:gi<B)(t:dO B gb w w2)(R:ah w2 gb [v3] ST)(own:h_ w2 B v3 m (fG sq b.p++jo i b.p))(hf:(jo i b.p).length<=N):AA w0 gb gi B us b N (sq++[i]) w2 v3 where
 body:=t.blk j J h.body
 var:=R
 own:=by
  have I:=own.1;rw[Gx];rw[I];exact own
 len:=by
  have:=h.len;rw[Gx,length_append,length_append,length_singleton,Nat.mul_add,Nat.mul_one];omega
 ext:=⟨t.os.trans h.ext.os,t.tape.trans h.ext.tape,t.output.trans h.ext.output,Nat.le_trans h.ext.size t.size,fun k hk=>(t.block k J J).trans (h.ext.block k hk)⟩
 le:=Nat.le_trans h.le t.size
 it:=by rw[t.block gi E u,h.it,length_append];rfl
end
theorem adv{act:Int}(h:iI act=true):(6∈gy act->dK act 7=false)/\(7∈gy act->dK act 6=false)/\(8∈gy act->dK act 6=false/\dK act 7=false)/\(10∈gy act->dK act 6=false/\dK act 7=false):=by
 rcases wo h with rfl|rfl|rfl|rfl|rfl|rfl|rfl|rfl|rfl|rfl|rfl|rfl<;>decide
theorem IY{act:Int}(h:iI act=true){i:Nat}(j:i∈gy act):dK act i=true:=by
 rw[<-JR h]at j;exact(mem_filter.1 j).2
end
end Go.Proofs.YtjlhhnkhcbpnjaaGreatDoor
