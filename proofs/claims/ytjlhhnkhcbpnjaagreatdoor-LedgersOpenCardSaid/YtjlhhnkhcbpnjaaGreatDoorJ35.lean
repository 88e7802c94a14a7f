/- Laws that the row leans on; no condition. -/
import Derived.Test.YtjlhhnkhcbpnjaaGreatDoorJ31
import Derived.Test.YtjlhhnkhcbpnjaaGreatDoorJ34
namespace Go.Proofs.YtjlhhnkhcbpnjaaGreatDoor
open Go Go.RowKit List Tryz
set_option linter.unusedVariables false
set_option linter.unusedSectionVars false
set_option linter.unusedSimpArgs false
set_option maxHeartbeats 40000000
set_option maxRecDepth 100000
theorem UN(gj gs go p:Nat)(S:aV)(v:Value)(es:List aG)(e:aG)(w0 w:World)(h:wU w0 w gj gs go p S v es)(aE:e.Ok w)(bL:∀g,(v.ownBlock=some g∨g=go)->iC g e.ba e.bn)(a8:CU p e)(bN:mJ w0)(hn:es.length<=100):
 Calls prog 43 #[.agg e.v.toArray,.pointer (some ⟨gj,0,none⟩),.pointer (some ⟨gs,0,none⟩),.pointer (some ⟨go,0,none⟩)] w fun x w'=>
  ∃S' v',x= .returned (.bool (decide (S.p.ref e=0)))/\wU w0 w' gj gs go p S' v' (if S.p.ref e=0 then es++[e]else es)/\S'.p=S.p.apply e/\w.heap.size<=w'.heap.size:=by
 obtain⟨ab,b4,aw,bk,bl,cf⟩:=iq h aE (aG.len aE) bL a8 (fun ac (I:X w ac)=>adX p S e w0 ac (h.st.ext I) (aE.ext I) a8 bN (h.ex.ext I) h.hi);obtain⟨cn,a7⟩:=jE (fun x w'=>∃S' v',x= .returned (.bool (decide (S.p.ref e=0)))/\wU w0 w' gj gs go p S' v' (if S.p.ref e=0 then es++[e]else es)/\S'.p=S.p.apply e/\w.heap.size<=w'.heap.size:Ending->World->Prop);rw[<-a7];have bm:=O a7;clear h aE bL a8 bN a7;go_enter func43,ntmps43;go_upto_region 1 with fail;generalize a9:World.alloc w _=bd;have bu:ah bd w.heap.size e.v 34:=by rw[<-a9];exact ah.aI F F
 have aD:X w bd:=by rw[<-a9];exact(X.refl w).alloc _
 obtain⟨av,an,b5,bi⟩:=bU bu (ab.ext aD) (b4.ext aD) aD;clear a9 bu aD;have cb:=an.bj.cell' (i:=0) F;have cs:=an.bs.cell' (i:=0) F;generalize w.heap.size=G4 at av⊢;go_wp2_with (refine bV F 34 _ F F av cZ aw ?_);refine(cf bd bi).mono ?_;rintro cq ac ⟨rfl,T,bA,bB,ap,bO,bS⟩;have bR:=an.st.notM av aX;obtain⟨b2,af,a6,ax,bp⟩:=dM (av.mut ap bR) (an.apply bA ap bO bS) (b5.mut ap (fun g j=>an.st.Iz j) bl) bB (show w.heap.size<=ac.heap.size from Nat.le_trans bi.size ap.size);clear bA bB ap bO bS bR cb cs;by_cases ae:S.p.ref e=0
 ·have ao:=O ae;rw[ae];clear ae;have ch:=af.2.2.2.1.cell' (i:=0) F;have aL:=af.2.2.2.2.1;obtain⟨br,cm⟩:=aB aL (EU aL);have b7:v.ownBlock≠some p:=(show v.ownBlock≠some p from GU aL af.1.blk aX);have B0:w0.heap.size<=ac.heap.size:=af.2.2.2.2.2.2.2.1.size;clear aL;go_wp2_with (first|(refine bV F 34 (.tmp 4) F F b2 cZ aw ?_)|(refine Cc GX aX F F F aw ?_)|(refine qB GX F _ _ F w0.heap.size (m:=1) (news:=e.v) F F (dQ br ((X.refl _).alloc _)) (by rw[aw.out]) bG (by intro h;cases h) (aK.eG (ah.aI (vs:=e.v) F F)) (i_ e) J J (by rw[gU];omega) ?_));intro v2 w2 ba ad bE;obtain⟨ag,k2,rfl, -, -, -⟩:=iJ ba;have aa:X ac (World.alloc ac (.cells e.v.toArray 34)):=(X.refl _).alloc _;have ck:(World.alloc ac (.cells e.v.toArray 34)).heap.size=ac.heap.size+1:=gU _ _;generalize World.alloc ac (.cells e.v.toArray 34)=b1 at*;obtain⟨aM,aR,a0,a1,a2,aq,ar,a3,a4⟩:=af.out;have am:=dQ a2 aa;have bc:=aM.ext aa;have b0:=bc.row b7 (EU am) (fun g j=>aq g (.inl j)) ad;have bv:=(aR.ext aa).besides am ad aX;have bw:=(a0.ext aa).besides am ad aX;have az:=(a1.ext aa).besides am ad aX;have bX:∀x∈es++[e],x.Ok w2:=by
   intro x u;rcases mem_append.1 u with u|u
   ·exact((ar x u).ext aa).row (fun g j=>ab.eo x u g (.inl j)) ad
   ·rw[mem_singleton.1 u];exact(a6.ext aa).row (fun g j=>bk g (.inl j)) ad
  have bz:X w0 w2:=(a3.ext aa).grown ad (fun q cj=>(am.lt q cj).1);have a_:∀x∈es++[e],x.Ok b1:=by
   intro x u;rcases mem_append.1 u with u|u
   ·exact(ar x u).ext aa
   ·rw[mem_singleton.1 u];exact a6.ext aa
  have a5:∀g,((Value.slice ag (es.length+1) k2).ownBlock=some g∨g=go)->(v.ownBlock=some g∨g=go)∨b1.heap.size<=g:=by
   rintro g (j|j)
   ·rcases bE with I|I
    ·exact .inl (.inl (I▸j))
    ·rw[I]at j;injection j with j;exact .inr J
   ·exact .inl (.inr j)
  have bq:=O (show∀g,((Value.slice ag (es.length+1) k2).ownBlock=some g∨g=go)->T.Off g from fun g j=>(a5 g j).elim (aq g) (fun I=>bc.H_ I));have bj:=O (show∀x∈es++[e],∀g,((Value.slice ag (es.length+1) k2).ownBlock=some g∨g=go)->iC g x.ba x.bn from fun x u g j=>(a5 g j).elim (fun I=>by
   rcases mem_append.1 u with u|u
   ·exact ab.eo x u g I
   ·rw[mem_singleton.1 u];exact bk g I) (fun I=>yU (a_ x u).hcl (fun bx=>by rw[length_map,(a_ x u).hb]at bx;exact bx) I))
  obtain⟨bt,be,bh,al,b9,b3,b',b6⟩:=jg b0 bv bw az bX bz ba a4;have b8:=O (show w.heap.size<=w2.heap.size by have I:=ad.size;have R:=bp.out;omega);have cp:=az.frozen 0;have co:=az.cell' (i:=0) F;clear aM aR a0 a1 a2 aq ar a3 a4 am bc b0 bv bw az bX bz a_ a5 ba ad bE aa ck af a6 br ch;go_wp2_with fail
  (try go_ret)
  have ai:aU w2 go (World.setCell w2 ⟨go,0,none⟩ (Value.slice ag (es.length+1) k2)):=aU.setCell (i:=0) (Value.slice ag (es.length+1) k2);have ca:=al.set 0 (Value.slice ag (es.length+1) k2);have ci:∀g,some go=some g->¬jr w2 g:=fun g j hn=>by
   injection j with j;subst j;exact hn.ne al F
  have cl:=bt.row (r:=some go) (fun h=>by injection h with h;exact bt.notM al aX (.inl h)) ci (fun g j=>by injection j with j;exact j▸bq.out go (.inr F)) (qC ai);rw[bm.out];rw[if_pos ao.out];refine⟨T,(Value.slice ag (es.length+1) k2),by rw[aQ ao.out];rfl,⟨cl,be.upd ai (fun h=> ?_),bh.upd ai (fun h=> ?_),ca,?_,bq,fun x u=>(b9 x u).row (r:=some go) (fun g j=>by injection j with j;exact j▸bj.out x u go (.inr F)) (qC ai),bj,fun x u=> ?_,?_,ai.ext b3 ab.go0,b6,ab.go0⟩,by rw[ax.out],by rw[ai.size];exact b8⟩
  ·subst h;have I:=be.out;have R:=al.out;unfold ah at I R;rw[I]at R;injection R with R;injection R with _ R _;exact absurd R aX
  ·subst h;have I:=bh.out;have R:=al.out;unfold ah at I R;rw[I]at R;injection R with R;injection R with _ R _;exact absurd R aX
  ·rw[GV,length_append];have:iM [e]=e.v:=by unfold iM;simp
   rw[this];exact n_ b' ai al aX
  ·rcases mem_append.1 u with u|u
   ·exact ab.ep x u
   ·rw[mem_singleton.1 u];exact bl
  ·rw[ax.out];unfold dw.apply;rw[if_pos ao.out];exact o_.snoc ab.ch ao
 ·have ao:=O ae;have cc:(S.p.ref e != 0)=true:=by simp;exact ae
  have cd:decide (S.p.ref e=0)=false:=aP ae;have cg:S.p.apply e=S.p:=by unfold dw.apply;rw[if_neg ae]
  have bo:=O ae;obtain⟨E,ce⟩:=aC (S.p.ref e);rw[ce]at cc cd⊢;clear ae;go_wp2_with fail
  (try go_ret)
  rw[bm.out,if_neg bo.out];obtain⟨aM,aR,a0,a1,a2,aq,ar,a3,a4⟩:=af.out;exact⟨T,v,by rw[aP bo.out];rfl,⟨aM,aR,a0,a1,a2,aq,ar,ab.eo,ab.ep,by rw[ax.out,cg];exact ab.ch,a3,a4,ab.go0⟩,ax,bp⟩
section
open Go Go.RowKit
section
variable {P:Program} {ops:Array Oper} {Q:Exit->Act->World->Prop} {S:World->Prop}
theorem UO{B A:Nat}{vs:aO}{T:TypeId}{f:Nat}{aa:Array Bool}{α:Value->Act}{D:World->Prop}(i j:Nat){al am ai:Oper}{bh bi be:List Oper}{d:Tmp}{βi βj:Type}(aL:βi->Value)(aM:βj->Value)(an:βi->World->Prop)(ao:βj->World->Prop)
 (ar:ops.toList.drop i=al::bh)(av:ops.toList.drop j=am::bi)(a0:ops.toList.drop A=ai::be)(a1:ai.dst=some d)(a2:ai.guard=none)(a3:∀bj w,(execOp bj ai).run P w= .ok (.value (vS w.heap.size)) (w.alloc (.cells vs.toArray T)))
 (a9:((Region.ready .any ops aa).all fun k=>k==i||k==j||k==A)=true)(aw:(Region.ready .any ops aa).isEmpty=false)
 (a_:((Region.ready .any ops (aa.setIfInBounds A true)).all fun k=>k==i||k==j)=true)(ax:(Region.ready .any ops (aa.setIfInBounds A true)).isEmpty=false)(a5:(i==A)=false)(a7:(j==A)=false)
 (bd:∀x y,(α x).put (some d) y=α y)(ba:∀b w w',an b w->X w w'->an b w')(bc:∀b w w',ao b w->X w w'->ao b w')
 (aD:∀x w,D w->∀ad:Exit->Act->World->Prop,(∀b w',X w w'->an b w'->ad .normal ((α x).put al.dst (aL b)) w')->wpList P ops ad [al] (α x) w)
 (aE:∀x w,D w->∀ad:Exit->Act->World->Prop,(∀b w',X w w'->ao b w'->ad .normal ((α x).put am.dst (aM b)) w')->wpList P ops ad [am] (α x) w)
 (af:∀b,Fl P ops Q S B A vs T f (aa.setIfInBounds i true) (fun x=>(α x).put al.dst (aL b)) (fun w=>D w/\an b w))
 (ag:∀b,Fl P ops Q S B A vs T f (aa.setIfInBounds j true) (fun x=>(α x).put am.dst (aM b)) (fun w=>D w/\ao b w)):Fl P ops Q S B A vs T (f+1) aa α D:=by
 have aR:=jy a0;intro R ab ap;have af:=fun b=>af b (fun w w' I u=>⟨R w w' I.1 u,ba b w w' I.2 u⟩) (fun w I=>ab w I.1) (fun w I=>ap w I.1);have ag:=fun b=>ag b (fun w w' I u=>⟨R w w' I.1 u,bc b w w' I.2 u⟩) (fun w I=>ab w I.1) (fun w I=>ap w I.1);have a6:i≠A:=by simpa using a5
 have a8:j≠A:=by simpa using a7
 have az:∀g w,D w->B<=g->ah w g vs T->wpAnyH P .any ops Q S (f+1) (aa.setIfInBounds A true) (α (vS g)) w:=by
  intro g w E aq hb;refine wpAnyH_all (rs:=Region.ready .any ops (aa.setIfInBounds A true)) F (fun e=>by rw[e]at ax;cases ax) fun k hk=> ?_;have ae:=all_eq_true.1 a_ k hk;simp only[Bool.or_eq_true,beq_iff_eq]at ae;rcases ae with rfl|rfl
  ·refine mZ (jy ar) (aD _ w E _ fun b w' u ac=> ?_);have:=(af b).2 g w' ⟨R _ _ E u,ac⟩ aq (hb.ext u);rw[Array.setIfInBounds_comm _ _ a6]at this;exact⟨ab _ (R _ _ E u),this⟩
  ·refine mZ (jy av) (aE _ w E _ fun b w' u ac=> ?_);have:=(ag b).2 g w' ⟨R _ _ E u,ac⟩ aq (hb.ext u);rw[Array.setIfInBounds_comm _ _ a8]at this;exact⟨ab _ (R _ _ E u),this⟩
 refine⟨fun x w E=> ?_,az⟩;refine wpAnyH_all (rs:=Region.ready .any ops aa) F (fun e=>by rw[e]at aw;cases aw) fun k hk=> ?_;have ae:=all_eq_true.1 a9 k hk;simp only[Bool.or_eq_true,beq_iff_eq]at ae;rcases ae with(rfl|rfl)|rfl
 ·refine mZ (jy ar) (aD _ w E _ fun b w' u ac=> ?_);exact⟨ab _ (R _ _ E u),(af b).1 x w' ⟨R _ _ E u,ac⟩⟩
 ·refine mZ (jy av) (aE _ w E _ fun b w' u ac=> ?_);exact⟨ab _ (R _ _ E u),(ag b).1 x w' ⟨R _ _ E u,ac⟩⟩
 ·refine mZ aR ?_;refine wpList_plain a2 fun K a4=> ?_;unfold Oper.wp;rw[a3,Oper.upon_value,a1];refine a4 _ _ ?_;have u:X w (w.alloc (.cells vs.toArray T)):=(X.refl w).alloc _;rw[bd];exact⟨ab _ (R _ _ E u),az _ _ (R _ _ E u) (ap _ E) (ah.yu _ _ _)⟩
end
end
theorem adY:(prog.info? 101).map (fun i=>(i.zero,i.size,i.bytes))=some (some (.agg dI.v.toArray),58,176):=au
theorem adZ:(prog.underlying 101).bind (fun d=>match d with| .struct j=>j.toList.mapM (fun f=>(prog.info? f.type).map fun i=>(f.offset,i.size))|_=>none)=some [(0,1),(1,16),(17,1),(18,1),(19,32),(51,1),(52,1),(53,1),(54,1),(55,1),(56,1),(57,1)]:=au
theorem ad1(x:aj)(sa:aN)(sn sc:Nat)(l:aT)(j:x.length=16):prog.built 101 [(1,Value.agg (x.map Y).toArray),(2,Value.slice sa sn sc)]=some (ay.v ⟨⟨#[]⟩,x,sa,sn,sc,l,⟨#[]⟩,kN,0,0,0,0,0,0,none,0,0,[]⟩).toArray:=by
 obtain⟨aa,u,E,R,I⟩:=info_parts adY;have hf:=adZ;rw[underlying101]at hf;simp only[Option.bind_some]at hf;unfold Program.built;rw[u,underlying101];simp only[E,hf];have g0:(Value.agg dI.v.toArray).cells=(([Value.string ⟨#[]⟩])++(zb 16)++([Value.slice none 0 0]++[Value.string ⟨#[]⟩]++(zb 32)++[Value.int .i64 0]++[Value.int .i64 0]++[Value.int .i64 0]++[Value.int .i64 0]++[Value.int .i64 0]++[Value.int .i64 0]++[Value.slice none 0 0])).toArray:=F;rw[g0,jh ([Value.string ⟨#[]⟩]) (zb 16) ([Value.slice none 0 0]++[Value.string ⟨#[]⟩]++(zb 32)++[Value.int .i64 0]++[Value.int .i64 0]++[Value.int .i64 0]++[Value.int .i64 0]++[Value.int .i64 0]++[Value.int .i64 0]++[Value.slice none 0 0]) F (by simp[zb,j]) (by simp[Value.cells,j]) (by simp[zb])];have g1:([Value.string ⟨#[]⟩])++(Value.agg (x.map Y).toArray).cells.toList++([Value.slice none 0 0]++[Value.string ⟨#[]⟩]++(zb 32)++[Value.int .i64 0]++[Value.int .i64 0]++[Value.int .i64 0]++[Value.int .i64 0]++[Value.int .i64 0]++[Value.int .i64 0]++[Value.slice none 0 0])=([Value.string ⟨#[]⟩]++(x.map Y))++[Value.slice none 0 0]++([Value.string ⟨#[]⟩]++(zb 32)++[Value.int .i64 0]++[Value.int .i64 0]++[Value.int .i64 0]++[Value.int .i64 0]++[Value.int .i64 0]++[Value.int .i64 0]++[Value.slice none 0 0]):=by simp[Value.cells,zb]
 rw[g1,jh ([Value.string ⟨#[]⟩]++(x.map Y)) [Value.slice none 0 0] ([Value.string ⟨#[]⟩]++(zb 32)++[Value.int .i64 0]++[Value.int .i64 0]++[Value.int .i64 0]++[Value.int .i64 0]++[Value.int .i64 0]++[Value.int .i64 0]++[Value.slice none 0 0]) F (by simp[zb,j]) (by simp[Value.cells,j]) (by simp[zb])];rw[Instr.fill];simp[Value.cells,zb,ay.v,ay.t,kN]
theorem Nu{o:Oper}{a:Act}{j u:Operand}{x:aj}{sa:aN}{sn sc:Nat}{l:aT}(aa:o.op= .build 101 #[(1,j),(2,u)])(E:a.eval j=Value.agg (x.map Y).toArray)(e2:a.eval u=Value.slice sa sn sc)(ab:x.length=16)(w:World):(execOp a.eval o).run prog w= .ok (.value (.agg (ay.v ⟨⟨#[]⟩,x,sa,sn,sc,l,⟨#[]⟩,kN,0,0,0,0,0,0,none,0,0,[]⟩).toArray)) w:=by
 have h:=run_build (P:=prog) w 101 #[(1,Value.agg (x.map Y).toArray),(2,Value.slice sa sn sc)] _ (ad1 x sa sn sc l ab);have R:(#[(1,j),(2,u)].map fun(r:Nat×Operand)=>(r.1,a.eval r.2))= #[(1,Value.agg (x.map Y).toArray),(2,Value.slice sa sn sc)]:=by simp[E,e2]
 unfold execOp;simp only[aa,Sem.run_bind];have I:(Instr.build 101 (#[(1,j),(2,u)].map fun(r:Nat×Operand)=>(r.1,a.eval r.2))).run prog w= .ok (.agg (ay.v ⟨⟨#[]⟩,x,sa,sn,sc,l,⟨#[]⟩,kN,0,0,0,0,0,0,none,0,0,[]⟩).toArray) w:=by rw[R];exact h
 rw[I];rfl
end Go.Proofs.YtjlhhnkhcbpnjaaGreatDoor
