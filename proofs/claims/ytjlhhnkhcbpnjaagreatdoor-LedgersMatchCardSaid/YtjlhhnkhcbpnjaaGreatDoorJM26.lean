/- Laws that the row leans on; no condition. -/
import Derived.Test.YtjlhhnkhcbpnjaaGreatDoorJM22
import Derived.Test.YtjlhhnkhcbpnjaaGreatDoorJM25
namespace Go.Proofs.YtjlhhnkhcbpnjaaGreatDoor
open Go Go.RowKit List Tryz
set_option linter.unusedVariables false
set_option linter.unusedSimpArgs false
set_option maxHeartbeats 40000000
set_option maxRecDepth 100000
theorem UN(gj gs go p:Nat)(S:aV)(v:Value)(es:List aG)(e:aG)(w0 w:World)(h:Ga w0 w gj gs go p S v es)(a1:e.Ok w)(b6:∀g,(v.ownBlock=some g∨g=go)->iC g e.ba e.bn)(bd:CU p e)(b7:mJ w0)(hn:es.length<=100):
 Calls prog 43 #[.agg e.v.toArray,.pointer (some ⟨gj,0,none⟩),.pointer (some ⟨gs,0,none⟩),.pointer (some ⟨go,0,none⟩)] w fun x w'=>
  ∃S' v',x= .returned (.bool (decide (S.p.ref e=0)))/\Ga w0 w' gj gs go p S' v' (if S.p.ref e=0 then es++[e]else es)/\S'.p=S.p.apply e/\w.heap.size<=w'.heap.size:=by
 obtain⟨ab,cf,ax,bo,bp,cr⟩:=iq h a1 (aG.len a1) b6 bd (fun ac (I:X w ac)=>adX p S e w0 ac (h.st.ext I) (a1.ext I) bd b7 (h.ex.ext I) h.hi);obtain⟨cC,bc⟩:=jE (fun x w'=>∃S' v',x= .returned (.bool (decide (S.p.ref e=0)))/\Ga w0 w' gj gs go p S' v' (if S.p.ref e=0 then es++[e]else es)/\S'.p=S.p.apply e/\w.heap.size<=w'.heap.size:Ending->World->Prop);rw[<-bc];have br:=O bc;clear h a1 b6 bd b7 bc;go_enter func43,ntmps43;go_upto_region 1 with fail;generalize iX:World.alloc w _=bj;have bz:ah bj w.heap.size e.v 34:=by rw[<-iX];exact ah.aI F F
 have a0:X w bj:=by rw[<-iX];exact(X.refl w).alloc _
 obtain⟨aw,an,cg,EA⟩:=bU bz (ab.ext a0) (cf.ext a0) a0;clear iX bz a0;have cn:=an.bj.cell' (i:=0) F;have cs:=an.bs.cell' (i:=0) F;generalize w.heap.size=G4 at aw⊢;go_wp2_with (refine bV F 34 _ F F aw cZ ax ?_);refine(cr bj EA).mono ?_;rintro cF ac ⟨rfl,T,b4,b5,ap,b8,b'⟩;have b9:=an.st.notM aw aX;obtain⟨cd,af,ba,az,bu⟩:=dM (aw.mut ap b9) (an.apply b4 ap b8 b') (cg.mut ap (fun g j=>an.st.Iz j) bp) b5 (show w.heap.size<=ac.heap.size from Nat.le_trans EA.size ap.size);clear b4 b5 ap b8 b' b9 cn cs;by_cases ae:S.p.ref e=0
 ·have ao:=O ae;rw[ae];clear ae;have cv:=af.2.2.2.1.cell' (i:=0) F;have a2:=af.2.2.2.2.1;obtain⟨bw,cA⟩:=aB a2 (EU a2);have ci:v.ownBlock≠some p:=(show v.ownBlock≠some p from GU a2 af.1.blk aX);have B0:w0.heap.size<=ac.heap.size:=af.2.2.2.2.2.2.2.1.size;clear a2;go_wp2_with (first|(refine bV F 34 (.tmp 4) F F cd cZ ax ?_)|(refine Cc GX aX F F F ax ?_)|(refine qB GX F _ _ F w0.heap.size (m:=1) (news:=e.v) F F (dQ bw ((X.refl _).alloc _)) (by rw[ax.out]) l5 (by intro h;cases h) (aK.tO (ah.aI (vs:=e.v) F F)) (i_ e) J J (by rw[gU];omega) ?_));intro v2 w2 bh ad u6;obtain⟨ag,k2,rfl, -, -, -⟩:=iJ bh;have aa:X ac (World.alloc ac (.cells e.v.toArray 34)):=(X.refl _).alloc _;have cy:(World.alloc ac (.cells e.v.toArray 34)).heap.size=ac.heap.size+1:=gU _ _;generalize World.alloc ac (.cells e.v.toArray 34)=cc at*;obtain⟨a3,a4,a5,a6,a7,aq,ar,a8,a9⟩:=af.out;have am:=dQ a7 aa;have bi:=a3.ext aa;have cb:=bi.row ci (EU am) (fun g j=>aq g (.inl j)) ad;have b0:=(a4.ext aa).besides am ad aX;have b1:=(a5.ext aa).besides am ad aX;have aE:=(a6.ext aa).besides am ad aX;have ca:∀x∈es++[e],x.Ok w2:=by
   intro x u;rcases mem_append.1 u with u|u
   ·exact((ar x u).ext aa).row (fun g j=>ab.eo x u g (.inl j)) ad
   ·rw[mem_singleton.1 u];exact(ba.ext aa).row (fun g j=>bo g (.inl j)) ad
  have b3:X w0 w2:=(a8.ext aa).grown ad (fun q cx=>(am.lt q cx).1);have be:∀x∈es++[e],x.Ok cc:=by
   intro x u;rcases mem_append.1 u with u|u
   ·exact(ar x u).ext aa
   ·rw[mem_singleton.1 u];exact ba.ext aa
  have a_:∀g,((Value.slice ag (es.length+1) k2).ownBlock=some g∨g=go)->(v.ownBlock=some g∨g=go)∨cc.heap.size<=g:=by
   rintro g (j|j)
   ·rcases u6 with I|I
    ·exact .inl (.inl (I▸j))
    ·rw[I]at j;injection j with j;exact .inr J
   ·exact .inl (.inr j)
  have bv:=O (show∀g,((Value.slice ag (es.length+1) k2).ownBlock=some g∨g=go)->T.Off g from fun g j=>(a_ g j).elim (aq g) (fun I=>bi.H_ I));have bm:=O (show∀x∈es++[e],∀g,((Value.slice ag (es.length+1) k2).ownBlock=some g∨g=go)->iC g x.ba x.bn from fun x u g j=>(a_ g j).elim (fun I=>by
   rcases mem_append.1 u with u|u
   ·exact ab.eo x u g I
   ·rw[mem_singleton.1 u];exact bo g I) (fun I=>yU (be x u).hcl (fun b2=>by rw[length_map,(be x u).hb]at b2;exact b2) I))
  obtain⟨bx,bk,bl,al,ck,ce,cl,ch⟩:=jg cb b0 b1 aE ca b3 bh a9;have cj:=O (show w.heap.size<=w2.heap.size by have I:=ad.size;have R:=bu.out;omega);have cE:=aE.frozen 0;have cD:=aE.cell' (i:=0) F;clear a3 a4 a5 a6 a7 aq ar a8 a9 am bi cb b0 b1 aE ca b3 be a_ bh ad u6 aa cy af ba bw cv;go_wp2_with fail
  (try go_ret)
  have ai:aU w2 go (World.setCell w2 ⟨go,0,none⟩ (Value.slice ag (es.length+1) k2)):=aU.setCell (i:=0) (Value.slice ag (es.length+1) k2);have cm:=al.set 0 (Value.slice ag (es.length+1) k2);have cw:∀g,some go=some g->¬jr w2 g:=fun g j hn=>by
   injection j with j;subst j;exact hn.ne al F
  have cz:=bx.row (r:=some go) (fun h=>by injection h with h;exact bx.notM al aX (.inl h)) cw (fun g j=>by injection j with j;exact j▸bv.out go (.inr F)) (qC ai);rw[br.out];rw[if_pos ao.out];refine⟨T,(Value.slice ag (es.length+1) k2),by rw[aQ ao.out];rfl,⟨cz,bk.upd ai (fun h=> ?_),bl.upd ai (fun h=> ?_),cm,?_,bv,fun x u=>(ck x u).row (r:=some go) (fun g j=>by injection j with j;exact j▸bm.out x u go (.inr F)) (qC ai),bm,fun x u=> ?_,?_,ai.ext ce ab.go0,ch,ab.go0⟩,by rw[az.out],by rw[ai.size];exact cj⟩
  ·subst h;have I:=bk.out;have R:=al.out;unfold ah at I R;rw[I]at R;injection R with R;injection R with _ R _;exact absurd R aX
  ·subst h;have I:=bl.out;have R:=al.out;unfold ah at I R;rw[I]at R;injection R with R;injection R with _ R _;exact absurd R aX
  ·rw[GV,length_append];have:iM [e]=e.v:=by unfold iM;simp
   rw[this];exact n_ cl ai al aX
  ·rcases mem_append.1 u with u|u
   ·exact ab.ep x u
   ·rw[mem_singleton.1 u];exact bp
  ·rw[az.out];unfold dw.apply;rw[if_pos ao.out];exact o_.snoc ab.ch ao
 ·have ao:=O ae;have co:(S.p.ref e != 0)=true:=by simp;exact ae
  have cp:decide (S.p.ref e=0)=false:=aP ae;have ct:S.p.apply e=S.p:=by unfold dw.apply;rw[if_neg ae]
  have bt:=O ae;obtain⟨E,cq⟩:=aC (S.p.ref e);rw[cq]at co cp⊢;clear ae;go_wp2_with fail
  (try go_ret)
  rw[br.out,if_neg bt.out];obtain⟨a3,a4,a5,a6,a7,aq,ar,a8,a9⟩:=af.out;exact⟨T,v,by rw[aP bt.out];rfl,⟨a3,a4,a5,a6,a7,aq,ar,ab.eo,ab.ep,by rw[az.out,ct];exact ab.ch,a8,a9,ab.go0⟩,az,bu⟩
section
open Go Go.RowKit
section
variable {P:Program} {ops:Array Oper} {Q:Exit->Act->World->Prop} {S:World->Prop}
theorem UO{B A:Nat}{vs:aO}{T:TypeId}{f:Nat}{aa:Array Bool}{α:Value->Act}{D:World->Prop}(i j:Nat){al am ai:Oper}{bm bo bl:List Oper}{d:Tmp}{βi βj:Type}(a2:βi->Value)(a3:βj->Value)(an:βi->World->Prop)(ao:βj->World->Prop)
 (ar:ops.toList.drop i=al::bm)(aw:ops.toList.drop j=am::bo)(a5:ops.toList.drop A=ai::bl)(a6:ai.dst=some d)(a7:ai.guard=none)(a8:∀bp w,(execOp bp ai).run P w= .ok (.value (vS w.heap.size)) (w.alloc (.cells vs.toArray T)))
 (be:((Region.ready .any ops aa).all fun k=>k==i||k==j||k==A)=true)(ax:(Region.ready .any ops aa).isEmpty=false)
 (bh:((Region.ready .any ops (aa.setIfInBounds A true)).all fun k=>k==i||k==j)=true)(az:(Region.ready .any ops (aa.setIfInBounds A true)).isEmpty=false)(a_:(i==A)=false)(bc:(j==A)=false)
 (bk:∀x y,(α x).put (some d) y=α y)(bi:∀b w w',an b w->X w w'->an b w')(bj:∀b w w',ao b w->X w w'->ao b w')
 (a0:∀x w,D w->∀ad:Exit->Act->World->Prop,(∀b w',X w w'->an b w'->ad .normal ((α x).put al.dst (a2 b)) w')->wpList P ops ad [al] (α x) w)
 (a1:∀x w,D w->∀ad:Exit->Act->World->Prop,(∀b w',X w w'->ao b w'->ad .normal ((α x).put am.dst (a3 b)) w')->wpList P ops ad [am] (α x) w)
 (af:∀b,Fl P ops Q S B A vs T f (aa.setIfInBounds i true) (fun x=>(α x).put al.dst (a2 b)) (fun w=>D w/\an b w))
 (ag:∀b,Fl P ops Q S B A vs T f (aa.setIfInBounds j true) (fun x=>(α x).put am.dst (a3 b)) (fun w=>D w/\ao b w)):Fl P ops Q S B A vs T (f+1) aa α D:=by
 have a4:=jy a5;intro R ab ap;have af:=fun b=>af b (fun w w' I u=>⟨R w w' I.1 u,bi b w w' I.2 u⟩) (fun w I=>ab w I.1) (fun w I=>ap w I.1);have ag:=fun b=>ag b (fun w w' I u=>⟨R w w' I.1 u,bj b w w' I.2 u⟩) (fun w I=>ab w I.1) (fun w I=>ap w I.1);have ba:i≠A:=by simpa using a_
 have bd:j≠A:=by simpa using bc
 have aE:∀g w,D w->B<=g->ah w g vs T->wpAnyH P .any ops Q S (f+1) (aa.setIfInBounds A true) (α (vS g)) w:=by
  intro g w E aq hb;refine wpAnyH_all (rs:=Region.ready .any ops (aa.setIfInBounds A true)) F (fun e=>by rw[e]at az;cases az) fun k hk=> ?_;have ae:=all_eq_true.1 bh k hk;simp only[Bool.or_eq_true,beq_iff_eq]at ae;rcases ae with rfl|rfl
  ·refine mZ (jy ar) (a0 _ w E _ fun b w' u ac=> ?_);have:=(af b).2 g w' ⟨R _ _ E u,ac⟩ aq (hb.ext u);rw[Array.setIfInBounds_comm _ _ ba]at this;exact⟨ab _ (R _ _ E u),this⟩
  ·refine mZ (jy aw) (a1 _ w E _ fun b w' u ac=> ?_);have:=(ag b).2 g w' ⟨R _ _ E u,ac⟩ aq (hb.ext u);rw[Array.setIfInBounds_comm _ _ bd]at this;exact⟨ab _ (R _ _ E u),this⟩
 refine⟨fun x w E=> ?_,aE⟩;refine wpAnyH_all (rs:=Region.ready .any ops aa) F (fun e=>by rw[e]at ax;cases ax) fun k hk=> ?_;have ae:=all_eq_true.1 be k hk;simp only[Bool.or_eq_true,beq_iff_eq]at ae;rcases ae with(rfl|rfl)|rfl
 ·refine mZ (jy ar) (a0 _ w E _ fun b w' u ac=> ?_);exact⟨ab _ (R _ _ E u),(af b).1 x w' ⟨R _ _ E u,ac⟩⟩
 ·refine mZ (jy aw) (a1 _ w E _ fun b w' u ac=> ?_);exact⟨ab _ (R _ _ E u),(ag b).1 x w' ⟨R _ _ E u,ac⟩⟩
 ·refine mZ a4 ?_;refine wpList_plain a7 fun K a9=> ?_;unfold Oper.wp;rw[a8,Oper.upon_value,a6];refine a9 _ _ ?_;have u:X w (w.alloc (.cells vs.toArray T)):=(X.refl w).alloc _;rw[bk];exact⟨ab _ (R _ _ E u),aE _ _ (R _ _ E u) (ap _ E) (ah.yu _ _ _)⟩
end
end
theorem adY:(prog.info? 101).map (fun i=>(i.zero,i.size,i.bytes))=some (some (.agg dI.v.toArray),58,176):=au
theorem adZ:(prog.underlying 101).bind (fun d=>match d with| .struct j=>j.toList.mapM (fun f=>(prog.info? f.type).map fun i=>(f.offset,i.size))|_=>none)=some [(0,1),(1,16),(17,1),(18,1),(19,32),(51,1),(52,1),(53,1),(54,1),(55,1),(56,1),(57,1)]:=au
theorem ad1(x:aj)(sa:aN)(sn sc:Nat)(l:aT)(j:x.length=16):prog.built 101 [(1,Value.agg (x.map Y).toArray),(2,Value.slice sa sn sc)]=some (ay.v ⟨⟨#[]⟩,x,sa,sn,sc,l,⟨#[]⟩,kN,0,0,0,0,0,0,none,0,0,[]⟩).toArray:=by
 obtain⟨aa,u,E,R,I⟩:=info_parts adY;have hf:=adZ;rw[underlying101]at hf;simp only[Option.bind_some]at hf;unfold Program.built;rw[u,underlying101];simp only[E,hf];have g0:(Value.agg dI.v.toArray).cells=(([Value.string ⟨#[]⟩])++(zb 16)++([Value.slice none 0 0]++[Value.string ⟨#[]⟩]++(zb 32)++[Value.int .i64 0]++[Value.int .i64 0]++[Value.int .i64 0]++[Value.int .i64 0]++[Value.int .i64 0]++[Value.int .i64 0]++[Value.slice none 0 0])).toArray:=F;rw[g0,jh ([Value.string ⟨#[]⟩]) (zb 16) ([Value.slice none 0 0]++[Value.string ⟨#[]⟩]++(zb 32)++[Value.int .i64 0]++[Value.int .i64 0]++[Value.int .i64 0]++[Value.int .i64 0]++[Value.int .i64 0]++[Value.int .i64 0]++[Value.slice none 0 0]) F (by simp[zb,j]) (by simp[Value.cells,j]) (by simp[zb])];have g1:([Value.string ⟨#[]⟩])++(Value.agg (x.map Y).toArray).cells.toList++([Value.slice none 0 0]++[Value.string ⟨#[]⟩]++(zb 32)++[Value.int .i64 0]++[Value.int .i64 0]++[Value.int .i64 0]++[Value.int .i64 0]++[Value.int .i64 0]++[Value.int .i64 0]++[Value.slice none 0 0])=([Value.string ⟨#[]⟩]++(x.map Y))++[Value.slice none 0 0]++([Value.string ⟨#[]⟩]++(zb 32)++[Value.int .i64 0]++[Value.int .i64 0]++[Value.int .i64 0]++[Value.int .i64 0]++[Value.int .i64 0]++[Value.int .i64 0]++[Value.slice none 0 0]):=by simp[Value.cells,zb]
 rw[g1,jh ([Value.string ⟨#[]⟩]++(x.map Y)) [Value.slice none 0 0] ([Value.string ⟨#[]⟩]++(zb 32)++[Value.int .i64 0]++[Value.int .i64 0]++[Value.int .i64 0]++[Value.int .i64 0]++[Value.int .i64 0]++[Value.int .i64 0]++[Value.slice none 0 0]) F (by simp[zb,j]) (by simp[Value.cells,j]) (by simp[zb])];rw[Instr.fill];simp[Value.cells,zb,ay.v,ay.t,kN]
theorem Nu{o:Oper}{a:Act}{j u:Operand}{x:aj}{sa:aN}{sn sc:Nat}{l:aT}(aa:o.op= .build 101 #[(1,j),(2,u)])(E:a.eval j=Value.agg (x.map Y).toArray)(e2:a.eval u=Value.slice sa sn sc)(ab:x.length=16)(w:World):(execOp a.eval o).run prog w= .ok (.value (.agg (ay.v ⟨⟨#[]⟩,x,sa,sn,sc,l,⟨#[]⟩,kN,0,0,0,0,0,0,none,0,0,[]⟩).toArray)) w:=by
 have h:=run_build (P:=prog) w 101 #[(1,Value.agg (x.map Y).toArray),(2,Value.slice sa sn sc)] _ (ad1 x sa sn sc l ab);have R:(#[(1,j),(2,u)].map fun(r:Nat×Operand)=>(r.1,a.eval r.2))= #[(1,Value.agg (x.map Y).toArray),(2,Value.slice sa sn sc)]:=by simp[E,e2]
 unfold execOp;simp only[aa,Sem.run_bind];have I:(Instr.build 101 (#[(1,j),(2,u)].map fun(r:Nat×Operand)=>(r.1,a.eval r.2))).run prog w= .ok (.agg (ay.v ⟨⟨#[]⟩,x,sa,sn,sc,l,⟨#[]⟩,kN,0,0,0,0,0,0,none,0,0,[]⟩).toArray) w:=by rw[R];exact h
 rw[I];rfl
end Go.Proofs.YtjlhhnkhcbpnjaaGreatDoor
