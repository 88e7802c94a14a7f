/- Laws; no condition. -/
import Derived.Test.YtjlhhnkhcbpnjaaGreatDoorJN15
import Derived.Test.YtjlhhnkhcbpnjaaGreatDoorJN18
namespace Go.Proofs.YtjlhhnkhcbpnjaaGreatDoor
open Go Go.RowKit List Tryz
open Go.Value(int slice agg cells string)
open Go.World(alloc)
open Go.Region(ready)
set_option linter.all false
set_option maxHeartbeats 40000000
set_option maxRecDepth 100000
def adv(Q gs d p:Nat)(S:bD)(v:Value)(es:List aR)(e:aR)(s w:World)(h:Ei s w Q gs d p S v es)(R:e.Ok w)(bc:∀g,(v.ownBlock=some g∨g=d)->lM g e.ba e.bn)(al:KE p e)(bd:uK s)(be:es.length<=100):
 Calls prog 43 #[.agg e.v.toArray,.pointer (some ⟨Q,0,none⟩),.pointer (some ⟨gs,0,none⟩),.pointer (some ⟨d,0,none⟩)] w λx w'=>
  ∃S' aq,x= .returned (.bool (decide (S.p.ref e=0)))/\Ei s w' Q gs d p S' aq (if S.p.ref e=0 then es++[e]else es)/\S'.p=S.p.apply e/\w.heap.size<=w'.heap.size:=by
 obtain⟨k,br,L,aE,a0,b4⟩:=jW h R (aR.len R) bc al (λl (c:aj w l)=>afm p S e s l (h.st.ext c) (R.ext c) al bd (h.ex.ext c) h.hi);obtain⟨cd,ai⟩:=mP (λx w'=>∃S' aq,x= .returned (.bool (decide (S.p.ref e=0)))/\Ei s w' Q gs d p S' aq (if S.p.ref e=0 then es++[e]else es)/\S'.p=S.p.apply e/\w.heap.size<=w'.heap.size:Ending->World->Prop);rw[<-ai];have a1:=O ai;clear h R bc al bd ai;go_enter func43,ntmps43;go_upto_region 1 with fail;generalize am:alloc w _=ca;have P:=dS am;obtain⟨K,C,bs,ax⟩:=bT (dX am e.v 34) (k.ext P) (br.ext P) P;clear am P;have b0:=C.bj.cell' (i:=0) F;have cs:=C.bs.cell' (i:=0) F;generalize w.heap.size=cb at K⊢;go_wp2_with (refine dA F 34 _ F F K eZ L ?_);refine(b4 ca ax).mono ?_;rintro ch l ⟨rfl,T,a',ba,G,bh,bj⟩;have bi:=C.st.notM K bS;obtain⟨bo,t,ag,M,a3⟩:=fC (K.mut G bi) (C.apply a' G bh bj) (bs.mut G (λg a=>C.st.RQ a) a0) ba (show w.heap.size<=l.heap.size from dJ ax.size G.size);clear a' ba G bh bj bi b0 cs;by_cases o:S.p.ref e=0
 ·have D:=O o;rw[o];clear o;have b6:=t.2.2.2.1.cell' (i:=0) F;have U:=t.2.2.2.2.1;obtain⟨a5,cc⟩:=aA U (OU U);have bu:v.ownBlock≠some p:=(show v.ownBlock≠some p from R3 U t.1.blk bS);have B0:s.heap.size<=l.heap.size:=t.2.2.2.2.2.2.2.1.size;clear U;go_wp2_with (first|(refine dA F 34 (.tmp 4) F F bo eZ L ?_)|(refine Mw Zm bS F F F L ?_)|(refine yY Zm F _ _ F s.heap.size (m:=1) (news:=e.v) F F (iy a5 ((aj.refl _).alloc _)) (by rw[L.out]) (aQ _) (by intro h;cases h) (aM.iM (au.bK (vs:=e.v) F F)) (nQ e) J J (by rw[jf];omega) ?_));intro cg B ao n bb;obtain⟨u,k2,rfl, -, -, -⟩:=j3 ao;have j:aj l (alloc l (.cells e.v.toArray 34)):=(aj.refl _).alloc _;have b9:(alloc l (.cells e.v.toArray 34)).heap.size=l.heap.size+1:=jf _ _;generalize alloc l (.cells e.v.toArray 34)=bm at*;obtain⟨V,W,aa,ab,ac,H,I,ad,ae⟩:=t.out;have A:=iy ac j;have ap:=V.ext j;have bl:=ap.row bu (OU A) (λg a=>H g (.inl a)) n;have a7:=(W.ext j).besides A n bS;have a8:=(aa.ext j).besides A n bS;have N:=(ab.ext j).besides A n bS;have bk:∀x∈es++[e],x.Ok B:=by
   intro x b;rcases kU.1 b with b|b
   ·exact((I x b).ext j).row (λg a=>k.eo x b g (.inl a)) n
   ·rw[nu.1 b];exact(ag.ext j).row (λg a=>aE g (.inl a)) n
  have a_:aj s B:=(ad.ext j).grown n (λq b8=>(A.lt q b8).1);have an:∀x∈es++[e],x.Ok bm:=by
   intro x b;rcases kU.1 b with b|b
   ·exact(I x b).ext j
   ·rw[nu.1 b];exact ag.ext j
  have af:∀g,((slice u (es.length+1) k2).ownBlock=some g∨g=d)->(v.ownBlock=some g∨g=d)∨bm.heap.size<=g:=by
   rintro g (a|a)
   ·rcases bb with c|c
    ·exact .inl (.inl (c▸a))
    ·rw[c]at a;injection a with a;exact .inr J
   ·exact .inl (.inr a)
  have a4:=O (show∀g,((slice u (es.length+1) k2).ownBlock=some g∨g=d)->T.Off g from λg a=>(af g a).elim (H g) (λc=>ap.OM c));have az:=O (show∀x∈es++[e],∀g,((slice u (es.length+1) k2).ownBlock=some g∨g=d)->lM g x.ba x.bn from λx b g a=>(af g a).elim (λc=>by
   rcases kU.1 b with b|b
   ·exact k.eo x b g c
   ·rw[nu.1 b];exact aE g c) (λc=>Jv (an x b).hcl (λa9=>by rw[aI,(an x b).hb]at a9;exact a9) c))
  obtain⟨a6,ar,aw,z,bw,bp,bx,bt⟩:=mQ bl a7 a8 N bk a_ ao ae;have bv:=O (show w.heap.size<=B.heap.size by have c:=n.size;have f:=a3.out;omega);have cf:=N.frozen 0;have ce:=N.cell' (i:=0) F;clear V W aa ab ac H I ad ae A ap bl a7 a8 N bk a_ an af ao n bb j b9 t ag a5 b6;go_wp2
  (try go_ret)
  have y:dF B d (World.setCell B ⟨d,0,none⟩ (slice u (es.length+1) k2)):=dF.setCell (i:=0) (slice u (es.length+1) k2);have bz:=z.set 0 (slice u (es.length+1) k2);have b7:∀g,some d=some g->¬kM B g:=λg a be=>by
   injection a with a;subst a;exact be.ne z F
  have b':=a6.row (r:=some d) (λh=>by injection h with h;exact a6.notM z bS (.inl h)) b7 (λg a=>by injection a with a;exact a▸a4.out d (.inr F)) (zJ y);rw[a1.out];rw[aN D.out];refine⟨T,(slice u (es.length+1) k2),by rw[bV D.out];rfl,⟨b',ar.upd y (λh=> ?_),aw.upd y (λh=> ?_),bz,?_,a4,λx b=>(bw x b).row (r:=some d) (λg a=>by injection a with a;exact a▸az.out x b d (.inr F)) (zJ y),az,λx b=> ?_,?_,y.ext bp k.go0,bt,k.go0⟩,by rw[M.out],by rw[y.size];exact bv⟩
  ·subst h;have c:=ar.out;have f:=z.out;unfold au at c f;rw[c]at f;injection f with f;injection f with _ f _;exact absurd f bS
  ·subst h;have c:=aw.out;have f:=z.out;unfold au at c f;rw[c]at f;injection f with f;injection f with _ f _;exact absurd f bS
  ·rw[Zx,bQ];have:kX [e]=e.v:=by unfold kX;simp
   rw[this];exact JZ bx y z bS
  ·rcases kU.1 b with b|b
   ·exact k.ep x b
   ·rw[nu.1 b];exact a0
  ·rw[M.out];unfold fB.apply;rw[aN D.out];exact vD.snoc k.ch D
 ·have D:=O o;have b1:=om o;have b2:=bg o;have b5:S.p.apply e=S.p:=by unfold fB.apply;rw[aJ o]
  have a2:=O o;obtain⟨E,b3⟩:=aF (S.p.ref e);rw[b3]at b1 b2⊢;clear o;go_wp2
  (try go_ret)
  rw[a1.out,aJ a2.out];obtain⟨V,W,aa,ab,ac,H,I,ad,ae⟩:=t.out;exact⟨T,v,by rw[bg a2.out];rfl,⟨V,W,aa,ab,ac,H,I,k.eo,k.ep,by rw[M.out,b5];exact k.ch,ad,ae,k.go0⟩,M,a3⟩
section
section
variable {P:Program} {ops:Array Oper} {Q:Exit->Act->World->Prop} {S:World->Prop}
def Ya{B A:Nat}{vs:aP}{T:TypeId}{f:Nat}{c:Array Bool}{h:Value->Act}{D:World->Prop}(i j:Nat){r s q:Oper}{ag ai af:List Oper}{d:Tmp}{βi βj:Type}(M:βi->Value)(N:βj->Value)(t:βi->World->Prop)(u:βj->World->Prop)
 (E:ops.toList.drop i=r::ag)(G:ops.toList.drop j=s::ai)(R:ops.toList.drop A=q::af)(Q9:q.dst=some d)(Dt:q.guard=none)(Q_:∀al w,(execOp al q).run P w= .ok (.value (DJ w.heap.size)) (w.alloc (.cells vs.toArray T)))
 (ab:((ready .any ops c).all λk=>k==i||k==j||k==A)=true)(H:(ready .any ops c).isEmpty=false)
 (ac:((ready .any ops (c.setIfInBounds A true)).all λk=>k==i||k==j)=true)(I:(ready .any ops (c.setIfInBounds A true)).isEmpty=false)(U:(i==A)=false)(W:(j==A)=false)
 (hα:∀x y,(h x).put (some d) y=h y)(ad:∀b w w',t b w->aj w w'->t b w')(ae:∀b w w',u b w->aj w w'->u b w')
 (K:∀x w,D w->∀m:Exit->Act->World->Prop,(∀b w',aj w w'->t b w'->m .normal ((h x).put r.dst (M b)) w')->wpList P ops m [r] (h x) w)
 (L:∀x w,D w->∀m:Exit->Act->World->Prop,(∀b w',aj w w'->u b w'->m .normal ((h x).put s.dst (N b)) w')->wpList P ops m [s] (h x) w)
 (o:∀b,Fl P ops Q S B A vs T f (c.setIfInBounds i true) (λx=>(h x).put r.dst (M b)) (λw=>D w/\t b w))
 (p:∀b,Fl P ops Q S B A vs T f (c.setIfInBounds j true) (λx=>(h x).put s.dst (N b)) (λw=>D w/\u b w)):Fl P ops Q S B A vs T (f+1) c h D:=by
 have hA:=kJ R;intro hD uU Du;have o:=λb=>o b (λw w' a he=>⟨hD w w' a.1 he,ad b w w' a.2 he⟩) (λw a=>uU w a.1) (λw a=>Du w a.1);have p:=λb=>p b (λw w' a he=>⟨hD w w' a.1 he,ae b w w' a.2 he⟩) (λw a=>uU w a.1) (λw a=>Du w a.1);have V:i≠A:=by simpa using U
 have aa:j≠A:=by simpa using W
 have SN:∀g w,D w->B<=g->au w g vs T->wpAnyH P .any ops Q S (f+1) (c.setIfInBounds A true) (h (DJ g)) w:=by
  intro g w nS z C;refine BU (rs:=ready .any ops (c.setIfInBounds A true)) F (λe=>by rw[e]at I;cases I) λk v=> ?_;have n:=z_.1 ac k v;simp only[zf,yj]at n;rcases n with rfl|rfl
  ·refine p9 (kJ E) (K _ w nS _ λb w' he l=> ?_);have:=(o b).2 g w' ⟨hD _ _ nS he,l⟩ z (C.ext he);rw[AQ _ _ V]at this;exact⟨uU _ (hD _ _ nS he),this⟩
  ·refine p9 (kJ G) (L _ w nS _ λb w' he l=> ?_);have:=(p b).2 g w' ⟨hD _ _ nS he,l⟩ z (C.ext he);rw[AQ _ _ aa]at this;exact⟨uU _ (hD _ _ nS he),this⟩
 refine⟨λx w nS=> ?_,SN⟩;refine BU (rs:=ready .any ops c) F (λe=>by rw[e]at H;cases H) λk v=> ?_;have n:=z_.1 ab k v;simp only[zf,yj]at n;rcases n with(rfl|rfl)|rfl
 ·refine p9 (kJ E) (K _ w nS _ λb w' he l=> ?_);exact⟨uU _ (hD _ _ nS he),(o b).1 x w' ⟨hD _ _ nS he,l⟩⟩
 ·refine p9 (kJ G) (L _ w nS _ λb w' he l=> ?_);exact⟨uU _ (hD _ _ nS he),(p b).1 x w' ⟨hD _ _ nS he,l⟩⟩
 exact ad7
end
end
def aie:(prog.info? 101).map (λi=>(i.zero,i.size,i.bytes))=some (some (.agg gQ.v.toArray),58,176):=aC
def ag3:(prog.underlying 101).bind (λd=>match d with| .struct a=>a.toList.mapM (λf=>(prog.info? f.type).map λi=>(f.offset,i.size))|_=>none)=some [(0,1),(1,16),(17,1),(18,1),(19,32),(51,1),(52,1),(53,1),(54,1),(55,1),(56,1),(57,1)]:=aC
def afH(x:ah)(sa:aO)(sn sc:Nat)(l:bq)(a:x.length=16):prog.built 101 [(1,agg (x.map Y).toArray),(2,slice sa sn sc)]=some (aD.v ⟨⟨#[]⟩,x,sa,sn,sc,l,⟨#[]⟩,wL,0,0,0,0,0,0,none,0,0,[]⟩).toArray:=by
 obtain⟨h,d,e,g,f⟩:=gJ aie;have b:=ag3;rw[underlying101]at b;simp only[AV]at b;unfold Program.built;rw[d,underlying101];simp only[e,b];have c:(agg gQ.v.toArray).cells=(([string ⟨#[]⟩])++(zb 16)++([slice none 0 0]++[string ⟨#[]⟩]++(zb 32)++[int .i64 0]++[int .i64 0]++[int .i64 0]++[int .i64 0]++[int .i64 0]++[int .i64 0]++[slice none 0 0])).toArray:=F;rw[c,lF ([string ⟨#[]⟩]) (zb 16) ([slice none 0 0]++[string ⟨#[]⟩]++(zb 32)++[int .i64 0]++[int .i64 0]++[int .i64 0]++[int .i64 0]++[int .i64 0]++[int .i64 0]++[slice none 0 0]) F (by simp[zb,a]) (by simp[cells,a]) (by simp[zb])];have g1:([string ⟨#[]⟩])++(agg (x.map Y).toArray).cells.toList++([slice none 0 0]++[string ⟨#[]⟩]++(zb 32)++[int .i64 0]++[int .i64 0]++[int .i64 0]++[int .i64 0]++[int .i64 0]++[int .i64 0]++[slice none 0 0])=([string ⟨#[]⟩]++(x.map Y))++[slice none 0 0]++([string ⟨#[]⟩]++(zb 32)++[int .i64 0]++[int .i64 0]++[int .i64 0]++[int .i64 0]++[int .i64 0]++[int .i64 0]++[slice none 0 0]):=by simp[cells,zb]
 rw[g1,lF ([string ⟨#[]⟩]++(x.map Y)) [slice none 0 0] ([string ⟨#[]⟩]++(zb 32)++[int .i64 0]++[int .i64 0]++[int .i64 0]++[int .i64 0]++[int .i64 0]++[int .i64 0]++[slice none 0 0]) F (by simp[zb,a]) (by simp[cells,a]) (by simp[zb])];rw[Instr.fill];simp[cells,zb,aD.v,aD.t,wL]
def agG{o:Oper}{a:Act}{b c:Operand}{x:ah}{sa:aO}{sn sc:Nat}{l:bq}(i:o.op= .build 101 #[(1,b),(2,c)])(d:a.eval b=agg (x.map Y).toArray)(e:a.eval c=slice sa sn sc)(j:x.length=16)(w:World):(execOp a.eval o).run prog w= .ok (.value (.agg (aD.v ⟨⟨#[]⟩,x,sa,sn,sc,l,⟨#[]⟩,wL,0,0,0,0,0,0,none,0,0,[]⟩).toArray)) w:=by
 have h:=B_ (P:=prog) w 101 #[(1,agg (x.map Y).toArray),(2,slice sa sn sc)] _ (afH x sa sn sc l j);have g:(#[(1,b),(2,c)].map λ(r:Nat×Operand)=>(r.1,a.eval r.2))= #[(1,agg (x.map Y).toArray),(2,slice sa sn sc)]:=by simp[d,e]
 unfold execOp;simp only[i,iC];have f:(Instr.build 101 (#[(1,b),(2,c)].map λ(r:Nat×Operand)=>(r.1,a.eval r.2))).run prog w= .ok (.agg (aD.v ⟨⟨#[]⟩,x,sa,sn,sc,l,⟨#[]⟩,wL,0,0,0,0,0,0,none,0,0,[]⟩).toArray) w:=by rw[g];exact h
 rw[f];rfl
end Go.Proofs.YtjlhhnkhcbpnjaaGreatDoor
