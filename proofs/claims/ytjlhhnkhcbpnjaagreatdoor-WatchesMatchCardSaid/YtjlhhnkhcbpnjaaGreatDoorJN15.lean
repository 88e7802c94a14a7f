/- Laws; no condition. -/
import Derived.Test.YtjlhhnkhcbpnjaaGreatDoorJN14
namespace Go.Proofs.YtjlhhnkhcbpnjaaGreatDoor
open Go Go.RowKit List Tryz
open Go.World(alloc)
set_option linter.all false
set_option maxHeartbeats 40000000
set_option maxRecDepth 100000
def vM(w:World)(a:aO):Prop:=∀A,a=some A->∃b z,w.heap[A.block]? =some (.cells b 5 z)
def vM.none(w:World):vM w .none:=λA h=>by cases h
def vM.ext{w w':World}{a:aO}(h:vM w a)(e:aj w w'):vM w' a:=λA d=>by
 obtain⟨c,z,b⟩:=h A d;exact⟨c,z,(e.block A.block (o9.1 b).1).trans b⟩
def vM.upd{w w':World}{g:Nat}{a:aO}(h:vM w a)(u:dF w g w')(e:∀A,a=some A->A.block≠g):vM w' a:=λA b=>by
 obtain⟨c,z,d⟩:=h A b;exact⟨c,z,(u.block A.block (e A b)).trans d⟩
def vM.ne{w:World}{g:Nat}{a:aO}{vs:aP}{T:TypeId}(h:vM w a)(c:au w g vs T)(f:5≠T):∀A,a=some A->A.block≠g:=λA d e=>by
 obtain⟨i,z,b⟩:=h A d;unfold au at c;rw[e,c]at b;injection b with b;injection b with _ b _;exact f b.symm
def jV.tyU{w:World}{B n m c:Nat}{a:aO}{xs:ah}(h:jV w B (.slice a n c) m xs):vM w a:=λA d=>by
 rcases h.2 with⟨b,_⟩|⟨g,cap,e,f,b,_,i,_⟩
 ·injection b with b;rw[b]at d;cases d
 ·injection b with b;rw[b]at d;injection d with d;rw[<-d];exact⟨e,f,i⟩
def T9(S:bD)(c act:Int)(dz a:ah)(b:aD)(w:World)(x:Ending)(w':World):Prop:=
 aj w w'/\((qG act b≠0/\x= .returned (.tuple #[.agg gB.v.toArray,.int .i64 (qG act b)]))∨
  (qG act b=0/\∃e:aR,e.Ok w'/\e.num=(S.cnt:Int)/\e.time=c/\e.act=act/\e.dz=dz/\e.key=a/\e.prev=S.last/\e.body=ku (l7 act) b.p/\(∀A,e.ba=some A->w.heap.size<=A.block)/\vM w' e.ba/\
   x= .returned (.tuple #[.agg (if iJ e=0 then e else gB).v.toArray,.int .i64 (iJ e)])))
def ajl(p:Nat)(S:bD)(D act:Int)(dz l:ah)(b:aD)(w:World)(h:eT w p S)(q:b.Ok w)(ha:dz.length=16)(a3:l.length=16):
 Calls prog 46 #[.pointer (some ⟨p,0,none⟩),.int .i64 D,.int .i64 act,.agg (dz.map Y).toArray,.agg (l.map Y).toArray,.agg b.v.toArray] w (T9 S D act dz l b w):=by
 obtain⟨ao,am,bi,bo,ck,cl,cm,cg⟩:=mQ h (And.intro h.hl h.hf) ha a3 (show(dz.map Y).length=16 by rw[aI,ha]) (show(l.map Y).length=16 by rw[aI,a3]) (show(S.last.map Y).length=32 by rw[aI,h.hl]) (aD.len q);obtain⟨ae,a4⟩:=aA (λz=>aki (Sk (act:=act) (b:=b) z) q.hm q.hcm q.rl q.hl q.h16) (λg (ab:aj w g)=>ak4 act b g (q.ext ab));obtain⟨cC,aE⟩:=mP (T9 S D act dz l b w:Ending->World->Prop);rw[<-aE];have an:=O aE;clear h q ha a3 aE;go_enter func46,ntmps46;go_upto_region 1 with fail;generalize af:alloc w _=b9;generalize ag:alloc b9 _=a_;generalize ai:alloc a_ _=a';generalize a6:alloc a' _=r;have a8:b9.heap.size=w.heap.size+1:=by rw[<-af];exact jf _ _
 have a9:a_.heap.size=w.heap.size+1+1:=by rw[<-ag,jf,a8]
 have b7:a'.heap.size=w.heap.size+1+1+1:=by rw[<-ai,jf,a9]
 have br:=dX af (dz.map Y) 29;have bs:au a_ (w.heap.size+1) (l.map Y) 29:=by rw[<-ag];exact au.bK a8.symm rfl
 have bt:au a' (w.heap.size+1+1) b.v 101:=by rw[<-ai];exact au.bK a9.symm rfl
 have bu:au r (w.heap.size+1+1+1) gB.v 34:=by rw[<-a6];exact au.bK b7.symm rfl
 have bw:=dS af;have ar:=dS ag;have aa:=dS ai;have L:=dS a6;obtain⟨P,Q,R,s,u⟩:=fC (((br.ext ar).ext aa).ext L) ((bs.ext aa).ext L) (bt.ext L) bu (((bw.ext ar).ext aa).ext L);clear af ag ai a6 br bs bt bu bw ar aa L a8 a9 b7;obtain⟨bh,b0⟩:=aF (w.heap.size+1+1+1);have a1:w.heap.size<=bh:=J;rw[b0]at s⊢;clear b0;obtain⟨cy,bz⟩:=aF (w.heap.size+1+1);rw[bz]at R⊢;clear bz;obtain⟨cx,bx⟩:=aF (w.heap.size+1);rw[bx]at Q⊢;clear bx;obtain⟨cw,az⟩:=aF w.heap.size;rw[az]at P
 conv=>rw[az]
 clear az;go_wp2_with (refine dA F 101 _ F F R jQ cg ?_);refine(a4 r u).mono ?_;rintro cr G ⟨f,⟨o,v,rfl,a7⟩|⟨o,rfl⟩⟩
 case inr=>
  have cv:=om o;have cE:=bg o;obtain⟨W,T,x⟩:=aW o (s.ext f) (u.ext f);clear o f P Q R s u a4;generalize j:qG act b=E at*;have ch:=O j;clear j;go_wp2_with (refine aZ F _ _ _ F F F T eZ iA (xs:=gB.v) iA (nQ gB) ?_);intro b' K m;go_wp2_with fail;refine lI F F K eZ iA F ?_;rw[an.out];unfold T9;rw[ch.out];exact⟨m.ext x a1,.inl ⟨W,F⟩⟩
 have y:=O a7;obtain⟨a,c,rfl,ad,ct,b5,hcl⟩:=a7.slice;have W:=O o;have cv:(qG act b != 0)=false:=by simp;exact o
 have ae:=ae.out o;obtain⟨B,ax⟩:=aF (ku (l7 act) b.p);rw[ax]at hcl ad y ae⊢;obtain⟨n,ac⟩:=aF B.length;rw[ac]at ad y⊢;obtain⟨cA,cf,ba,bb,T,x⟩:=jW ac ax (P.ext f) (Q.ext f) (s.ext f) (u.ext f);have V:Hid (aR.Ok G ⟨(S.cnt:Int),D,act,dz,l,S.last,a,n,c,B⟩):=O ⟨bi,bo,am.1,ac,ad,(by show n<=140737488355328;omega),λcs=>(by have ab:=b5 cs;show n=0/\c=0;omega),hcl⟩;have bl:Hid (dh G r.heap.size a (B.map Y)):=O (aaq hcl (λA i _=>y.Bd A.block (by rw[i];rfl)));have U:=O (show∀A,a=some A->r.heap.size<=A.block from λA i=>y.Bd A.block (by rw[i];rfl));have co:=O y.tyU;have b3:bh<r.heap.size:=s.lt;have b4:w.heap.size<=r.heap.size:=u.size;generalize r.heap.size=cD at*;clear hcl ad ct b5 ac ax o ae f a7 y P Q R s u a4;go_upto_region 4 with fail;obtain⟨C,k,aK,bR⟩:=fK (show bM G G [] [] G from bM.iP (aj.refl _) (dR.none _));have bv:∀g,C g->g.cell? ⟨p,0,none⟩=some (.int .i64 (S.cnt:Int)):=λg ab=>((ao.ext (x.ext ((k g).1 ab).base)).blk).cell' (bD.kV S);refine fF λX=> ?_;refine ay 0 ?_;refine ay 1 ?_;refine ay 2 ?_;refine dW 3 (bv) ?_;refine ay 4 ?_;refine ay 5 ?_;refine aV 6 F (gP F 29 _ F F (λg h=>ba.ext ((k g).1 h).base) eu ck) ?_;refine aV 7 F (gP F 29 _ F F (λg h=>bb.ext ((k g).1 h).base) eu cl) ?_;refine ay 8 ?_;refine ay 9 ?_;refine ay 10 ?_;refine aV 11 F (aY F (λg h=>cB F F (d_ (ao.ext (x.ext ((k g).1 h).base)).blk (bD.last_at am.1)) bf cm)) ?_;refine ay 12 ?_;refine aV 13 F (aY F (λg h=>ZL B F F F F F F F F bi bo am.1 g)) ?_;generalize World.drew G=N at X⊢;obtain⟨e,a0⟩:=aF ((⟨(S.cnt:Int),D,act,dz,l,S.last,a,n,c,B⟩:aR):aR)
 rw[a0]at V⊢;obtain⟨ci,H⟩:=aA a0 (aR.len V);clear a0;refine aT 14 ?_;intro aq M;go_wp2_with fail;refine M _ _ (aK _ _ X ((aj.refl N).alloc _)) ?_;clear M aq;generalize a5:alloc N _=ca;have I:=dX a5 (gB.v) 34;have b2:C ca:=by rw[<-a5];exact aK _ _ X ((aj.refl N).alloc _)
 have b1:=((k N).1 X).kept.1;have cd:=O I;clear X a5 I;have X:=b2;clear b2;generalize N.heap.size=cz at*;refine aL ?_;refine aT 15 ?_;intro aq M;go_wp2_with (refine aZ F _ _ _ F F F cd eZ iA H (nQ _) ?_);intro al I b8;replace X:C al:=(k al).2 (((k ca).1 X).upd b8 b1 (by first|exact aQ _|omega));go_wp2_with fail;refine M _ _ X ?_;have bd:=O I;clear M aq I b8;refine aL ?_;refine dP ?_;have t:=O ((k al).1 X).base;obtain⟨cb,ce,bj,cj,cp⟩:=fC (T.ext t) (x.ext t) (V.ext t) (bl.ext' t) (co.ext t);clear X aK k bv bR b1 V bl T ba bb x t ao;go_wp2_with (refine dA F 34 _ F F bd eZ H ?_);refine(NR e al bj).mono ?_;rintro cr cH ⟨rfl,f⟩;obtain⟨cc,bc,be,bk,bm,bp⟩:=jW (bd.ext f) (cb.ext f) (ce.ext f) (bj.ext f) (cj.ext' f) (cp.ext f);clear f;have d:Hid (e.num=(S.cnt:Int)/\e.time=D/\e.act=act/\e.dz=dz/\e.key=l/\e.prev=S.last/\e.body=ku (l7 act) b.p/\e.ba=a/\e.body=B):=O (by rw[<-ci.out,cf.out];exact⟨F,F,F,F,F,F,F,F,F⟩);by_cases j:iJ e=0
 ·have cq:=O j;have ap:=O (show e=(if iJ e=0 then e else gB) by rw[aN j]);rw[j];clear j;go_wp2_with (first|(refine dA F 34 _ F F cc eZ H ?_)|(refine aZ F _ _ _ F F F bc eZ iA H (nQ e) ?_));intro b' K m;go_wp2_with fail;refine lI F F K eZ H F ?_;rw[an.out];have aw:=m.ext be a1;have a2:=bm.aeu m (.inl b3);refine⟨aw,.inr ⟨W,e,?_,d.1,d.2.1,d.2.2.1,d.2.2.2.1,d.2.2.2.2.1,d.2.2.2.2.2.1,d.2.2.2.2.2.2.1,?_,?_,by rw[<-ap.out,cq.out];rfl⟩⟩
  ·exact{bk with hcl:=by rw[d.2.2.2.2.2.2.2.1,d.2.2.2.2.2.2.2.2];exact a2.cells}
  ·rw[d.2.2.2.2.2.2.2.1];exact λA i=>dJ b4 (U A i)
  ·rw[d.2.2.2.2.2.2.2.1];exact bp.upd m (λA i=>by have:=U.out A i;omega)
 ·have cF:=om j;have ap:=O (show gB=(if iJ e=0 then e else gB) by rw[aJ j]);have cG:=bg j;generalize b6:iJ e=E at*;have cn:=O b6;clear j b6;go_wp2_with (refine aZ F _ _ _ F F F bc eZ iA (xs:=gB.v) iA (nQ gB) ?_);intro b' K m;go_wp2_with fail;refine lI F F K eZ iA F ?_;rw[an.out];have aw:=m.ext be a1;have a2:=bm.aeu m (.inl b3);refine⟨aw,.inr ⟨W,e,?_,d.1,d.2.1,d.2.2.1,d.2.2.2.1,d.2.2.2.2.1,d.2.2.2.2.2.1,d.2.2.2.2.2.2.1,?_,?_,by rw[cn.out,<-ap.out];rfl⟩⟩
  ·exact{bk with hcl:=by rw[d.2.2.2.2.2.2.2.1,d.2.2.2.2.2.2.2.2];exact a2.cells}
  ·rw[d.2.2.2.2.2.2.2.1];exact λA i=>dJ b4 (U A i)
  ·rw[d.2.2.2.2.2.2.2.1];exact bp.upd m (λA i=>by have:=U.out A i;omega)
def Cg:bq:=[⟨#[97,100,109,105,110]⟩,⟨#[117,115,101,114]⟩]
def Z9(g:Nat):aD:={gQ with member:=tX 0,ra:=some ⟨g,0,none⟩,rn:=2,rc:=2,roles:=Cg}
def Nu:oO 0=0:=bS
def Dz{a:Type}{o:Option a}{g:a->fA×ah}(h:∀q,o=some q->(g q).1.label.size<=255):∀p,o.map g=some p->p.1.label.size<=255:=by simp_all
def amU{l:ah}{p:ByteArray×ah}(h:GA l=some p):p.1.size<=255:=by
 unfold GA at h;cases a:qz l with
 |none=>rw[a]at h;cases h
 |some q=>
  rw[a]at h;have d:q.1<=255:=by
   unfold qz at a;cases c:jA 1 l with
   |none=>rw[c]at a;cases a
   |some u=>
    rw[c]at a;injection a with a;rw[<-a];have:=(u.1.headD 0).toNat_lt;show(u.1.headD 0).toNat<=255;omega
  have b:(jA q.1 q.2).map (λu=>((⟨u.1.toArray⟩:ByteArray),u.2))=some p:=h;cases c:jA q.1 q.2 with
  |none=>rw[c]at b;cases b
  |some u=>
   rw[c]at b;injection b with b;rw[<-b];show u.1.toArray.size<=255;rw[zh,adz c];exact d
def ag0{f:ah->Int}{i:Nat}{x:fA}{l:ah}(a:x.label.size<=255):∀p,oq f i x l=some p->p.1.label.size<=255:=by
 intro p h;unfold oq at h;by_cases c:i=0
 ·rw[aN c]at h;injection h with h;rw[<-h];exact a
 rw[aJ c]at h;by_cases d:i=1
 ·rw[aN d]at h;exact Dz (λ_ _=>a) p h
 rw[aJ d]at h;by_cases g:i=2
 ·rw[aN g]at h;cases b:qz l with
  |none=>rw[b]at h;cases h
  |some q=>rw[b]at h;exact Dz (λ_ _=>a) p h
 rw[aJ g]at h;by_cases j:i=3
 ·rw[aN j]at h;exact Dz (λq t=>amU t) p h
 rw[aJ j]at h;by_cases k:i=4
 ·rw[aN k]at h;exact Dz (λ_ _=>a) p h
 rw[aJ k]at h;by_cases m:i=5
 ·rw[aN m]at h;exact Dz (λ_ _=>a) p h
 rw[aJ m]at h;by_cases n:i=6
 ·rw[aN n]at h;exact Dz (λ_ _=>a) p h
 rw[aJ n]at h;by_cases o:i=7
 ·rw[aN o]at h;exact Dz (λ_ _=>a) p h
 rw[aJ o]at h;by_cases r:i=8
 ·rw[aN r]at h;exact Dz (λ_ _=>a) p h
 rw[aJ r]at h;by_cases s:i=9
 ·rw[aN s]at h;cases b:qz l with
  |none=>rw[b]at h;cases h
  |some q=>rw[b]at h;exact Dz (λ_ _=>a) p h
 rw[aJ s]at h;by_cases e:i=10
 ·rw[aN e]at h;exact Dz (λ_ _=>a) p h
 rw[aJ e]at h;exact Dz (λ_ _=>a) p h
def acO{f:ah->Int}:∀(s:List Nat) (x:fA) (l:ah),x.label.size<=255->∀p,nY f s x l=some p->p.1.label.size<=255
 |[],x,l,hx,p,h=>by injection h with h;rw[<-h];exact hx
 |i::s,x,l,hx,p,h=>by
  rw[nY]at h;cases hf:oq f i x l with
  |none=>rw[hf]at h;cases h
  |some q=>
   rw[hf]at h;exact acO s q.1 q.2 (ag0 hx q hf) p h
def UE(e:aR):(vO e).label.size<=140737488355328:=by
 have a:sV.label.size<=255:=bS;have h:(qM oD e.act e.body).1.label.size<=255:=by
  unfold qM;split
  ·exact a
  split
  ·exact a
  split
  ·exact a
  ·rename_i x rest b;split
   ·exact a
   split
   ·exact acO _ _ _ a _ b
   ·exact a
 unfold vO;omega
def V5(p:Nat)(S:bD)(i act:Int)(dz f:ah)(b:aD)(w:World)(h:eT w p S)(m:b.Ok w)(ha:dz.length=16)(n:f.length=16):
 Calls prog 46 #[.pointer (some ⟨p,0,none⟩),.int .i64 i,.int .i64 act,.agg (dz.map Y).toArray,.agg (f.map Y).toArray,.agg b.v.toArray] w λx w'=>
  ∃(r:aR) (E:Int),x= .returned (.tuple #[.agg r.v.toArray,.int .i64 E])/\r.Ok w'/\(∀A,r.ba=some A->w.heap.size<=A.block)/\vM w' r.ba/\(E=0->iJ r=0)/\aj w w':=by
 refine(ajl p S i act dz f b w h m ha n).mono ?_;rintro x w' ⟨a,⟨g,rfl⟩|⟨g,e,l,o,q,s,t,u,v,y,j,k,rfl⟩⟩
 ·exact⟨gB,_,F,X5 w',λA d=>(by cases d),vM.none _,λh=>absurd h g,a⟩
 ·by_cases c:iJ e=0
  ·rw[aN c];exact⟨e,_,F,l,j,k,λh=>h,a⟩
  ·rw[aJ c];exact⟨gB,_,F,X5 w',λA d=>(by cases d),vM.none _,λh=>absurd h c,a⟩
def afo(p:Nat)(S:bD)(e:aR)(w:World)(h:eT w p S)(c:e.Ok w)(d:iJ e=0):
 Calls prog 52 #[.pointer (some ⟨p,0,none⟩),.agg e.v.toArray] w λx w'=>x= .returned (.tuple #[.agg (S.uR e (S.lab e)).v.toArray,.int .i64 0])/\(S.uR e (S.lab e)).Ok w'/\aj w w':=by
 obtain⟨E,G,H,r,n⟩:=fC c h d (aR.len c) (λb (a:aj w b)=>bD.Nv (h.ext a) (c.ext a) (bD.RF h (UE e)));obtain⟨q,o,y⟩:=aW (show(S.uR e (S.lab e)).v.length=68 from iq.len (n w (aj.refl _))) (λb (a:aj w b)=>NR e b (c.ext a)) (λb (a:aj w b)=>YT p S e b (h.ext a) (c.ext a) d);rw[d]at o;generalize S.uR e (S.lab e)=D at*;clear h c d;go_enter func52,ntmps52;go_upto_region 1 with fail;generalize f:alloc (alloc w _) _=C;obtain⟨g,j,m⟩:=aW (qA f e.v 34) (qQ f IW.v 108) (wN f);clear f;go_wp2_with (refine dA F 34 _ F F g eZ r ?_);refine(o C m).mono ?_;rintro x b ⟨rfl,a⟩;obtain⟨s,t,k⟩:=aW (g.ext a) (j.ext a) (m.ext a);clear a g j;go_wp2_with (refine dA F 34 _ F F s eZ r ?_);refine(y b k).mono ?_;rintro x I ⟨rfl,i⟩;obtain⟨u,v⟩:=aA (t.ext i) (k.ext i);clear i;go_wp2_with (refine aZ F _ _ _ F F F u Ht F q (Qy _) ?_);intro B z A;have l:=O (A.ext v J);go_wp2_with fail;refine lI F F z Ht q F ⟨F,n B l,l⟩
def agl:∀k:Fin 16,Jy.extract k.val (k.val+1)=bN [yK k.val]:=bS
theorem alm(k:Nat)(h:k<16)(w:World):(Instr.sliceAt 9 (.string Jy) (some (.int .u8 (k:Int))) (some (.int .u8 ((k:Int)+1))) none).run prog w= .ok (.string (bN [yK k])) w:=by
 rw[run_sliceAt_string w 9 _ _ _ _ underlying9,run_slice_string w 9 Jy .u8 .u8 (k:Int) ((k:Int)+1) underlying9 J J (by show(k:Int)+1<=16;omega)];have e:((k:Int)+1).toNat=k+1:=J;rw[su,e,agl ⟨k,h⟩]
def ZK{o:Oper}{a:Act}{x y z:Operand}{k:Nat}(b:o.op= .slice 9 x (some y) (some z) none)(c:a.eval x= .string Jy)(d:a.eval y= .int .u8 (k:Int))(e:a.eval z= .int .u8 ((k:Int)+1))(h:k<16)(w:World):
 (execOp a.eval o).run prog w= .ok (.value (.string (bN [yK k]))) w:=by grind [execOp,Sem.run_bind,alm,Result.andThen_ok,Sem.run_pure]
def Gu(l:ah)(a:aO)(n c:Nat)(w:World)(r:l.length=n)(Q:n<=140737488351232)(j:aM w a (l.map Y)):
 eO 142 #[.slice a n c] w (.string (bN (jN l))):=by
 obtain⟨A,e⟩:=aA j r;clear j r;have L:({data:= #[]}:ByteArray)=bN []:=F;go_enter func142,ntmps142;go_wp2;go_loopw [8,3] (λx v wr=>∃k:Nat,k<=n/\x= .int .i64 k/\v= .string (bN (jN (l.take k)))/\aj w wr)
  (λx _ _=>n - (intOf x).toNat)
 ·exact⟨0,J,F,F,aj.refl _⟩
 ·obtain⟨k,P,rfl,rfl,f⟩:=hrel;by_cases o:k<n
  ·obtain⟨b,off,rfl,m⟩:=(A.ext f).jg (by rw[aI,e.out];omega);obtain⟨B,g⟩:∃B,l[k]? =some B:=⟨l[k]'(by rw[e.out];exact o),aB⟩;have N:wr.cell? ⟨b,off+k,none⟩=some (.int .u8 (B.toNat:Int)):=m k _ (by rw[iT,g];rfl);clear m;have hs:=aap l k (by rw[e.out];exact o);rw[g,Ql]at hs;obtain⟨D,i⟩:=aA hs f;clear hs g f;have M:=Kk B;have I:bits .and .u8 (B.toNat:Int) 15=((B.toNat%16:Nat):Int):=by rw[YO];omega
   have h:=O (show Oe B=[yK (B.toNat / 16),yK (B.toNat%16)]from F);have H:(B.toNat:Int) / 16=((B.toNat / 16:Nat):Int):=J;obtain⟨p,s⟩:=aF (B.toNat / 16);obtain⟨q,t⟩:=aF (B.toNat%16);have E:p<16:=by have:=B.toNat_lt;omega
   have G:q<16:=J;rw[s]at H h;rw[t]at I h;clear s t;have d:IntKind.u8.wrap ((p:Int)+1)=(p:Int)+1:=by simp[IntKind.wrap,IntKind.bits,IntKind.signed];omega
   have R:IntKind.u8.wrap ((q:Int)+1)=(q:Int)+1:=by simp[IntKind.wrap,IntKind.bits,IntKind.signed];omega
   have S:IntKind.u8.wrap (p:Int)=(p:Int):=by simp[IntKind.wrap,IntKind.bits,IntKind.signed];omega
   go_wp2_with fail;obtain⟨C,K,aK,bR⟩:=fK (show bM w wr [] [] wr from bM.iP i (dR.none _));refine fF λX=> ?_;refine ay 0 ?_;refine ay 1 ?_;refine ay 2 ?_;refine ay 3 ?_;refine ay 4 ?_;refine ay 5 ?_;refine aV 6 F (aY F (λd _=>ZK (k:=p) F F F F E d)) ?_;refine ay 7 ?_;refine ay 8 ?_;refine ay 9 ?_;refine ay 10 ?_;refine ay 11 ?_;refine aV 12 F (aY F (λd _=>ZK (k:=q) F F F F G d)) ?_;refine aV 13 F (aY F (λd _=>U_ (u:=[yK p]) (v:=[yK q]) F F F aB d)) ?_;refine aV 14 F (aY F (λd _=>U_ (u:=jN (l.take k)) (v:=[yK p]++[yK q]) F F F (by rw[Cw,fP];simp;omega) d)) ?_;refine ay 15 ?_;refine dP ?_;have z:=O i.drew;generalize wr.drew=T at*;go_wp2;go_roundw
   ·exact⟨k+1,J,by go_num,by rw[D.out,h.out],z⟩
   ·exact fV
  ·obtain rfl:k=n:=J;have y:l.take k=l:=gY (by rw[e.out];exact aQ _);rw[y];clear y;go_wp2;go_ret;exact⟨F,f⟩
def akn{rs:List aX}{b:Nat}(h:tZ rs b=0):qN rs b=kY rs/\pY (kY rs)=0/\nZ rs (sQ (kY rs))=true/\(kY rs).length<=65536/\EW (kY rs)=0:=by
 have f:qN rs b=kY rs:=by unfold qN;rw[aN h]
 by_cases c:oV rs b=0
 ·by_cases a:pY (kY rs)=0/\nZ rs (sQ (kY rs))=true
  ·refine⟨f,a.1,a.2,?_⟩;by_cases d:65536<(kY rs).length
   ·have:=(abF d).1;rw[this]at a;exact absurd a.1 bS
   ·refine⟨J,?_⟩;cases e:Cj (rM (kY rs))with
    |some k=>
     have:=(abE d e).1;rw[this]at a;exact absurd a.1 bS
    |none=>exact(abD d e).2
  ·rw[(abY c a).1]at h;exact absurd h bS
 ·rw[(abX c).1]at h;exact absurd h c
end Go.Proofs.YtjlhhnkhcbpnjaaGreatDoor
