/- Laws; no condition. -/
import Derived.Test.YtjlhhnkhcbpnjaaGreatDoorJN12
namespace Go.Proofs.YtjlhhnkhcbpnjaaGreatDoor
open Go Go.RowKit Go.Shelf List Tryz
open Go.Value(agg cells)
open Go.World(alloc drew)
open Go.Builtin(append_)
set_option linter.all false
set_option maxHeartbeats 40000000
set_option maxRecDepth 100000
section
open Go Go.RowKit Go.Shelf Go.Sort
structure xZ where
 k:bP
 ok:k.Ok
instance:Inhabited xZ:=⟨⟨bP.zero,bP.D7⟩⟩
def Cq(x:xZ):aP:=x.k.v
def Jz(x:xZ):(Cq x).length=84:=bP.len x.ok
def U1(x:xZ):∀v∈Cq x,v.oneCell'=true:=Ij x.k
def Ld(x y:xZ):Int:=gZ x.k.key y.k.key
def amN:Sort.SWO (ltOf Ld) where
 irrefl x:=VQ x.k.key
 trans x y z h1 h2:=RL h1 h2
 ntrans x y z h1 h2:=VR h1 h2
def adC{a:Prop}(e:a:=by
 have EA:Hid (mg w wA):=by rw[<-aG];exact O (((mg.refl w).alloc _).alloc _)
 obtain⟨XA,YA⟩:=aA xA yA;clear aG xA yA;go_wp2_with (first|(refine bZ F (cB F F (d_ XA HX) eu vV) ?_)|(refine bZ F (cB F F (d_ YA HY) eu nW) ?_));refine(hc wA).mono ?_;rintro e w' ⟨rfl,e1⟩;have E1:=O (EA.trans e1);clear e1;go_wp2;go_ret;exact⟨F,E1⟩):a:=e
def aiC(x y:xZ)(w:World):Calls prog 140 #[.agg (Cq x).toArray,.agg (Cq y).toArray] w λe w'=>e= .returned (.int .i64 (Ld x y))/\mg w w':=by
 obtain⟨hc,HX,HY,vV,nW⟩:=fC (λw=>Sj x.k.key y.k.key w x.ok.hk y.ok.hk) (bP.Gi x.ok) (bP.Gi y.ok) (show(x.k.key.map Y).length=16 by rw[aI];exact x.ok.hk) (show(y.k.key.map Y).length=16 by rw[aI];exact y.ok.hk);go_enter func140,ntmps140;go_upto_region 1 with(fail);generalize aG:alloc (alloc w _) _=wA;have xA:=qA aG x.k.v 159;have yA:=qQ aG y.k.v 159;exact adC
def agt:∀a w,(callFunc 140 a).run prog w= .ok (.enter 140 a) w:=enters_of func140 aC F
def al9{w:World}{B n:Nat}{v:Value}{ls:List xZ}(c:w.ownsRow B 159 84 v n (je Cq ls))(b:ls.length=n)(a:n<4611686018427387904):
 Calls prog 139 #[v,.func (.func 140) #[] #[]] w λx w'=>x= .returned (.tuple #[])/\∃es,es.Perm ls/\es.Pairwise (λx y=>¬Ld y x<0)/\w'.ownsRow B 159 84 v n (je Cq es)/\w.grownBy w' v.ownBlock:=
 Xt al7 isAgg159 sizeOf159 Jz U1 Ld amN _ aiC agt c b a
def Zn:wO prog 166 159 84 120:=⟨underlying166,⟨_,_,(gJ Oq).choose_spec.1,(gJ Oq).choose_spec.2.1,(gJ Oq).choose_spec.2.2.1,(gJ Oq).choose_spec.2.2.2,F⟩,bS⟩
def WT{b:Type}(a:b->aP)(ls:List b)(x:b):je a (ls++[x])=je a ls++a x:=by grind [je]
def aaf{a b:Type}[DecidableEq a]{hs:List (a×b)}(h:(hs.map Prod.fst).Nodup):∀l:List (a×b),(∀x∈l,x∈hs)->(l.map Prod.fst).filterMap (λq=>dM hs q)=l.map Prod.snd
 |[],_=>rfl
 |x::l,hl=>by
  rw[oM,oM,Nh,H8 h (k:=x.1) (v:=x.2) (hl x aB)];exact lq (x.2:: ·) (aaf h l (λy hy=>hl y (yg _ hy)))
def aaN(p:Nat)(S:bD)(w:World)(h:eT w p S)(bx:S.ks.length<=65536):
 Calls prog 87 #[.pointer (some ⟨p,0,none⟩)] w λx w'=>∃v es,x= .returned v/\w'.ownsRow w.heap.size 159 84 v S.ks.length (je Cq es)/\(es.map xZ.k).Perm (S.ks.map Prod.snd)/\es.Pairwise (λx y=>0<=Ld y x)/\aj w w':=by
 have U:=O h;have be:=h.blk.cell' (bD.yD h.hl h.hf);have u:=O h.ek.nodup;have a7:=O h.kr;obtain⟨bs,C⟩:=mP (λx w'=>∃v es,x= .returned v/\w'.ownsRow w.heap.size 159 84 v S.ks.length (je Cq es)/\(es.map xZ.k).Perm (S.ks.map Prod.snd)/\es.Pairwise (λx y=>0<=Ld y x)/\aj w w':Ending->World->Prop);rw[<-C];have ba:=O C;clear h C;go_enter func87,ntmps87;go_wp2_with (at_range;refine Ku F 143 29 159 underlying143 _ F F U.key ?_);intro bp an ab bm;obtain⟨P,a3⟩:=aA an ab;clear an ab be;obtain⟨a,ap⟩:=aF w.heap.size;have d:=O (show w.heap.size<=a/\a<bp.heap.size by omega);rw[ap]at P⊢;clear ap bm;go_wp2_with fail;go_loopw [3] (λv wr=>∃f es,iV h_ bP.va wr S.gk a S.ks f/\f.Nodup/\es.length+f.length=S.ks.length/\(es.map (λx:xZ=>x.k)++(f.filterMap λq=>dM S.ks q)).Perm (S.ks.map Prod.snd)/\wr.ownsRow (a+1) 159 84 v es.length (je Cq es)/\aj w wr) (λ_ wr=>wr.rangeLeft S.gk a)
 ·refine⟨S.ks.map Prod.fst,[],P,u,aB,?_,⟨F,.inl ⟨F,F⟩⟩,a3⟩;rw[FH,zi,aaf u.out S.ks (λ_ h=>h)]
 ·obtain⟨f,es,H,ai,ae,am,ax,aa⟩:=hrel;obtain⟨Q,a9,t,N,c,i⟩:=jW H ai ae am ax aa;have bl:=H.zy;clear H ai ae am ax aa;go_wp2_with (at_next;refine Kt F (λx y h=>FW h) _ F F Q ?_ ?_)
  ·intro bk;subst bk;have bj:es.length=S.ks.length:=by have:=t.out;simpa using this
   go_wp2_with fail;refine(al9 c F J).mono ?_;rintro bt K ⟨rfl,bh,al,aq,ar,ac⟩;obtain⟨s,A,a_,bc⟩:=bT (i.grown ac (λq b=>by have:=(c.lt q b).1;have:=d.out;omega)) ar al aq;clear ar ac al aq c i;go_wp2
   (try go_ret)
   rw[ba.out];refine⟨_,bh,F,?_,?_,bc,s⟩
   ·rw[<-bj];exact xL A (by have:=d.out;omega)
   ·have:=N.out;simp only[filterMap_nil,xg]at this;exact(a_.map _).trans this
  ·intro x k K bo E G ag ao I af;obtain⟨a8,bb,z,M⟩:=bT (JY a9 G) ao ag (a7 _ E);have j:=O (bP.len M);obtain⟨e,D⟩:=mP (⟨k,M⟩:xZ);obtain⟨a6,a5⟩:=aA (show Cq e=k.v by rw[D];rfl) (show e.k=k by rw[D]);clear D;obtain⟨a',a4,s,A⟩:=bT G (H8 u E) (I.ext i d.1) (CQ c (zJ I) (λg bi=>by have:=(c.lt g bi).1;simp;omega));rw[show bP.va k= .agg k.v.toArray from F]at af⊢;clear E G ao I Q ag c i;go_wp2_with (refine aZ F _ (.tmp 5) _ F F F (au.bK (vs:=bP.zero.v) F F) yx (bP.len bP.D7) j (Ij k) ?_);intro L W az;have l:aj K L:=az.ext ((aj.refl _).alloc _) (aQ _);obtain⟨a0,a1,V,R⟩:=bT W (s.ext l) (iy A l) (bb.ext l);have bz:=R.lt;clear W az l af;generalize K.heap.size=bu at*;have bw:es.length+1<=65536:=by have:=t.out;have:=z.out;omega
   go_wp2_with (first|(refine dA F 159 (.tmp 5) F F a0 yx j ?_)|(refine Mw Zn bS F F F j ?_)|(refine yY Zn F _ _ F (a+1) (m:=1) (news:=k.v) F F (iy V ((aj.refl _).alloc _)) (by rw[j.out]) (aQ _) (by intro h;cases h) (aM.iM (au.bK (vs:=k.v) F F)) (Ij k) J J (by rw[jf];omega) ?_));intro br aE aw B _;have n:aj L (alloc L (.cells k.v.toArray 159)):=(aj.refl _).alloc _;have r:=iy V n;have a2:Hid (aj w aE):=O ((a1.ext n).grown B (λq b=>by have:=(r.lt q b).1;have:=d.out;omega));obtain⟨T,bd⟩:=aA ((R.ext n).grown B (λb=>by have ad:=(r.lt _ b.symm).1;have o:=U.key.lt;have bv:=d.out;omega) (λb=>by have:=(r.lt a b.symm).1;omega)) (show aE.ownsRow (a+1) 159 84 br (es++[e]).length (je Cq (es++[e])) by rw[WT,bQ,a6.out];exact aw);clear aw B n r;go_wp2;go_roundw
   ·refine⟨bo,es++[e],T,a8.2,?_,?_,bd,a2⟩
    ·rw[bQ,Jb];have:=t.out;have:=z.out;omega
    ·have ad:=N.out;refine List.Perm.trans ?_ ad;rw[jv,sw];refine Qc _ ?_;have o:=(a'.filterMap (λq=>dM S.ks q)).symm;rw[Nh,a4.out]at o;rw[<-a5.out]at o;exact o
   ·rw[T.zy,bl,z.out];omega
end
section
open Go Go.RowKit Go.Shelf Go.Sort
structure rZ where
 m:qD
 h:m.id.length=16
instance:Inhabited rZ:=⟨⟨qD.zero,F⟩⟩
def yF(x:rZ):aP:=x.m.v
def NM(x:rZ):(yF x).length=17:=by unfold yF qD.v;simp[x.h]
def U2(x:rZ):∀v∈yF x,v.oneCell'=true:=by
 intro v a;unfold yF qD.v at a;rcases kU.1 a with h|h
 ·exact dw _ v h
 ·rw[nu.1 h];rfl
def Le(x y:rZ):Int:=gZ x.m.id y.m.id
def amO:Sort.SWO (ltOf Le) where
 irrefl x:=VQ x.m.id
 trans x y z h1 h2:=RL h1 h2
 ntrans x y z h1 h2:=VR h1 h2
def YJ:jc prog 228 17:=⟨⟨_,underlying228,F⟩,aC⟩
def qD.VB{m:qD}(h:m.id.length=16):(m.v.drop 0).take 16=m.id.map Y:=by grind [qD.v]
def ajb(x y:rZ)(w:World):Calls prog 197 #[.agg (yF x).toArray,.agg (yF y).toArray] w λe w'=>e= .returned (.int .i64 (Le x y))/\mg w w':=by
 obtain⟨hc,HX,HY,vV,nW⟩:=fC (λw=>Sj x.m.id y.m.id w x.h y.h) (qD.VB x.h) (qD.VB y.h) (show(x.m.id.map Y).length=16 by rw[aI];exact x.h) (show(y.m.id.map Y).length=16 by rw[aI];exact y.h);go_enter func197,ntmps197;go_upto_region 1 with(fail);generalize aG:alloc (alloc w _) _=wA;have xA:=qA aG x.m.v 228;have yA:=qQ aG y.m.v 228;exact adC
def agu:∀a w,(callFunc 197 a).run prog w= .ok (.enter 197 a) w:=enters_of func197 aC F
def amc{w:World}{B n:Nat}{v:Value}{ls:List rZ}(c:w.ownsRow B 228 17 v n (je yF ls))(b:ls.length=n)(a:n<4611686018427387904):
 Calls prog 196 #[v,.func (.func 197) #[] #[]] w λx w'=>x= .returned (.tuple #[])/\∃es,es.Perm ls/\es.Pairwise (λx y=>¬Le y x<0)/\w'.ownsRow B 228 17 v n (je yF es)/\w.grownBy w' v.ownBlock:=
 Xt ama isAgg228 sizeOf228 NM U2 Le amO _ ajb agu c b a
def Zo:wO prog 225 228 17 40:=⟨underlying225,⟨_,_,(gJ Ot).choose_spec.1,(gJ Ot).choose_spec.2.1,(gJ Ot).choose_spec.2.2.1,(gJ Ot).choose_spec.2.2.2,F⟩,bS⟩
def U0:wO prog 98 9 1 16:=⟨underlying98,⟨_,_,(gJ (show(prog.info? 9).map (λi=>(i.zero,i.size,i.bytes))=some (some (.string ⟨#[]⟩),1,16) by kernel_rfl)).choose_spec.1,(gJ (show(prog.info? 9).map (λi=>(i.zero,i.size,i.bytes))=some (some (.string ⟨#[]⟩),1,16) by kernel_rfl)).choose_spec.2.1,(gJ (show(prog.info? 9).map (λi=>(i.zero,i.size,i.bytes))=some (some (.string ⟨#[]⟩),1,16) by kernel_rfl)).choose_spec.2.2.1,(gJ (show(prog.info? 9).map (λi=>(i.zero,i.size,i.bytes))=some (some (.string ⟨#[]⟩),1,16) by kernel_rfl)).choose_spec.2.2.2,F⟩,bS⟩
def afY(xs:aP)(a:aO)(n c:Nat)(w:World)(d:xs.length=n)(E:n<=1000)(B:n<=c)(g:∀v∈xs,v.oneCell'=true)(b:aM w a xs):
 Calls prog 119 #[.slice a n c] w λe w'=>∃v,e= .returned v/\w'.ownsRow w.heap.size 9 1 v n xs/\aj w w':=by
 obtain⟨r,s,q,u⟩:=bT b d g U0;have G:∀(w:World) (a:aO) (n c i f:Nat),(binOp .eql 98 (.slice a n c) (.slice none i f)).run prog w= .ok (.bool a.isNone) w:=λw a n c i f=>Ue w _ _ a n c i f underlying98;cases a with
 |none=>
  have D:xs=[]:=by
   rcases b with h|⟨_,_,h,_⟩
   ·exact h
   ·cases h
  subst D;have z:n=0:=d.symm;subst z;clear d g b;go_enter func119,ntmps119;go_wp2;go_ret;exact⟨_,F,⟨F,.inl ⟨F,F⟩⟩,aj.refl _⟩
 |some A=>
  clear d g b;go_enter func119,ntmps119;go_wp2_with (refine yY (n:=0) (m:=n) (c:=c) (xs:=[]) (news:=xs) u F _ _ F w.heap.size F F (M7 w #[] 0 (aQ _) (w_ _) aB) (by have:=s.out;omega) B (λh=>by cases h) (r.ext ((aj.refl w).alloc _)) q J J (by rw[jf];omega) ?_);intro o p l j C;have x:aj w p:=((aj.refl w).alloc _).grown j (by intro k y;simp[Value.ownBlock]at y;omega);have t:Hid (p.ownsRow w.heap.size 9 1 o n xs):=O (by simpa using l);clear j l C;go_wp2;go_ret;exact⟨o,F,t,x⟩
def rZ.Own(w:World)(B:Nat)(x:rZ):Prop:=w.ownsRow B 9 1 x.m.r.v x.m.r.n (x.m.r.l.map dx)
def rZ.p(x:rZ):ah×bq:=(x.m.id,x.m.r.l)
def Vi{a b c:Type}[DecidableEq a](f:b->c){hs:List (a×b)}(h:(hs.map Prod.fst).Nodup):∀l:List (a×b),(∀x∈l,x∈hs)->(l.map Prod.fst).filterMap (λq=>(dM hs q).map λv=>(q,f v))=l.map λx=>(x.1,f x.2)
 |[],_=>rfl
 |x::l,hl=>by
  rw[oM,oM,Nh,H8 h (k:=x.1) (v:=x.2) (hl x aB)];exact lq ((x.1,f x.2):: ·) (Vi f h l (λy hy=>hl y (yg _ hy)))
def aja(p:Nat)(S:bD)(w:World)(h:eT w p S)(cz:S.ms.length<=65536):
 Calls prog 143 #[.pointer (some ⟨p,0,none⟩)] w λx w'=>∃v es,x= .returned v/\w'.ownsRow w.heap.size 228 17 v S.ms.length (je yF es)/\(es.map rZ.p).Perm S.p.ms/\es.Pairwise (λx y=>0<=Le y x)/\(∀x∈es,x.Own w' w.heap.size/\x.m.r.n<=16/\∀s∈x.m.r.l,s.size<=32)/\aj w w':=by
 have ba:=O h;have ci:=h.blk.cell' (bD.sG h.hl h.hf);have R:=O h.em.nodup;have b2:=O h.em.good;have a4:=O h.mr;obtain⟨cv,al⟩:=mP (λx w'=>∃v es,x= .returned v/\w'.ownsRow w.heap.size 228 17 v S.ms.length (je yF es)/\(es.map rZ.p).Perm S.p.ms/\es.Pairwise (λx y=>0<=Le y x)/\(∀x∈es,x.Own w' w.heap.size/\x.m.r.n<=16/\∀s∈x.m.r.l,s.size<=32)/\aj w w':Ending->World->Prop);rw[<-al];have b':=O al;clear h al;go_enter func143,ntmps143;go_wp2_with (at_range;refine Ku F 142 29 98 underlying142 _ F F ba.mem ?_);intro cs hr bd cp;obtain⟨a8,b1⟩:=aA hr bd;clear hr bd ci;obtain⟨a,br⟩:=aF w.heap.size;have k:=O (show w.heap.size<=a/\a<cs.heap.size by omega);rw[br]at a8⊢;clear br cp;go_wp2_with fail;go_loopw [3] (λv wr=>∃G es,iV h_ j_.v wr S.gm a S.ms G/\G.Nodup/\es.length+G.length=S.ms.length/\(es.map rZ.p++(G.filterMap λq=>(dM S.ms q).map λv=>(q,v.l))).Perm S.p.ms/\wr.ownsRow (a+1) 228 17 v es.length (je yF es)/\(∀x∈es,x.Own wr (a+1)/\x.m.r.n<=16/\∀s∈x.m.r.l,s.size<=32)/\aj w wr) (λ_ wr=>wr.rangeLeft S.gm a)
 ·refine⟨S.ms.map Prod.fst,[],a8,R,aB,?_,⟨F,.inl ⟨F,F⟩⟩,aB,b1⟩;rw[FH,zi,Vi (λv:j_=>v.l) R.out S.ms (λ_ h=>h)];exact List.Perm.refl _
 ·obtain⟨G,es,aw,bl,bh,bo,bv,bm,bc⟩:=hrel;obtain⟨ab,b5,Q,a7,e,n,A⟩:=zT aw bl bh bo bv bm bc;have co:=aw.zy;clear aw bl bh bo bv bm bc;go_wp2_with (at_next;refine Kt F (λx y h=>FW h) _ F F ab ?_ ?_)
  ·intro cm;subst cm;have cl:es.length=S.ms.length:=by have:=Q.out;simpa using this
   go_wp2_with fail;refine(amc e F J).mono ?_;rintro cj u ⟨rfl,be,aq,bs,bt,ai⟩;obtain⟨P,ad,b7,ce⟩:=bT (A.grown ai (λq i=>by have:=(e.lt q i).1;have:=k.out;omega)) bt aq bs;have B:=O (show∀x∈be,x.Own u (a+1)/\x.m.r.n<=16/\∀s∈x.m.r.l,s.size<=32 from λx hx=>by
    have f:=n.out x (aq.mem_iff.1 hx);exact⟨(Da.abx e f.1 bS).keep f.1 ai,f.2⟩)
   clear bt ai aq bs e A n;go_wp2
   (try go_ret)
   rw[b'.out];refine⟨_,be,F,?_,?_,ce,λx hx=>⟨xL (B x hx).1 (by have:=k.out;omega),(B x hx).2⟩,P⟩
   ·rw[<-cl];exact xL ad (by have:=k.out;omega)
   ·have:=a7.out;simp only[filterMap_nil,xg]at this;exact(b7.map _).trans this
  ·intro id r u cr E ar bk bp I bi;obtain⟨b4,cb,U,T⟩:=bT (JY b5 ar) bp bk (show id.length=16 from b2 _ E);obtain⟨a2,a',b8,b3,P,cc,ad,B⟩:=mQ (show(id.map Y).length=16 by rw[aI];exact T) ((a4 _ E)) ar (H8 R E) (I.ext A k.1) (show r.Hi u (p+1)from((a4 _ E).ext A).iL I.iL (.inr (L_ ab))) (CQ e (zJ I) (λg an=>by have:=(e.lt g an).1;simp;omega)) (show∀x∈es,x.Own u (a+1)/\x.m.r.n<=16/\∀s∈x.m.r.l,s.size<=32 from λx hx=>⟨CQ (n x hx).1 (zJ I) (λg an=>by have:=((n x hx).1.lt g an).1;simp;omega),(n x hx).2⟩);rw[show j_.v r= .slice r.a r.n r.c from F]at bi⊢;clear E ar bp I ab bk e A n;go_upto_region 5 with(refine aZ F _ (.tmp 4) _ F F F (au.bK (vs:=replicate 16 (.int .u8 0)) F F) eu aB a2 (dw id) ?_);intro K bb bx;have o:aj u K:=bx.ext ((aj.refl _).alloc _) (aQ _);obtain⟨bz,a0,cf,a5,a9,ca⟩:=jW bb (P.ext o) (iy ad o) (show∀x∈es,x.Own K (a+1)/\x.m.r.n<=16/\∀s∈x.m.r.l,s.size<=32 from λx hx=>⟨iy (B x hx).1 o,(B x hx).2⟩) (cb.ext o) (cc.ext o);have cd:=O a9.lt;clear bb bx o bi;generalize u.heap.size=cw at*;go_upto_region 5 with fail;obtain⟨C,d,aK⟩:=nR K;have bR:C K:=(d _).2 (aj.refl _);have cy:es.length+1<=65536:=by have:=Q.out;have:=U.out;omega
   refine nK (W:=[6]) λX=> ?_;refine dL 0 ?_;refine l8 1 F (gP F 29 _ F F (λaz h=>bz.ext ((d az).1 h)) eu a2) ?_;refine dL 2 ?_;refine i_ 3 ?_;generalize drew K=z at X⊢;have L:=O (ca.ext ((d z).1 X));intro D c;go_wp2_with fail;refine(afY (r.l.map dx) r.a r.n r.c z (by rw[aI];exact L.hl) (by have:=L.n16;omega) L.nc (λv cq=>by obtain⟨s,_,rfl⟩:=pI.1 cq;rfl) L.cell.cells).mono ?_;rintro cj j ⟨v,rfl,ax,b⟩;have am:=aK _ _ X b;obtain⟨af,ag,rfl,cA, -, -⟩:=j3 ax;have cg:=O ax;have ck:w.heap.size<=z.heap.size:=(a0.ext ((d z).1 X)).size;have bj:a+1<=z.heap.size:=by have f:=((d z).1 X).size;have N:=cd.out;omega
   go_wp2_with fail;refine c _ _ am ?_;clear c D X ax b;have X:=am;clear am;refine aL ?_;refine TG 4 F (aY F (λaz _=>agO (x:=id) (sa:=af) (sn:=r.n) (sc:=ag) (l:=r.l) F F F T az)) ?_;obtain⟨mk,ap⟩:=mP (⟨⟨id,⟨af,r.n,ag,r.l⟩⟩,T⟩:rZ);rw[show qD.v ⟨id,⟨af,r.n,ag,r.l⟩⟩=yF mk by rw[ap];rfl];obtain⟨a3,V⟩:=aA (NM mk) ap;clear ap;refine i_ 5 ?_;intro D c;go_wp2_with (refine Mw Zo bS F F F a3 ?_);refine c _ _ (aK _ _ X ((aj.refl j).alloc _)) ?_;clear c D;have b:=(d j).1 X;have bw:=iy cf b;obtain⟨a1,ac,aa,a6,ae⟩:=fC (a0.ext b) (a9.ext b) (show∀x∈es,x.Own j (a+1)/\x.m.r.n<=16/\∀s∈x.m.r.l,s.size<=32 from λx hx=>⟨iy (a5 x hx).1 b,(a5 x hx).2⟩) (xL cg bj) bw;clear b bw X bj ck d aK bR;refine aL ?_;refine lK 6 ?_;intro D c;go_wp2_with (refine yY Zo F _ _ F (a+1) (m:=1) (news:=yF mk) F F (iy ae ((aj.refl _).alloc _)) (by rw[a3.out]) (aQ _) (by intro h;cases h) (aM.iM (au.bK (vs:=yF mk) F F)) (U2 mk) J J (by have:=ac.lt;rw[jf];omega) ?_);intro ct aE bu M _;refine c _ _ trivial ?_;clear c D;refine aL ?_;refine dL 7 ?_;refine n_ ?_;have t:aj j (alloc j (.cells (yF mk).toArray 228)):=(aj.refl _).alloc _;have H:=iy ae t;obtain⟨b0,a_⟩:=aA ((a1.ext t).grown M (λq i=>by have:=(H.lt q i).1;have:=k.out;omega)) ((ac.ext t).grown M (λi=>by have f:=(H.lt _ i.symm).1;have N:=ba.mem.lt;have cx:=k.out;omega) (λi=>by have:=(H.lt a i.symm).1;omega));have ao:∀x:rZ,x.Own j (a+1)->x.Own aE (a+1):=λx hx=>(Da.abx H (iy hx t) bS).keep (iy hx t) M;have b6:=O (show∀x∈es++[mk],x.Own aE (a+1)/\x.m.r.n<=16/\∀s∈x.m.r.l,s.size<=32 from λx hx=>by
    rcases kU.1 hx with hx|hx
    ·exact⟨ao x (aa x hx).1,(aa x hx).2⟩
    ·rw[nu.1 hx];have cn:mk.Own j (a+1):=by rw[V.out];exact a6
     refine⟨ao mk cn,?_⟩;rw[V.out];exact⟨a'.n16,a'.sz⟩)
   obtain⟨ch,b9⟩:=aA (show aE.ownsRow (a+1) 228 17 ct (es++[mk]).length (je yF (es++[mk])) by rw[WT,bQ];exact bu) (show mk.p=(id,r.l) by rw[V.out];rfl);clear bu M t H ao aa ac a1 ae a6;go_wp2;go_roundw
   ·refine⟨cr,es++[mk],a_,b4.2,?_,?_,ch,b6,b0⟩
    ·rw[bQ,Jb];have:=Q.out;have:=U.out;omega
    ·have f:=a7.out;refine List.Perm.trans ?_ f;rw[jv,sw];refine Qc _ ?_;have N:=(b8.filterMap (λq=>(dM S.ms q).map λv=>(q,v.l))).symm;rw[Nh,b3.out]at N;rw[map_singleton,b9.out];exact N
   ·rw[a_.zy,co,U.out];omega
end
section
section
variable {P:Program} {ops:Array Oper} {rest:List Oper} {o:Oper} {a:Act} {w:World} {Q:Exit->Act->World->Prop}
def alz{g off:Nat}{vs:aP}{v:Value}{T ty:TypeId}(d:au w g vs T)(hs:(P.info? ty).map (·.size)=some 1)(e:v.cells= #[v])(h:off<vs.length)(c:v.oneCell'=true):
 (storeVar ty ⟨g,off,none⟩ v).run P w= .ok () (w.setRow g (jm vs off [v]).toArray):=by
 have b:=run_storeCells_at P g off T [v] 0 vs.toArray w d (by simp;omega) (by simpa using c);cases a:P.info? ty with
 |none=>simp[a]at hs
 |some i=>
  have f:i.size=1:=by simpa[a]using hs
  simp only[z8,toList_toArray]at b;simp[storeVar,sizeOf,typeInfo,a,e,f,b,jm]
def amm{vs:aP}{off:Nat}{v:Value}(h:off<vs.length):jm vs off [v]=vs.set off v:=by
 unfold jm;rw[set_eq_take_append_cons_drop,aN h];simp
def rR(i:o.guard=none)(ty:TypeId)(x y:Operand)(j:o.op= .store ty x y){g off:Nat}{vs:aP}{v:Value}{T:TypeId}
 (k:a.eval x= .pointer (some ⟨g,off,none⟩))(l:a.eval y=v)(b:au w g vs T)(hs:(P.info? ty).map (·.size)=some 1)(f:v.cells= #[v])(c:off<vs.length)(d:v.oneCell'=true)
 (h:∀w',au w' g (vs.set off v) T->dF w g w'->wpList P ops Q rest (a.put o.dst undef) w'):wpList P ops Q (o::rest) a w:=
 q8 i λm e=>by
  unfold Oper.wp execOp;simp only[j,k,l,Instr.storeAt,Instr.sureAddr,iC,ni,ng,alz b hs f c d];refine e _ _ (h _ ?_ (dF.setRow _));rw[<-amm c];exact b.setRow _
end
def DV:(prog.info? 3).map (·.size)=some 1:=aC
def S9:(prog.info? 98).map (·.size)=some 1:=aC
def ada:(prog.info? 99).map (·.size)=some 1:=aC
structure l9 where
 wait:Int
 act:Int
 dz:Int
 key:Int
 n:Int
 m:Int
def l9.v(a:l9):aP:=[.int .i64 a.wait,.int .i64 a.act,.int .i64 a.dz,.int .i64 a.key,.int .i64 a.n,.int .i64 a.m]
def K3:jc prog 103 6:=⟨⟨_,underlying103,F⟩,aC⟩
def Yz(a:l9):∀v∈a.v,v.oneCell'=true:=by
 intro v b;unfold l9.v at b;simp only[gM,lN,lQ]at b;rcases b with rfl|rfl|rfl|rfl|rfl|rfl<;>rfl
structure gT(w0:World)(g3 g4 g5 g6:Nat)(a:l9)(k:bP)(hb:aO)(hn hc:Nat)(hs:List (ah))(w:World):Prop where
 ex:aj w0 w
 b3:au w g3 a.v 103
 b4:au w g4 gQ.v 101
 n4:g4<g5
 g04:w0.heap.size<=g4
 b6:au w g6 k.v 159
 ok:k.Ok
 hl:hs.length=hn
 hnc:hn<=hc
 h3:hn<=3
 h16:yZ hs
 hcell:dh w (g5+1) hb (dH hs)
 ge:w0.heap.size<=g5
 bo:∃b:aD,b.Fit/\dh w (g5+1) b.ra (b.roles.map dx)/\dh w (g5+1) b.ha (dH b.dG)/\au w g5 b.v 101
section
variable {w0 w w':World} {g3 g4 g5 g6:Nat} {a:l9} {k:bP} {hb:aO} {hn hc:Nat} {hs:List (ah)}
def gT.ext(h:gT w0 g3 g4 g5 g6 a k hb hn hc hs w)(e:aj w w'):gT w0 g3 g4 g5 g6 a k hb hn hc hs w':=by
 obtain⟨b,c,d,f,g⟩:=h.bo;exact{h with ex:=h.ex.ext e,b3:=h.b3.ext e,b4:=h.b4.ext e,b6:=h.b6.ext e,hcell:=h.hcell.ext e,bo:=⟨b,c,d.ext e,f.ext e,g.ext e⟩}
def gT.ne3(h:gT w0 g3 g4 g5 g6 a k hb hn hc hs w):g3≠g5:=by
 intro e;subst e;obtain⟨b,_,_,_,d⟩:=h.bo;have c:=h.b3;unfold au at d c;rw[d]at c;injection c with c;injection c with _ c _;exact absurd c bS
def gT.ne6(h:gT w0 g3 g4 g5 g6 a k hb hn hc hs w):g6≠g5:=by
 intro e;subst e;obtain⟨b,_,_,_,d⟩:=h.bo;have c:=h.b6;unfold au at d c;rw[d]at c;injection c with c;injection c with _ c _;exact absurd c bS
def gT.store(h:gT w0 g3 g4 g5 g6 a k hb hn hc hs w)(u:dF w g5 w'){b:aD}(d:b.Fit)(f:dh w (g5+1) b.ra (b.roles.map dx))(e:dh w (g5+1) b.ha (dH b.dG))(c:au w' g5 b.v 101):gT w0 g3 g4 g5 g6 a k hb hn hc hs w':=
 {h with ex:=u.ext h.ex h.ge,b3:=h.b3.upd u h.ne3,b4:=h.b4.upd u (Nat.ne_of_lt h.n4),b6:=h.b6.upd u h.ne6,hcell:=h.hcell.upd u (KM _),bo:=⟨b,d,f.upd u (KM _),e.upd u (KM _),c⟩}
variable {bb:aD}
def gT.Pt(h:gT w0 g3 g4 g5 g6 a k hb hn hc hs w)(u:dF w g5 w')(c:bb.Fit)(f:dh w (g5+1) bb.ra (bb.roles.map dx))(e:dh w (g5+1) bb.ha (dH bb.dG)){n:Int}(d:au w' g5 (bb.v.set 51 (.int .i64 n)) 101):gT w0 g3 g4 g5 g6 a k hb hn hc hs w':=by
 rw[aD.Pj bb _ c.hm c.hcm]at d;exact h.store u (b:={bb with epoch:=n}) {c with} f e d
def gT.amw(h:gT w0 g3 g4 g5 g6 a k hb hn hc hs w)(u:dF w g5 w')(c:bb.Fit)(f:dh w (g5+1) bb.ra (bb.roles.map dx))(e:dh w (g5+1) bb.ha (dH bb.dG)){n:Int}(d:au w' g5 (bb.v.set 52 (.int .i64 n)) 101):gT w0 g3 g4 g5 g6 a k hb hn hc hs w':=by
 rw[aD.Xe bb _ c.hm c.hcm]at d;exact h.store u (b:={bb with purpose:=n}) {c with} f e d
def gT.amx(h:gT w0 g3 g4 g5 g6 a k hb hn hc hs w)(u:dF w g5 w')(c:bb.Fit)(f:dh w (g5+1) bb.ra (bb.roles.map dx))(e:dh w (g5+1) bb.ha (dH bb.dG)){n:Int}(d:au w' g5 (bb.v.set 53 (.int .i64 n)) 101):gT w0 g3 g4 g5 g6 a k hb hn hc hs w':=by
 rw[aD.Xf bb _ c.hm c.hcm]at d;exact h.store u (b:={bb with reason:=n}) {c with} f e d
def gT.amy(h:gT w0 g3 g4 g5 g6 a k hb hn hc hs w)(u:dF w g5 w')(c:bb.Fit)(f:dh w (g5+1) bb.ra (bb.roles.map dx))(e:dh w (g5+1) bb.ha (dH bb.dG)){n:Int}(d:au w' g5 (bb.v.set 54 (.int .i64 n)) 101):gT w0 g3 g4 g5 g6 a k hb hn hc hs w':=by
 rw[aD.Xg bb _ c.hm c.hcm]at d;exact h.store u (b:={bb with need:=n}) {c with} f e d
def gT.ado(h:gT w0 g3 g4 g5 g6 a k hb hn hc hs w)(u:dF w g5 w')(c:bb.Fit)(f:dh w (g5+1) bb.ra (bb.roles.map dx))(e:dh w (g5+1) bb.ha (dH bb.dG)){n:Int}(d:au w' g5 (bb.v.set 55 (.int .i64 n)) 101):gT w0 g3 g4 g5 g6 a k hb hn hc hs w':=by
 rw[aD.Xh bb _ c.hm c.hcm]at d;exact h.store u (b:={bb with version:=n}) {c with} f e d
def gT.amA(h:gT w0 g3 g4 g5 g6 a k hb hn hc hs w)(u:dF w g5 w')(c:bb.Fit)(f:dh w (g5+1) bb.ra (bb.roles.map dx))(e:dh w (g5+1) bb.ha (dH bb.dG)){n:Int}(d:au w' g5 (bb.v.set 56 (.int .i64 n)) 101):gT w0 g3 g4 g5 g6 a k hb hn hc hs w':=by
 rw[aD.Xi bb _ c.hm c.hcm]at d;exact h.store u (b:={bb with count:=n}) {c with} f e d
def gT.st0(h:gT w0 g3 g4 g5 g6 a k hb hn hc hs w)(u:dF w g5 w')(d:bb.Fit)(f:dh w (g5+1) bb.ra (bb.roles.map dx))(e:dh w (g5+1) bb.ha (dH bb.dG)){s:ByteArray}(c:au w' g5 (bb.v.set 0 (.string s)) 101)(g:s.size<=140737488355328):gT w0 g3 g4 g5 g6 a k hb hn hc hs w':=
 h.store u (b:={bb with text:=s}) {d with ts:=g} f e c
def gT.Xx(h:gT w0 g3 g4 g5 g6 a k hb hn hc hs w)(u:dF w g5 w')(d:bb.Fit)(f:dh w (g5+1) bb.ra (bb.roles.map dx))(e:dh w (g5+1) bb.ha (dH bb.dG)){s:ByteArray}(c:au w' g5 (bb.v.set 18 (.string s)) 101)(g:s.size<=140737488355328):gT w0 g3 g4 g5 g6 a k hb hn hc hs w':=by
 rw[aD.Ph bb _ d.hm]at c;exact h.store u (b:={bb with label:=s}) {d with ls:=g} f e c
def gT.adp(h:gT w0 g3 g4 g5 g6 a k hb hn hc hs w)(u:dF w g5 w')(c:bb.Fit)(e:dh w (g5+1) bb.ra (bb.roles.map dx))(d:au w' g5 (bb.v.set 57 (.slice hb hn hc)) 101):gT w0 g3 g4 g5 g6 a k hb hn hc hs w':=by
 rw[aD.Xj bb _ _ _ hs c.hm c.hcm]at d;exact h.store u (b:={bb with ha:=hb,hn:=hn,hc:=hc,dG:=hs}) {c with hl:=h.hl,hnc:=h.hnc,Ey:=(show hn<=256 from dJ h.h3 J),h16:=h.h16} e h.hcell d
def gT.Td(h:gT w0 g3 g4 g5 g6 a k hb hn hc hs w)(u:dF w g5 w')(d:bb.Fit)(l:dh w (g5+1) bb.ha (dH bb.dG)){ra:aO}{rn rc:Nat}(rs:bq)(c:au w' g5 (bb.v.set 17 (.slice ra rn rc)) 101)(e:rs.length=rn)(f:rn<=rc)(g:rn<=256)(i:∀s∈rs,s.size<=140737488355328)(j:dh w (g5+1) ra (rs.map dx)):gT w0 g3 g4 g5 g6 a k hb hn hc hs w':=by
 rw[aD.Pg bb _ _ _ rs d.hm]at c;exact h.store u (b:={bb with ra:=ra,rn:=rn,rc:=rc,roles:=rs}) {d with rl:=e,Ap:=f,rm:=g,rs:=i} j l c
def gT.Gz(h:gT w0 g3 g4 g5 g6 a k hb hn hc hs w)(u:dF w g5 w')(c:bb.Fit)(g:dh w (g5+1) bb.ra (bb.roles.map dx))(f:dh w (g5+1) bb.ha (dH bb.dG)){x:ah}(d:au w' g5 (jm bb.v 19 (x.map Y)) 101)(e:x.length=32):gT w0 g3 g4 g5 g6 a k hb hn hc hs w':=by
 rw[aD.R_ bb _ c.hm c.hcm e]at d;exact h.store u (b:={bb with commit:=x}) {c with hcm:=e} g f d
def gT.st1(h:gT w0 g3 g4 g5 g6 a k hb hn hc hs w)(u:dF w g5 w')(d:bb.Fit)(g:dh w (g5+1) bb.ra (bb.roles.map dx))(f:dh w (g5+1) bb.ha (dH bb.dG)){x:ah}(c:au w' g5 (jm bb.v 1 (x.map Y)) 101)(e:x.length=16):gT w0 g3 g4 g5 g6 a k hb hn hc hs w':=by
 rw[aD.WA bb _ d.hm e]at c;exact h.store u (b:={bb with member:=x}) {d with hm:=e} g f c
end
def OX:bq:=[⟨#[97,108,108,111,119,10]⟩,⟨#[97,108,108,111,119,32,114,111,108,101,32,97,100,109,105,110,10,97,108,108,111,119,32,114,111,108,101,32,117,115,101,114,32,97,99,116,32,117,115,101,32,97,112,112,114,111,118,101,32,111,110,32,97,112,112,42,10]⟩,⟨#[97,108,108,111,119,32,114,111,108,101,32,97,100,109,105,110,32,110,101,101,100,32,49,32,117,115,101,114,10,97,108,108,111,119,32,114,111,108,101,32,117,115,101,114,32,97,99,116,32,117,115,101,10,100,101,110,121,32,97,99,116,32,114,101,118,111,107,101,32,97,116,32,48,45,54,10]⟩,⟨#[97,108,108,111,119,32,114,111,108,101,32,97,100,109,105,110,32,97,99,116,32,112,111,108,105,99,121,32,101,110,114,111,108,108,32,100,105,115,109,105,115,115,32,99,114,101,97,116,101,32,110,101,101,100,32,50,32,117,115,101,114,10,97,108,108,111,119,32,97,99,116,32,114,111,116,97,116,101,32,117,115,101,32,101,115,99,114,111,119,32,114,101,99,111,118,101,114,32,98,97,99,107,117,112,32,111,110,32,97,112,112,42,32,100,98,10,100,101,110,121,32,114,111,108,101,32,117,115,101,114,32,97,99,116,32,114,101,118,111,107,101,10]⟩,⟨#[100,101,110,121,32,97,99,116,32,97,112,112,114,111,118,101,32,114,111,108,101,32,117,115,101,114,10,97,108,108,111,119,32,114,111,108,101,32,97,100,109,105,110,10]⟩,⟨#[97,108,108,111,119,32,97,99,116,32,101,110,114,111,108,108,32,112,111,108,105,99,121,32,99,114,101,97,116,101,32,117,115,101,32,114,111,116,97,116,101,10,97,108,108,111,119,32,97,99,116,32,100,105,115,109,105,115,115,32,114,101,118,111,107,101,32,114,101,115,116,111,114,101,32,110,101,101,100,32,49,32,97,100,109,105,110,10]⟩]
def akd:∀s∈OX,s.size<=1000:=by decide+kernel
def akg(w:World):Calls prog 88 #[] w λx w'=>x= .returned (.slice (some ⟨w.heap.size,0,none⟩) 6 6)/\aM w' (some ⟨w.heap.size,0,none⟩) (OX.map dx)/\aj w w':=by
 go_enter func88,ntmps88;go_wp2;go_ret;exact⟨F,aM.iM (au.bK (vs:=OX.map dx) F F),(aj.refl w).alloc _⟩
def ahd(x y z:ah)(d:x.length=16)(e:y.length=16)(f:z.length=16)(a:Array Value)(c:a.size=48):Instr.fill (λi=>some (i*16,16)) a [(0,.agg (x.map Y).toArray),(1,.agg (y.map Y).toArray),(2,.agg (z.map Y).toArray)]=some (dH [x,y,z]).toArray:=by
 have h:=Great.fill_whole (s:=16) J [.agg (x.map Y).toArray,.agg (y.map Y).toArray,.agg (z.map Y).toArray] a (by intro v b;simp only[gM,lN,lQ]at b;rcases b with rfl|rfl|rfl<;>simp[cells,d,e,f]) (by simp[c]);simpa[cells,dH]using h
def an7{ops:Array Oper}{rest:List Oper}{o:Oper}{a:Act}{w:World}{d:Exit->Act->World->Prop}(i:o.guard=none){p q r:Operand}{x y z:ah}(k:o.op= .buildSlice 99 3 #[(0,p),(1,q),(2,r)])(l:a.eval p= .agg (x.map Y).toArray)(m:a.eval q= .agg (y.map Y).toArray)(b:a.eval r= .agg (z.map Y).toArray)(n:x.length=16)(s:y.length=16)(t:z.length=16)
 (h:wpList prog ops d rest (a.put o.dst (.slice (some ⟨w.heap.size,0,none⟩) 3 3)) (w.alloc (.cells (dH [x,y,z]).toArray 29))):wpList prog ops d (o::rest) a w:=by
 obtain⟨v,j,u,c,B⟩:=gJ VD;refine q8 i λA f=> ?_;have b:(execOp a.eval o).run prog w= .ok (.value (.slice (some ⟨w.heap.size,0,none⟩) 3 3)) (w.alloc (.cells (dH [x,y,z]).toArray 29)):=by
  have h:=run_buildSlice (P:=prog) w 99 29 3 #[(0,.agg (x.map Y).toArray),(1,.agg (y.map Y).toArray),(2,.agg (z.map Y).toArray)] (dH [x,y,z]).toArray v _ underlying99 j u (by rw[c];omega) (by rw[c];omega) (by rw[c];exact ahd x y z n s t _ aB);have g:(#[(0,p),(1,q),(2,r)].map λ(p:Nat×Operand)=>(p.1,a.eval p.2))= #[(0,.agg (x.map Y).toArray),(1,.agg (y.map Y).toArray),(2,.agg (z.map Y).toArray)]:=by simp[l,m,b]
  unfold execOp;simp only[k,iC];have e:(Instr.buildSlice 99 3 (#[(0,p),(1,q),(2,r)].map λ(p:Nat×Operand)=>(p.1,a.eval p.2))).run prog w= .ok (.slice (some ⟨w.heap.size,0,none⟩) 3 3) (w.alloc (.cells (dH [x,y,z]).toArray 29)):=by rw[g];exact h
  rw[e];rfl
 unfold Oper.wp;rw[b,Cb];exact f _ _ h
def dh.front{w:World}{B:Nat}{a:aO}{xs ys:aP}(h:dh w B a (xs++ys)):dh w B a xs:=by
 rcases h with h|⟨b,off,ha,d,h⟩
 ·exact .inl (append_eq_nil_iff.1 h).1
 ·exact .inr ⟨b,off,ha,d,λi u c=>h i u (by rw[zY (iK.1 c).1];exact c)⟩
def akY(a b:List (ah)):dH (a++b)=dH a++dH b:=by grind [dH]
def dh.Sv{w:World}{B:Nat}{a:aO}{l:List (ah)}(n:Nat)(h:dh w B a (dH l)):dh w B a (dH (l.take n)):=by
 rw[<-AX n l,akY]at h;exact h.front
def Ru{w:World}{B g:Nat}{xs:aP}{T:TypeId}(h:au w g xs T)(a:B<=g):dh w B (some ⟨g,0,none⟩) xs:=
 .inr ⟨g,0,F,a,λi u b=>by rw[kD];exact h.cell' b⟩
end
noncomputable def X0(es:List lX):ah:=es.flatMap λe=>xu e.r
noncomputable def aiM(es:List lX):List (ah):=es.map λe=>eY 1 (xu e.r)
noncomputable def Zu:List lX->Nat->List Int
 |[],_=>[]
 |e::es,b=>((b+(xu e.r).length:Nat):Int)::Zu es (b+(xu e.r).length)
noncomputable def amV(es:List lX):Int:=match es.getLast? with|none=>0 |some e=>e.time
def aiO(vo b:Value)(T:Int)(a:ah)(c:Value):aP:=vo::b:: .int .i64 T::(a.map Y++[c])
structure TY(w:World)(B g:Nat)(es:List lX):Prop where
 ex:∃vo ve vl,au w g (aiO vo ve (amV es) (aaP es) vl) 117/\w.ownsRow B 5 1 vo (X0 es).length ((X0 es).map Y)/\w.ownsRow B 3 1 ve es.length ((Zu es 0).map qH)/\w.ownsRow B 31 32 vl es.length (dH (aiM es))
 le:B<=w.heap.size
 n:es.length<=65536
 sz:(X0 es).length<=32889*es.length
def TY.ext{w w':World}{B g:Nat}{es:List lX}(h:TY w B g es)(e:aj w w'):TY w' B g es:=by
 obtain⟨vo,f,i,a,b,c,d⟩:=h.ex;exact⟨⟨vo,f,i,a.ext e,iy b e,iy c e,iy d e⟩,dJ h.le e.size,h.n,h.sz⟩
def sS(i n:Int)(v:Value):aP:=[.int .i64 i,.int .i64 n,v]
def yB:jc prog 61 3:=⟨⟨_,underlying61,F⟩,aC⟩
def abS(i n:Int)(a:aO)(m c:Nat):∀v∈sS i n (.slice a m c),v.oneCell'=true:=by
 intro v b;simp only[sS,gM,lN,lQ]at b;rcases b with rfl|rfl|rfl<;>rfl
section
structure dO where
 n:Int
 t:Int
 l:ah
 r:ah
def dO.v(h:dO):aP:=iX h.n h.t h.l h.r
structure dO.Ok(h:dO):Prop where
 l:h.l.length=32
 r:h.r.length=32
def dO.len{h:dO}(k:h.Ok):h.v.length=66:=Ih _ _ k.l k.r
def Em(a b:dO)(I c:Int)(ls:List (ah)):Int:=
 if mV a.n a.t≠0 then mV a.n a.t else if mV b.n b.t≠0 then mV b.n b.t
 else if b.n<a.n then 9 else if b.t<a.t then 16
 else if a.n=0 then(if I=0/\c=0/\ls.length=0 then 0 else 12)
 else if I≠a.n∨c≠b.n then 12 else Ia a.r b.r I c ls
def CK(k:ah)(hs:List dO)(h:dO)(s:ah)(I b:Int)(ls:List (ah)):Int:=
 if Bf k h.n h.t h.l h.r s≠0 then Bf k h.n h.t h.l h.r s
 else match hs.getLast? with
  |none=>if I=0/\b=0/\ls.length=0 then 0 else 12
  |some a=>Em a h I b ls
section
variable {P:Program}
def alp{T e:TypeId}{n z:Nat}{cs:Array Value}(j:P.underlying T=some (.array n e))(f:jc P e z)(i:Nat)(g:i<n)(o:0<z)(w:World):
 (Instr.index T (.agg cs) (.int .i64 (i:Int))).run P w= .ok (.agg (cs.extract (i*z) (i*z+z))) w:=by
 obtain⟨⟨d,c,m⟩,hs⟩:=f;cases a:P.info? e with
 |none=>simp[a]at hs
 |some k=>
  have h:k.size=z:=by simpa[a]using hs
  have b:(isAgg e).run P w= .ok true w:=by
   unfold isAgg;rw[iC,jB c w];cases d<;>simp_all
  have l:(0:Int)<=i/\(i:Int)<n:=J;simp[Instr.index,asIntOf,jB j,part,sizeOf,typeInfo,a,h,b,g]
end
def air(I e:Int)(a:aO)(m c:Nat)(w:World):
 eO 112 #[.agg (sS I e (.slice a m c)).toArray] w (.bool (decide (I=0/\e=0/\m=0))):=by
 obtain⟨b,d⟩:=aF (decide (I=0/\e=0/\m=0));rw[d];go_enter func112,ntmps112;go_upto_region 1 with fail;generalize l:alloc w _=u;have g:=dX l (sS I e (.slice a m c)) 61;have f:=dS l;clear l;have n:=g.cell' (i:=0) (v:= .int .i64 I) F;have o:=g.cell' (i:=1) (v:= .int .i64 e) F;have p:=g.cell' (i:=2) (v:= .slice a m c) F;by_cases h:I=0
 ·subst h;by_cases j:e=0
  ·subst j;by_cases k:m=0
   ·subst k;obtain rfl:b=true:=by rw[<-d];simp
    clear d;go_wp2
    (try go_ret)
    exact⟨F,f⟩
   ·obtain rfl:b=false:=by rw[<-d];simp[k]
    have s:((m:Int)==0)=false:=by simp;omega
    have t:(m==0)=false:=by simp[k]
    clear d;go_wp2
    (try go_ret)
    exact⟨F,f⟩
  ·obtain rfl:b=false:=by rw[<-d];simp[j]
   have r:(e==0)=false:=by simp[j]
   clear d;go_wp2
   (try go_ret)
   exact⟨F,f⟩
 ·obtain rfl:b=false:=by rw[<-d];simp[h]
  have q:(I==0)=false:=by simp[h]
  clear d;go_wp2
  (try go_ret)
  exact⟨F,f⟩
end
section
def aik:(prog.info? 187).map (λi=>(i.zero.map λz=>z.cells.size,i.size))=some (some 132,132):=aC
def aij:(prog.info? 46).map (λi=>i.size)=some 66:=aC
def afQ{x y:aP}(g:x.length=66)(k:y.length=66):prog.built 187 [(0,.agg x.toArray),(1,.agg y.toArray)]=some (x++y).toArray:=by
 have a:=aik;have b:=aij;cases c:prog.info? 187 with
 |none=>rw[c]at a;simp at a
 |some i=>
  rw[c]at a;simp only[jr,wY,Prod.mk.injEq]at a;cases e:i.zero with
  |none=>rw[e]at a;simp at a
  |some z=>
   rw[e]at a;simp only[jr,wY]at a;cases d:prog.info? 46 with
   |none=>rw[d]at b;simp at b
   |some j=>
    rw[d]at b;simp only[jr,wY]at b;unfold Program.built;rw[c,underlying187];simp only[e,d,b];have h:=Great.fill_whole (s:=66) J [.agg x.toArray,.agg y.toArray] z.cells (by intro v f;simp only[gM,lN,lQ]at f;rcases f with rfl|rfl<;>simp[cells,g,k]) (by simp[a.1]);simpa[cells]using h
def anr{a b:dO}(ha:a.Ok)(d:b.Ok)(j:Nat)(g:j<2):(a.v++b.v).toArray.extract (j*66) (j*66+66)=(if j=0 then a else b).v.toArray:=by
 have c:=dO.len ha;have f:=dO.len d;have e:∀k,(a.v++b.v).toArray.extract k (k+66)=(((a.v++b.v).drop k).take 66).toArray:=λk=>by simp[List.extract]
 rw[e];rcases(by omega:j=0∨j=1)with rfl|rfl
 ·rw[Hg,jP,oo c];rfl
 ·rw[BS,q_ c,gY J];rfl
section
variable {o:Oper} {a:Act}
def agT{x y:Operand}{xs ys:aP}(d:o.op= .build 187 #[(0,x),(1,y)])(e:a.eval x= .agg xs.toArray)(g:a.eval y= .agg ys.toArray)(f:xs.length=66)(i:ys.length=66)(w:World):
 (execOp a.eval o).run prog w= .ok (.value (.agg (xs++ys).toArray)) w:=by
 have h:=B_ (P:=prog) w 187 #[(0,.agg xs.toArray),(1,.agg ys.toArray)] _ (afQ f i);have c:(#[(0,x),(1,y)].map λ(p:Nat×Operand)=>(p.1,a.eval p.2))= #[(0,.agg xs.toArray),(1,.agg ys.toArray)]:=by simp[e,g]
 unfold execOp;simp only[d,iC];have b:(Instr.build 187 (#[(0,x),(1,y)].map λ(p:Nat×Operand)=>(p.1,a.eval p.2))).run prog w= .ok (.agg (xs++ys).toArray) w:=by rw[c];exact h
 rw[b];rfl
def agU{x i:Operand}{A B h:dO}{j:Nat}(k:o.op= .index 187 x i)(l:a.eval x= .agg (A.v++B.v).toArray)(g:a.eval i= .int .i64 (j:Int))(d:A.Ok)(e:B.Ok)(c:j<2)(f:(if j=0 then A else B)=h)(w:World):
 (execOp a.eval o).run prog w= .ok (.value (.agg h.v.toArray)) w:=by
 have b:=alp (P:=prog) (cs:=(A.v++B.v).toArray) underlying187 iW j c J w;rw[anr d e j c,f]at b;unfold execOp;simp only[k,l,g,iC];rw[b];rfl
end
def Rq{h:dO}(k:h.Ok):(h.v.drop 34).take 32=h.r.map Y:=Rp h.n h.t k.l k.r
def Y7{d:Prop}(e:d:=by
 obtain⟨E,hE⟩:=aF (Em a b I Z ls);rw[hE];obtain⟨HE,HA,HB,mq,rV,oJ,HM,gX⟩:=mQ hE ha hb (dO.len ha) (dO.len hb) cu hm hcl;clear ha hb cu hm hcl hE;first
  |go_enter func73,ntmps73
   have qL:=trivial;have uw:=O (λ(h:dO) (k:h.Ok) w'=>abT h.n h.t h.l h.r w' k.l k.r)
  |go_enter func74,ntmps74
   have uw:=O (λ(h:dO) (k:h.Ok) w'=>WX h.n h.t h.l h.r w' k.l k.r)
 go_upto_region 1 with fail;generalize ig:alloc w _=w1;have b1:=dX ig a.v 46;have e1:=dS ig;generalize kI:alloc w1 _=w2;have b2:=dX kI b.v 46;have e2:=dS kI;generalize ji:alloc w2 _=w3;have e3:=dS ji;obtain⟨B1,B2,B3,E3⟩:=bT (b1.ext (e2.ext e3)) (b2.ext e3) (dX ji (sS I Z (.slice pa m c)) 61) (e1.ext (e2.ext e3));have s1:w1.heap.size=w.heap.size+1:=by rw[<-ig];exact jf _ _
 have s2:w2.heap.size=w.heap.size+1+1:=by rw[<-s1,<-kI];exact jf _ _
 rw[s1]at B2;rw[s2]at B3;clear ig kI ji b1 b2 e1 e2 e3 s1 s2;generalize w.heap.size=gA at*;first
  |go_wp2_with (first|(refine dA F 46 (.tmp 3) F F B1 iW mq ?_)|(refine dA F 46 (.tmp 4) F F B2 iW rV ?_)|(refine bZ F (agT F F F mq rV _) ?_))
   go_loopw [14] (λk wr=>∃j:Nat,j<=2/\k= .int .i64 (j:Int)/\(1<=j->mV a.n a.t=0)/\(2<=j->mV b.n b.t=0)/\aj w3 wr) (λk _=>2 - (intOf k).toNat)
  |go_wp2_with (first|(refine dA F 46 (.tmp 3) F F B1 iW mq ?_)|(refine dA F 46 (.tmp 4) F F B2 iW rV ?_)|(refine an8 F F F F mq rV ?_))
   generalize xG:alloc w3 _=w4;have Eo:=dS xG;obtain⟨B4,B1,B2,B3,E3⟩:=fC (dX xG (a.v++b.v) 46) (B1.ext Eo) (B2.ext Eo) (B3.ext Eo) (E3.ext Eo);clear xG Eo;generalize w3.heap.size=g4 at*;go_wp2_with fail;go_loopw [15] (λk wr=>∃j:Nat,j<=2/\k= .int .i64 (j:Int)/\(1<=j->mV a.n a.t=0)/\(2<=j->mV b.n b.t=0)/\aj w4 wr) (λk _=>2 - (intOf k).toNat)
 ·exact⟨0,J,F,λh=>by omega,λh=>by omega,aj.refl _⟩
 obtain⟨j,hj,rfl,hja,hjb,e4⟩:=hrel;obtain⟨TR,HJB,E4⟩:=aW hja hjb e4;clear hja hjb e4;by_cases aS:j<2
 case pos=>
  have d1:=cO ((j:Int)<2);obtain⟨h,hh⟩:=aF ((if j=0 then a else b));obtain⟨HH,HO⟩:=aA hh (show h.Ok by rw[<-hh];split;exact HA;exact HB);obtain⟨HL,nN⟩:=aA (dO.len HO) (F9 h.n h.t h.l h.r);have Vm:mV h.n h.t≠0->E=mV h.n h.t:=λbW=>by
   rw[<-HE.out];unfold Em;rcases(by omega:j=0∨j=1)with Gb|Gb
   ·rw[aN Gb]at hh;subst hh;rw[aN bW]
   ·rw[aJ J]at hh;subst hh;rw[aJ (by rw[TR.out J];simp),aN bW]
  first
   |have:=qL
    have BO:=O Vm
   |have BO:=O Vm
    have PW:=O (show d9 wr (Addr.add ⟨g4,0,none⟩ (j*66)) h.v by rw[eX,kD];exact d_ (B4.ext E4) (by rw[ant HA.out HB.out j aS,HH.out]))
  clear hh Vm;go_wp2_with (first|(refine bZ F (agU F F F HA HB aS HH _) ?_)|(refine aZ F _ (.tmp 8) _ F F F (au.bK (vs:=iX 0 0 fT fT) F F) iW F HL nN ?_)|(refine bZ F (gD (i:=j) F F F underlying86 Gx aS _) ?_)|(refine bZ F (cB F F PW iW HL) ?_));intro w5 b5 u5;have e5:aj wr w5:=u5.ext ((aj.refl _).alloc _) (aQ _);obtain⟨E5,B5⟩:=aA (E4.ext e5) b5;clear b5 u5 e5;go_wp2_with (refine dA F 46 (.tmp 8) F F B5 iW HL ?_);refine(uw h HO w5).mono ?_;rintro x w6 ⟨v,rfl, -,e6⟩;have E6:=O (E5.ext e6);obtain⟨Fe,hF⟩:=aF (mV h.n h.t);rw[hF]at BO⊢;by_cases Rc:Fe=0
  ·subst Rc;go_wp2;go_roundw
   ·have PV:=HH.out;refine⟨j+1,J,by go_num,λ_=> ?_,λh2=> ?_,E6⟩
    ·rcases(by omega:j=0∨j=1)with Gb|Gb
     ·rw[aN Gb]at PV;rw[PV];exact hF
     ·exact TR J
    ·rw[aJ J]at PV;rw[PV];exact hF
   ·exact fV
  ·have hEF:=BO.out Rc;have d2:=om Rc;have d3:=bg Rc;subst hEF;have HX:=O (E3.ext E6);go_wp2
   (try go_ret)
   exact⟨F,HX⟩
 case neg=>
 obtain rfl:j=2:=J;have JF:=TR.out J;have hB0:=HJB.out J;have HC:Hid (Em a b I Z ls=if b.n<a.n then 9 else if b.t<a.t then 16 else if a.n=0 then(if I=0/\Z=0/\ls.length=0 then 0 else 12)else if I≠a.n∨Z≠b.n then 12 else Ia a.r b.r I Z ls):=O (by
  unfold Em;rw[JF,hB0,aJ aB,aJ aB])
 obtain⟨BO,B1,B2,B3,HX⟩:=fC (HC.symm.trans HE) (B1.ext E4) (B2.ext E4) (B3.ext E4) (E3.ext E4);have UF:=B1.cell' (i:=0) (v:= .int .i64 a.n) F;have cA1:=B1.cell' (i:=1) (v:= .int .i64 a.t) F;have cB0:=B2.cell' (i:=0) (v:= .int .i64 b.n) F;have cB1:=B2.cell' (i:=1) (v:= .int .i64 b.t) F;have cP0:=B3.cell' (i:=0) (v:= .int .i64 I) F;have cP1:=B3.cell' (i:=1) (v:= .int .i64 Z) F;obtain⟨PU,Fp,ae0,ae1⟩:=bT (show d9 wr ⟨gA,34,none⟩ (a.r.map Y)from d_ B1 (Rq HA)) (show d9 wr ⟨gA+1,34,none⟩ (b.r.map Y)from d_ B2 (Rq HB)) (show(a.r.map Y).length=32 by rw[aI];exact HA.r) (show(b.r.map Y).length=32 by rw[aI];exact HB.r);first
  |have:=qL
   have Ky:=O (ahB a.r b.r I Z ls m c pa wr HA.r HB.r oJ HM jZ pV (gX.ext HX))
  |have Ky:=O (akK a.r b.r I Z ls m c pa wr HA.r HB.r oJ HM jZ pV (gX.ext HX))
 have HIZ:=O (air I Z pa m c wr);rw[HM.out]at BO;have d0:decide ((2:Int)<2)=false:=bS;clear HE HC JF hB0 aS hj;obtain⟨an,JG⟩:=aF a.n;obtain⟨bn,Ew⟩:=aF b.n;obtain⟨at_,rD⟩:=aF a.t;obtain⟨bt,Lx⟩:=aF b.t;rw[JG,Ew,rD,Lx]at BO;rw[JG]at UF;rw[Ew]at cB0;rw[rD]at cA1;rw[Lx]at cB1;clear JG Ew rD Lx;by_cases h1:bn<an
 case pos=>
  have hE:=BO.out;rw[aN h1]at hE;subst hE;have d1:=bV h1;go_wp2
  (try go_ret)
  exact⟨F,HX⟩
 case neg=>
 have d1:=bg h1;by_cases h2:bt<at_
 case pos=>
  have hE:=BO.out;rw[aJ h1,aN h2]at hE;subst hE;have d2:=bV h2;go_wp2
  (try go_ret)
  exact⟨F,HX⟩
 case neg=>
 have d2:=bg h2;by_cases h3:an=0
 case pos=>
  subst h3;have hE:=BO.out;rw[aJ h1,aJ h2,aN F]at hE;first
   |have cP2:=B3.cell' (i:=2) (v:= .slice pa m c) F
    by_cases q0:I=0
    case neg=>
     rw[aJ (λh=>q0 h.1)]at hE;subst hE;have k0:=om q0;have k0b:=bg q0;go_wp2
     (try go_ret)
     exact⟨F,HX⟩
    subst q0;by_cases q1:Z=0
    case neg=>
     rw[aJ (λh=>q1 h.2.1)]at hE;subst hE;have k1:=om q1;have k1b:=bg q1;go_wp2
     (try go_ret)
     exact⟨F,HX⟩
    subst q1;by_cases q2:m=0
    case neg=>
     rw[aJ (λh=>q2 h.2.2)]at hE;subst hE;have k2:=cO ((0:Int)<(m:Int));have k2b:=cO (0<m);go_wp2
     (try go_ret)
     exact⟨F,HX⟩
    subst q2;rw[aN ⟨F,F,F⟩]at hE;subst hE;go_wp2
    (try go_ret)
    exact⟨F,HX⟩
   |go_wp2_with (refine qP F 61 (.tmp 5) F F B3 yB F ?_)
    refine HIZ.mono ?_;rintro x w7 ⟨rfl,e7⟩;have GY:=O (HX.ext e7);have c7:w7.cell? ⟨gA,0,none⟩=some (.int .i64 0):=by rw[e7.cell (kN UF)];exact UF
    by_cases h4:I=0/\Z=0/\m=0
    ·rw[aN h4]at hE;subst hE;have d4:=bV h4;rw[d4];clear h4 d4;go_wp2
     (try go_ret)
     exact⟨F,GY⟩
    ·rw[aJ h4]at hE;subst hE;have d4:=bg h4;rw[d4];clear h4 d4;go_wp2
     (try go_ret)
     exact⟨F,GY⟩
 case neg=>
 have d3:=qd h3;by_cases h4:I=an
 case neg=>
  have hE:=BO.out;rw[aJ h1,aJ h2,aJ h3,aN (.inl h4)]at hE;subst hE;have d4:=om h4;have d4b:=bg h4;go_wp2
  (try go_ret)
  exact⟨F,HX⟩
 subst h4;have d4:(I != I)=false:=aB;by_cases h5:Z=bn
 case neg=>
  have hE:=BO.out;rw[aJ h1,aJ h2,aJ h3,aN (.inr h5)]at hE;subst hE;have d5:=om h5;have NK:=bg h5;go_wp2
  (try go_ret)
  exact⟨F,HX⟩
 subst h5;have d5:(Z != Z)=false:=aB;have hE:=BO.out;rw[aJ h1,aJ h2,aJ h3,aJ aB]at hE;go_wp2_with (first|(refine bZ F (cB F F PU bf ae0) ?_)|(refine bZ F (cB F F Fp bf ae1) ?_)|(refine dA F 61 (.tmp 5) F F B3 yB F ?_));refine Ky.mono ?_;rintro x w7 ⟨rfl,e7⟩;have GY:=O (HX.ext e7);go_wp2
 (try go_ret)
 exact⟨F,GY⟩):d:=e
def aiT(a b:dO)(I Z:Int)(ls:List (ah))(m c:Nat)(pa:aO)(w:World)(ha:a.Ok)(hb:b.Ok)(cu:iH ls)(hm:ls.length=m)(jZ:m<=c)(pV:c<=9223372036854775807)(hcl:aM w pa (dH ls)):
 Calls prog 73 #[.agg a.v.toArray,.agg b.v.toArray,.agg (sS I Z (.slice pa m c)).toArray] w λe w'=>e= .returned (.int .i64 (Em a b I Z ls))/\aj w w':=Y7
end
def ant{a b:dO}(ha:a.Ok)(d:b.Ok)(j:Nat)(f:j<2):((a.v++b.v).drop (j*66)).take 66=(if j=0 then a else b).v:=by
 have c:=dO.len ha;have e:=dO.len d;rcases(by omega:j=0∨j=1)with rfl|rfl
 ·rw[Hg,jP,oo c];rfl
 ·rw[BS,q_ c,gY J];rfl
def aaC:(prog.info? 46).map (λi=>(i.zero,i.size,i.bytes))=some (some (.agg (iX 0 0 fT fT).toArray),66,80):=aC
def Gx:(prog.info? 46).map (·.size)=some 66:=aC
def an8{ops:Array Oper}{rest:List Oper}{o:Oper}{a:Act}{w:World}{d:Exit->Act->World->Prop}(m:o.guard=none){p q:Operand}{x y:aP}(t:o.op= .buildSlice 86 2 #[(0,p),(1,q)])(u:a.eval p= .agg x.toArray)(z:a.eval q= .agg y.toArray)(A:x.length=66)(B:y.length=66)
 (h:wpList prog ops d rest (a.put o.dst (.slice (some ⟨w.heap.size,0,none⟩) 2 2)) (w.alloc (.cells (x++y).toArray 46))):wpList prog ops d (o::rest) a w:=by
 obtain⟨D,n,C,c,E⟩:=gJ aaC;refine aeO m ?_ h;have G:(agg (iX 0 0 fT fT).toArray).cells.size=66:=by simp[cells,iX,fT]
 have l:∀b:Array Value,b.size=132->Instr.fill (λi=>some (i*66,66)) b [(0,.agg x.toArray),(1,.agg y.toArray)]=some (x++y).toArray:=by
  intro b j;have h:=Great.fill_whole (s:=66) J [.agg x.toArray,.agg y.toArray] b (by intro v e;simp only[gM,lN,lQ]at e;rcases e with rfl|rfl<;>simp[cells,A,B]) (by simp[j]);simpa[cells]using h
 have f:=run_buildSlice (P:=prog) w 86 46 2 #[(0,.agg x.toArray),(1,.agg y.toArray)] (x++y).toArray D _ underlying86 n C (by rw[c];omega) (by rw[c];omega) (by rw[c];exact l _ aB);have k:(#[(0,p),(1,q)].map λ(r:Nat×Operand)=>(r.1,a.eval r.2))= #[(0,.agg x.toArray),(1,.agg y.toArray)]:=by simp[u,z]
 have g:(Instr.buildSlice 86 2 (#[(0,p),(1,q)].map λ(r:Nat×Operand)=>(r.1,a.eval r.2))).run prog w= .ok (.slice (some ⟨w.heap.size,0,none⟩) 2 2) (w.alloc (.cells (x++y).toArray 46)):=by rw[k];exact f
 unfold execOp;simp only[t,iC];rw[g];rfl
def aku(a b:dO)(I Z:Int)(ls:List (ah))(m c:Nat)(pa:aO)(w:World)(ha:a.Ok)(hb:b.Ok)(cu:iH ls)(hm:ls.length=m)(jZ:m<=c)(pV:c<=9223372036854775807)(hcl:aM w pa (dH ls)):
 Calls prog 74 #[.agg a.v.toArray,.agg b.v.toArray,.agg (sS I Z (.slice pa m c)).toArray] w λe w'=>e= .returned (.int .i64 (Em a b I Z ls))/\aj w w':=Y7
def qx(hs:List dO):aP:=hs.flatMap dO.v
def uf(k:ah)(v:Value):aP:=k.map Y++[v]
def anR{k:ah}{v:Value}(h:k.length=32):(uf k v).length=33:=by unfold uf;simp[h]
def Kn{k:ah}{v:Value}(h:k.length=32):(uf k v)[32]? =some v:=by
 unfold uf;rw[yc (by rw[aI,h];exact aQ _),aI,h];rfl
def anS{k:ah}{v u:Value}(h:k.length=32):(uf k v).set 32 u=uf k u:=by
 unfold uf;rw[set_append,aJ (by rw[aI,h];omega),aI,h];rfl
def aeA{k:ah}{v:Value}(h:k.length=32):((uf k v).drop 0).take 32=k.map Y:=by
 unfold uf;rw[jP,oo (by rw[aI,h])]
structure oN(T:TypeId)(w:World)(B g:Nat)(k:ah)(v:Value)(hs:List dO):Prop where
 blk:au w g (uf k v) T
 row:w.ownsRow B 46 66 v hs.length (qx hs)
 kl:k.length=32
 ok:∀h∈hs,h.Ok
def oN.ext{T:TypeId}{w w':World}{B g:Nat}{k:ah}{v:Value}{hs:List dO}(h:oN T w B g k v hs)(e:aj w w'):oN T w' B g k v hs:=⟨h.blk.ext e,iy h.row e,h.kl,h.ok⟩
def Ga{hs:List dO}(h:∀x∈hs,x.Ok):(qx hs).length=hs.length*66:=by
 induction hs with
 |nil=>rfl
 |cons x hs d=>
  have a:=d λy c=>h y (by simp[c]);have b:=dO.len (h x aB);unfold qx at*;rw[yh,bQ,a,b,iU];omega
def aan(hs:List dO):∀v∈qx hs,v.oneCell'=true:=by
 intro v a;unfold qx at a;obtain⟨h, -,b⟩:=mem_flatMap.1 a;exact F9 _ _ _ _ v b
def Vt{hs:List dO}(h:∀x∈hs,x.Ok){i:Nat}{x:dO}(a:hs[i]? =some x):((qx hs).drop (i*66)).take 66=x.v:=by
 induction hs generalizing i with
 |nil=>simp at a
 |cons y hs f=>
  have b:=dO.len (h y aB);have e:qx (y::hs)=y.v++qx hs:=by unfold qx;rw[yh]
  rw[e];cases i with
  |zero=>
   obtain rfl:y=x:=by simpa using a
   rw[Hg,jP,oo b]
  |succ i=>
   have c:=f (λz d=>h z (by simp[d])) (by simpa using a);rw[show(i+1)*66=66+i*66 by omega,<-tK,q_ b];exact c
def Ro:wO prog 86 46 66 80:=by
 obtain⟨e,b,d,c,a⟩:=gJ aaC;exact⟨underlying86,⟨e,_,b,d,c,a,by simp[cells,iX,fT]⟩,J⟩
def Gh:jc prog 69 32:=⟨⟨_,underlying69,F⟩,aC⟩
def ail:(prog.info? 130).map (λi=>(i.zero,i.size,i.bytes))=some (some (.agg (uf fT (.slice none 0 0)).toArray),33,56):=aC
def ag7:(prog.underlying 130).bind (λd=>match d with| .struct a=>a.toList.mapM (λf=>(prog.info? f.type).map λi=>(f.offset,i.size))|_=>none)=some [(0,32),(32,1)]:=aC
def ad1{a:Prop}(e:a:=by
 simp only[hz,hf];have h0:(agg (uf fT (.slice none 0 0)).toArray).cells=([]++fT.map Y++[Value.slice none 0 0]).toArray:=F;rw[h0,lF [] (fT.map Y) _ F F (by simp[cells,hk]) (by rw[aI];rfl)];rw[Instr.fill];simp[cells,uf]):a:=e
def afM(k:ah)(hk:k.length=32):prog.built 130 [(0,.agg (k.map Y).toArray)]=some (uf k (.slice none 0 0)).toArray:=by
 obtain⟨d,a,hz,c,b⟩:=gJ ail;have hf:=ag7;rw[underlying130]at hf;simp only[AV]at hf;unfold Program.built;rw[a,underlying130];exact ad1
def agM{o:Oper}{a:Act}{x:Operand}{k:ah}(e:o.op= .build 130 #[(0,x)])(f:a.eval x= .agg (k.map Y).toArray)(d:k.length=32)(w:World):
 (execOp a.eval o).run prog w= .ok (.value (.agg (uf k (.slice none 0 0)).toArray)) w:=by
 have h:=B_ (P:=prog) w 130 #[(0,.agg (k.map Y).toArray)] _ (afM k d);have c:(#[(0,x)].map λ(p:Nat×Operand)=>(p.1,a.eval p.2))= #[(0,.agg (k.map Y).toArray)]:=by simp[f]
 unfold execOp;simp only[e,iC];have b:(Instr.build 130 (#[(0,x)].map λ(p:Nat×Operand)=>(p.1,a.eval p.2))).run prog w= .ok (.agg (uf k (.slice none 0 0)).toArray) w:=by rw[c];exact h
 rw[b];rfl
def aaO(k:ah)(w:World)(b:k.length=32):
 Calls prog 29 #[.agg (k.map Y).toArray] w λx w'=>∃g,x= .returned (.pointer (some ⟨g,0,none⟩))/\w.heap.size<=g/\oN 130 w' w.heap.size g k (.slice none 0 0) []/\aj w w':=by
 obtain⟨e,c⟩:=aA (show(k.map Y).length=32 by rw[aI];exact b) b;clear b;go_enter func29,ntmps29;go_upto_region 1 with fail;generalize a:alloc w _=l;have f:=dS a;have j:l.heap.size=w.heap.size+1:=by rw[<-a];exact jf _ _
 have d:=O (dX a (k.map Y) 69);clear a;go_wp2_with (first|(refine dA F 69 (.tmp 1) F F d Gh e ?_)|(refine bZ F (agM F F c _) ?_))
 (try go_ret)
 exact⟨_,F,J,⟨au.bK j.symm rfl,Hq _ _ _ _,c,λh i=>by simp at i⟩,f.alloc _⟩
def aio:(prog.info? 132).map (λi=>(i.zero,i.size,i.bytes))=some (some (.agg (uf fT (.slice none 0 0)).toArray),33,56):=aC
def ag9:(prog.underlying 132).bind (λd=>match d with| .struct a=>a.toList.mapM (λf=>(prog.info? f.type).map λi=>(f.offset,i.size))|_=>none)=some [(0,32),(32,1)]:=aC
def afO(k:ah)(hk:k.length=32):prog.built 132 [(0,.agg (k.map Y).toArray)]=some (uf k (.slice none 0 0)).toArray:=by
 obtain⟨d,a,hz,c,b⟩:=gJ aio;have hf:=ag9;rw[underlying132]at hf;simp only[AV]at hf;unfold Program.built;rw[a,underlying132];exact ad1
def agP{o:Oper}{a:Act}{x:Operand}{k:ah}(e:o.op= .build 132 #[(0,x)])(f:a.eval x= .agg (k.map Y).toArray)(d:k.length=32)(w:World):
 (execOp a.eval o).run prog w= .ok (.value (.agg (uf k (.slice none 0 0)).toArray)) w:=by
 have h:=B_ (P:=prog) w 132 #[(0,.agg (k.map Y).toArray)] _ (afO k d);have c:(#[(0,x)].map λ(p:Nat×Operand)=>(p.1,a.eval p.2))= #[(0,.agg (k.map Y).toArray)]:=by simp[f]
 unfold execOp;simp only[e,iC];have b:(Instr.build 132 (#[(0,x)].map λ(p:Nat×Operand)=>(p.1,a.eval p.2))).run prog w= .ok (.agg (uf k (.slice none 0 0)).toArray) w:=by rw[c];exact h
 rw[b];rfl
def ab6(k:ah)(w:World)(b:k.length=32):
 Calls prog 30 #[.agg (k.map Y).toArray] w λx w'=>∃g,x= .returned (.pointer (some ⟨g,0,none⟩))/\w.heap.size<=g/\oN 132 w' w.heap.size g k (.slice none 0 0) []/\aj w w':=by
 obtain⟨e,c⟩:=aA (show(k.map Y).length=32 by rw[aI];exact b) b;clear b;go_enter func30,ntmps30;go_upto_region 1 with fail;generalize a:alloc w _=l;have f:=dS a;have j:l.heap.size=w.heap.size+1:=by rw[<-a];exact jf _ _
 have d:=O (dX a (k.map Y) 69);clear a;go_wp2_with (first|(refine dA F 69 (.tmp 1) F F d Gh e ?_)|(refine bZ F (agP F F c _) ?_))
 (try go_ret)
 exact⟨_,F,J,⟨au.bK j.symm rfl,Hq _ _ _ _,c,λh i=>by simp at i⟩,f.alloc _⟩
def Ls:prog.eqGuardType prog.depth 46=false:=aC
def amF:prog.stoodInHeld 46=false:=aC
def adh:prog.cellsOf 31=32:=aC
def ahJ(C T:Int){x y:ah}(a:x.length=32):(iX C T x y).toArray.extract 2 (2+32)=(x.map Y).toArray:=by
 rw[<-Vs C T (r2:=y) a];simp[List.extract]
def ahK(C T:Int){x y:ah}(a:x.length=32)(b:y.length=32):(iX C T x y).toArray.extract 34 (34+32)=(y.map Y).toArray:=by
 rw[<-Rp C T a b];simp[List.extract]
def ag1:(prog.fieldsOf 46).toList.map (λf=>(f.name,f.type,f.offset))=[("Count",3,0),("Time",3,1),("Last",31,2),("Root",31,34)]:=aC
def JI(a b:dO):Bool:=a.n==b.n&&(a.t==b.t&&(a.l==b.l&&a.r==b.r))
def ahG(a:dO):JI a a=true:=by unfold JI;simp
def SA{P:Program}{d:Nat}{xs ys:Array Value}{f:Field}{c:List Field}{a b:Value}{w:World}(i:f.name≠ "_")(e:(part f.type xs f.offset).run P w= .ok a w)(g:(part f.type ys f.offset).run P w= .ok b w)(h:(Op.equalIn d f.type a b).run P w= .ok false w):
 (Op.eqFields d xs ys (f::c)).run P w= .ok false w:=by
 simp[Op.eqFields,i,e,g,h]
def agA(a b:dO)(ha:a.Ok)(c:b.Ok)(w:World):(Op.equalIn 10000 46 (.agg a.v.toArray) (.agg b.v.toArray)).run prog w= .ok (JI a b) w:=by
 have Q:prog.underlying 46=some (.struct (prog.fieldsOf 46)):=by unfold Program.fieldsOf;rw[underlying46]
 rw[show(10000:Nat)=9999+1 from F,run_equalIn_struct w 9999 _ _ _ Q amF];have h:=ag1;generalize (prog.fieldsOf 46).toList=R at h;obtain⟨v,S,rfl,k1,h⟩:=Nf.1 h;obtain⟨A,T,rfl,k2,h⟩:=Nf.1 h;obtain⟨B,U,rfl,k3,h⟩:=Nf.1 h;obtain⟨C,V,rfl,k4,h⟩:=Nf.1 h;obtain rfl:=map_eq_nil_iff.1 h;simp only[Prod.mk.injEq]at k1 k2 k3 k4;obtain⟨r,n,I⟩:=k1;obtain⟨s,o,K⟩:=k2;obtain⟨t,p,L⟩:=k3;obtain⟨u,q,M⟩:=k4;have g:∀x:dO,(part v.type x.v.toArray v.offset).run prog w= .ok (.int .i64 x.n) w:=λx=>by rw[n,I];exact acV underlying3 F
 have i:∀x:dO,(part A.type x.v.toArray A.offset).run prog w= .ok (.int .i64 x.t) w:=λx=>by rw[o,K];exact acV underlying3 F
 have j:∀x:dO,x.Ok->(part B.type x.v.toArray B.offset).run prog w= .ok (.agg (x.l.map Y).toArray) w:=λx f=>by unfold dO.v;rw[p,L,acU underlying31 adh,ahJ _ _ f.l]
 have k:∀x:dO,x.Ok->(part C.type x.v.toArray C.offset).run prog w= .ok (.agg (x.r.map Y).toArray) w:=λx f=>by unfold dO.v;rw[q,M,acU underlying31 adh,ahK _ _ f.l f.r]
 have d:∀y z:Int,(Op.equalIn 9999 3 (.int .i64 y) (.int .i64 z)).run prog w= .ok (y==z) w:=λy z=>by
  rw[run_equalIn_int w 9998 _ _ _ _ _ underlying3]
 have e:∀l m:ah,l.length=32->m.length=32->(Op.equalIn 9999 31 (.agg (l.map Y).toArray) (.agg (m.map Y).toArray)).run prog w= .ok (l==m) w:=λl m N P=>by
  have:=run_equalIn_bytes w 9997 31 5 32 underlying31 underlying5 (λw=>by kernel_rfl) l m N P;exact this
 unfold JI;cases D:(a.n==b.n)with
 |false=>rw[SA (by rw[r];decide) (g a) (g b) (by rw[n,d,D])];rfl
 |true=>
 rw[Sz (by rw[r];decide) (g a) (g b) (by rw[n,d,D])];cases E:(a.t==b.t)with
 |false=>rw[SA (by rw[s];decide) (i a) (i b) (by rw[o,d,E])];rfl
 |true=>
 rw[Sz (by rw[s];decide) (i a) (i b) (by rw[o,d,E])];cases G:(a.l==b.l)with
 |false=>rw[SA (by rw[t];decide) (j a ha) (j b c) (by rw[p,e _ _ ha.l c.l,G])];rfl
 |true=>
 rw[Sz (by rw[t];decide) (j a ha) (j b c) (by rw[p,e _ _ ha.l c.l,G])];cases H:(a.r==b.r)with
 |false=>rw[SA (by rw[u];decide) (k a ha) (k b c) (by rw[q,e _ _ ha.r c.r,H])];rfl
 |true=>
 rw[Sz (by rw[u];decide) (k a ha) (k b c) (by rw[q,e _ _ ha.r c.r,H])];simp[Op.eqFields]
def abh(a b:dO)(ha:a.Ok)(c:b.Ok)(w:World):(binOp .neq 46 (.agg a.v.toArray) (.agg b.v.toArray)).run prog w= .ok (.bool (!JI a b)) w:=by
 rw[run_neq_struct,agA a b ha c w];rfl
def Rs{w:World}{b off:Nat}{hs:List dO}(h:aM w (some ⟨b,off,none⟩) (qx hs))(ok:∀x∈hs,x.Ok){q:Nat}{a:dO}(ha:hs[q]? =some a):d9 w (Addr.add ⟨b,off,none⟩ (q*66)) a.v:=λj u c=>by
 have f:=Vt ok ha;rcases h with d|⟨m,n,e,d⟩
 ·have i:a.v=[]:=by rw[<-f,d];simp
  rw[i]at c;simp at c
 ·injection e with e;injection e with k l _;subst k l;have g:=d (q*66+j) u (by
   rw[<-f,M8]at c;split at c
   ·rw[qY]at c;exact c
   ·cases c)
  rw[eX,eX];rw[show off+q*66+j=off+(q*66+j) by omega];exact g
def Xu(a b:dO)(s:Int×Bool):Int×Bool:=if a.n=b.n/\JI a b=false/\(s.2=false∨a.n<s.1)then(a.n,true)else s
def DW(a:dO)(os:List dO)(s:Int×Bool):Int×Bool:=os.foldl (λs b=>Xu a b s) s
def zF(hs os:List dO):Int×Bool:=hs.foldl (λs a=>DW a os s) (0,false)
def amk{a b:dO}{os:List dO}{q:Nat}(h:os[q]? =some b)(s:Int×Bool):DW a (os.take (q+1)) s=Xu a b (DW a (os.take q) s):=by
 unfold DW;rw[ny,h,foldl_append];rfl
def amj{a:dO}{hs os:List dO}{q:Nat}(h:hs[q]? =some a):zF (hs.take (q+1)) os=DW a os (zF (hs.take q) os):=by
 unfold zF;rw[ny,h,foldl_append];rfl
def adi{d:Prop}(e:d:=by
 obtain⟨SE,hSE⟩:=aF (zF hs os);rw[hSE];obtain⟨ra,rc,hv,Dw, -,Ah⟩:=j3 hw.row;obtain⟨rb,rd,nE,ahX, -,aat⟩:=j3 ho.row;obtain⟨qU,nM⟩:=aA Ah aat;have eP:=O hw.ok;have TV:=O ho.ok;have c1:=hw.blk.cell' (Kn hw.kl);have c2:=ho.blk.cell' (Kn ho.kl);rw[hv]at c1;rw[nE]at c2;obtain⟨N,hN⟩:=aF hs.length;obtain⟨M,hM⟩:=aF os.length;rw[hN]at c1 Dw hn;rw[hM]at c2 ahX hm;obtain⟨HN,HM,C1,C2⟩:=bT hN hM c1 c2;clear hw ho Ah aat hv nE hN hM c2;first
  |go_enter func36,ntmps36
   have qL:=trivial
  |go_enter func37,ntmps37
 go_wp2_with fail;clear c1;first
  |have:=qL
   go_loopw [6,7,19] (λv6 v7 i wr=>∃j:Nat,j<=N/\i= .int .i64 (j:Int)/\v6= .int .i64 (zF (hs.take j) os).1/\v7= .bool (zF (hs.take j) os).2/\aj w wr) (λ_ _ i _=>N - (intOf i).toNat)
  |go_loopw [6,7,17] (λv6 v7 i wr=>∃j:Nat,j<=N/\i= .int .i64 (j:Int)/\v6= .int .i64 (zF (hs.take j) os).1/\v7= .bool (zF (hs.take j) os).2/\aj w wr) (λ_ _ i _=>N - (intOf i).toNat)
 ·exact⟨0,J,F,F,F,aj.refl _⟩
 obtain⟨j,hj,rfl,rfl,rfl,e1⟩:=hrel;have E1:=O e1;clear e1;by_cases aS:j<N
 case neg=>
  obtain rfl:j=N:=J;have fM:hs.take j=hs:=gY (by rw[HN.out];exact aQ _);rw[fM,hSE];have d1:=bU ((j:Int)<(j:Int));have NI:=bU (j<j);go_wp2
  go_ret2
  exact⟨F,E1⟩
 have d1:=cO ((j:Int)<(N:Int));have NI:=bV aS;obtain⟨a,ha⟩:∃a,hs[j]? =some a:=⟨hs[j]'(by rw[HN.out];exact aS),aB⟩;have vF:=O (eP a (f_ ha));obtain⟨mq,MN⟩:=aA (dO.len vF) (amj (os:=os) ha);obtain⟨b,off,vT, -⟩:=qU.jg (by rw[Ga eP.out,HN.out];omega);have um:Hid (d9 wr (Addr.add ⟨b,off,none⟩ (j*66)) a.v):=O (Rs ((vT▸qU.out).ext E1) eP ha);subst vT;clear ha;go_wp2_with (first|(refine bZ F (gD (i:=j) F F F underlying86 Gx aS _) ?_)|(refine bZ F (cB F F um iW mq) ?_)|(refine aZ F _ (.tmp 9) _ F F F (au.bK (vs:=iX 0 0 fT fT) F F) iW F mq (F9 _ _ _ _) ?_));intro w2 b2 u2;have e2:aj wr w2:=u2.ext ((aj.refl _).alloc _) (aQ _);obtain⟨E2,B2⟩:=aA (E1.ext e2) b2;have c2:w2.cell? ⟨g2,32,none⟩=some (.slice rb M rd):=by rw[E2.cell (kN C2)];exact C2
 clear b2 u2 e2;generalize wr.heap.size=g9 at*;obtain⟨S,hS⟩:=aF (zF (hs.take j) os);rw[hS]at MN⊢;clear hS;go_wp2_with fail;clear c2;first
  |have:=qL
   go_loopw [6,7,28] (λv6 v7 i wq=>∃q:Nat,q<=M/\i= .int .i64 (q:Int)/\v6= .int .i64 (DW a (os.take q) S).1/\v7= .bool (DW a (os.take q) S).2/\au wq g9 a.v 46/\aj w wq) (λ_ _ i _=>M - (intOf i).toNat)
  |go_loopw [6,7,26] (λv6 v7 i wq=>∃q:Nat,q<=M/\i= .int .i64 (q:Int)/\v6= .int .i64 (DW a (os.take q) S).1/\v7= .bool (DW a (os.take q) S).2/\au wq g9 a.v 46/\aj w wq) (λ_ _ i _=>M - (intOf i).toNat)
 ·exact⟨0,J,F,F,F,B2,E2⟩
 obtain⟨q,hq,rfl,rfl,rfl,b3,e3⟩:=hrel;obtain⟨B3,E3⟩:=aA b3 e3;clear b3 e3;by_cases yM:q<M
 case neg=>
  obtain rfl:q=M:=J;have fM:os.take q=os:=gY (by rw[HM.out];exact aQ _);rw[fM,<-MN.out];have d2:=bU ((q:Int)<(q:Int));have Jw:=bU (q<q);go_wp2;go_roundw
  ·exact⟨j+1,J,by go_num,F,F,E3⟩
  ·exact fV
 have d2:=cO ((q:Int)<(M:Int));have Jw:=bV yM;obtain⟨c,hc⟩:∃a,os[q]? =some a:=⟨os[q]'(by rw[HM.out];exact yM),aB⟩;have Yf:=O (TV c (f_ hc));obtain⟨gX,Yl⟩:=aA (dO.len Yf) (amk (a:=a) hc S);obtain⟨b4,ajz,Bv, -⟩:=nM.jg (by rw[Ga TV.out,HM.out];omega);have Z:Hid (d9 wr (Addr.add ⟨b4,ajz,none⟩ (q*66)) c.v):=O (Rs ((Bv▸nM.out).ext E3) TV hc);subst Bv;clear hc;first
  |have:=qL
   go_upto_region 10 with(first|(refine bZ F (gD (i:=q) F F F underlying86 Gx yM _) ?_)|(refine bZ F (cB F F Z iW gX) ?_)|(refine aZ F _ (.tmp 11) _ F F F (au.bK (vs:=iX 0 0 fT fT) F F) iW F gX (F9 _ _ _ _) ?_))
  |go_upto_region 8 with(first|(refine bZ F (gD (i:=q) F F F underlying86 Gx yM _) ?_)|(refine bZ F (cB F F Z iW gX) ?_)|(refine aZ F _ (.tmp 11) _ F F F (au.bK (vs:=iX 0 0 fT fT) F F) iW F gX (F9 _ _ _ _) ?_))
 intro w4 b5 u4;have e4:aj wr w4:=u4.ext ((aj.refl _).alloc _) (aQ _);obtain⟨E4,B4,B5⟩:=aW (E3.ext e4) (B3.ext e4) b5;clear b5 u4 e4;generalize wr.heap.size=F4 at*;have fU:=O (λy=>abh a c vF Yf y);have ca:=B4.cell' (i:=0) (v:= .int .i64 a.n) F;have cc:=B5.cell' (i:=0) (v:= .int .i64 c.n) F;obtain⟨T,hT⟩:=aF (DW a (os.take q) S);rw[hT]at Yl⊢;clear hT;obtain⟨le,fo⟩:=T
 (try dsimp only)
 obtain⟨sN,Vv⟩:=aF (JI a c);rw[Vv]at fU;have dZ:DW a (os.take (q+1)) S=if a.n=c.n/\sN=false/\(fo=false∨a.n<le)then(a.n,true)else(le,fo):=by rw[Yl.out];unfold Xu;rw[Vv]
 have oL:=O dZ;clear dZ Vv;obtain⟨an,JG⟩:=aF a.n;obtain⟨cn,qw⟩:=aF c.n;rw[JG,qw]at oL;rw[JG]at ca;rw[qw]at cc;clear JG qw;by_cases n1:an=cn
 case neg=>
  have qV:=O (oL.trans (aJ (λh=>n1 h.1)));have d3:=bg n1;have NJ:(an==cn)=false:=M4.2 n1;clear n1 oL;go_wp2_with (first|(refine qP F 46 (.tmp 9) F F B4 iW mq ?_)|(refine qP F 46 (.tmp 11) F F B5 iW gX ?_)|(refine Fh F .neq _ _ _ _ F F F Ls fU ?_));go_roundw
  ·exact⟨q+1,J,by go_num,by rw[qV.out],by rw[qV.out],B4,E4⟩
  ·exact fV
 subst n1;cases sN with
 |true=>
  have qV:=O (oL.trans (aJ (λh=>by cases h.2.1)));go_wp2_with (first|(refine qP F 46 (.tmp 9) F F B4 iW mq ?_)|(refine qP F 46 (.tmp 11) F F B5 iW gX ?_)|(refine Fh F .neq _ _ _ _ F F F Ls fU ?_));go_roundw
  ·exact⟨q+1,J,by go_num,by rw[qV.out],by rw[qV.out],B4,E4⟩
  ·exact fV
 |false=>
 cases fo with
 |false=>
  have qV:=O (oL.trans (aN ⟨F,F,.inl F⟩));go_wp2_with (first|(refine qP F 46 (.tmp 9) F F B4 iW mq ?_)|(refine qP F 46 (.tmp 11) F F B5 iW gX ?_)|(refine Fh F .neq _ _ _ _ F F F Ls fU ?_));go_roundw
  ·exact⟨q+1,J,by go_num,by rw[qV.out],by rw[qV.out],B4,E4⟩
  ·exact fV
 |true=>
 by_cases n2:an<le
 case pos=>
  have qV:=O (oL.trans (aN ⟨F,F,.inr n2⟩));have d4:=bV n2;clear n2 oL;go_wp2_with (first|(refine qP F 46 (.tmp 9) F F B4 iW mq ?_)|(refine qP F 46 (.tmp 11) F F B5 iW gX ?_)|(refine Fh F .neq _ _ _ _ F F F Ls fU ?_));go_roundw
  ·exact⟨q+1,J,by go_num,by rw[qV.out],by rw[qV.out],B4,E4⟩
  ·exact fV
 case neg=>
  have qV:=O (oL.trans (aJ (λh=>h.2.2.elim (λh=>by cases h) n2)));have d4:=bg n2;clear n2 oL;go_wp2_with (first|(refine qP F 46 (.tmp 9) F F B4 iW mq ?_)|(refine qP F 46 (.tmp 11) F F B5 iW gX ?_)|(refine Fh F .neq _ _ _ _ F F F Ls fU ?_));go_roundw
  ·exact⟨q+1,J,by go_num,by rw[qV.out],by rw[qV.out],B4,E4⟩
  ·simp[intOf];omega):d:=e
def aa2(B g:Nat)(k:ah)(v:Value)(hs:List dO)(B2 g2:Nat)(k2:ah)(a:Value)(os:List dO)(w:World)(hw:oN 130 w B g k v hs)(ho:oN 130 w B2 g2 k2 a os)(hn:hs.length<=1000)(hm:os.length<=1000):
 Calls prog 36 #[.pointer (some ⟨g,0,none⟩),.pointer (some ⟨g2,0,none⟩)] w λx w'=>x= .returned (.tuple #[.int .i64 (zF hs os).1,.bool (zF hs os).2])/\aj w w':=adi
def acC(B g:Nat)(k:ah)(v:Value)(hs:List dO)(B2 g2:Nat)(k2:ah)(a:Value)(os:List dO)(w:World)(hw:oN 132 w B g k v hs)(ho:oN 132 w B2 g2 k2 a os)(hn:hs.length<=1000)(hm:os.length<=1000):
 Calls prog 37 #[.pointer (some ⟨g,0,none⟩),.pointer (some ⟨g2,0,none⟩)] w λx w'=>x= .returned (.tuple #[.int .i64 (zF hs os).1,.bool (zF hs os).2])/\aj w w':=adi
def ajh(x:dO)(a:x.Ok)(w:World):(binOp .neq 46 (.agg x.v.toArray) (.agg x.v.toArray)).run prog w= .ok (.bool false) w:=by
 have h:=abh x x a a w;rw[ahG]at h;exact h
def aa1(a:Value)(w:World):
 eO 36 #[a,.pointer none] w (.tuple #[.int .i64 0,.bool false]):=by
 go_enter func36,ntmps36;go_wp2
 go_ret2
 exact⟨F,aj.refl _⟩
def afX(rs:List dO)(a:aO)(n c:Nat)(w:World)(d:rs.length=n)(H:n<=1000)(E:n<=c)(f:∀x∈rs,x.Ok)(b:aM w a (qx rs)):
 Calls prog 77 #[.slice a n c] w λe w'=>∃v,e= .returned v/\w'.ownsRow w.heap.size 46 66 v n (qx rs)/\aj w w':=by
 obtain⟨r,t,s,y⟩:=bT b d f Ro;have I:∀(w:World) (a:aO) (n c j g:Nat),(binOp .eql 86 (.slice a n c) (.slice none j g)).run prog w= .ok (.bool a.isNone) w:=λw a n c j g=>Ue w _ _ a n c j g underlying86;cases a with
 |none=>
  have i:qx rs=[]:=by
   rcases b with h|⟨_,_,h,_⟩
   ·exact h
   ·cases h
  have D:n=0:=by
   have:=Ga f;rw[i,d]at this;simp at this;omega
  subst D;have z:=O i;clear d b i f;go_enter func77,ntmps77;go_wp2;go_ret;exact⟨_,F,by rw[z.out];exact⟨F,.inl ⟨F,F⟩⟩,aj.refl _⟩
 |some A=>
  clear d b f;go_enter func77,ntmps77;go_wp2_with (refine yY (n:=0) (m:=n) (c:=c) (xs:=[]) (news:=qx rs) y F _ _ F w.heap.size F F (M7 w #[] 0 (aQ _) (w_ _) aB) (by rw[Ga s.out,t.out]) E (by intro h;cases h) (r.ext ((aj.refl w).alloc _)) (aan _) J J (by rw[jf];omega) ?_);intro p q o l G;have B:aj w q:=((aj.refl w).alloc _).grown l (by intro k C;simp[Value.ownBlock]at C;omega);have u:Hid (q.ownsRow w.heap.size 46 66 p n (qx rs)):=O (by simpa using o);clear l o G;go_wp2;go_ret;exact⟨p,F,u,B⟩
def ZB(ls:List dO)(a b:aO)(n c d:Nat)(w:World)(r:ls.length=n)(D:n<=1000)(f:∀x∈ls,x.Ok)(ha:aM w a (qx ls))(q:aM w b (qx ls)):
 eO 38 #[.slice a n c,.slice b n d] w (.bool true):=by
 obtain⟨u,l,m⟩:=aW r ha q;clear r ha q;go_enter func38,ntmps38;go_wp2_with fail;go_loopw [13] (λi wr=>∃k:Nat,k<=n/\i= .int .i64 (k:Int)/\aj w wr) (λi _=>n - (intOf i).toNat)
 ·exact⟨0,J,F,aj.refl _⟩
 ·obtain⟨k,B,rfl,p⟩:=hrel;have E1:=O p;clear p;by_cases aS:k<n
  ·have d1:=cO ((k:Int)<(n:Int));have d2:=bV aS;have j:=u.out;obtain⟨x,g⟩:∃x,ls[k]? =some x:=⟨ls[k]'J,mG _⟩;have hx:=f x (f_ g);obtain⟨y,E,rfl, -⟩:=l.jg (by rw[Ga f,j];omega);obtain⟨z,G,rfl, -⟩:=m.jg (by rw[Ga f,j];omega);obtain⟨s,t,o,v⟩:=bT (Rs (l.ext E1) f g) (Rs (m.ext E1) f g) (dO.len hx) (ajh x hx);clear g j hx;go_upto_region 6 with(fail);obtain⟨C,Z,A⟩:=nR wr;refine qX (S:=C) aC ((Z _).2 (aj.refl wr).drew) (λX=> ?_);refine ay 0 ?_;refine ay 1 ?_;refine aV 2 F (aY F (λe _=>gD (i:=k) F F F underlying86 Gx aS e)) ?_;refine aV 3 F (aY F (λe h=>cB F F (s.ext ((Z e).1 h)) iW o)) ?_;refine ay 4 ?_;refine ay 5 ?_;refine aV 6 F (aY F (λe _=>gD (i:=k) F F F underlying86 Gx aS e)) ?_;refine aV 7 F (aY F (λe h=>cB F F (t.ext ((Z e).1 h)) iW o)) ?_;refine aV 8 F (aY F (λe _=>pQ F F F Ls v e)) ?_;exact am6
  exact ani
def aaV(B g:Nat)(k:ah)(v:Value)(hs:List dO)(w:World)(a:oN 130 w B g k v hs)(C:hs.length<=1000):
 Calls prog 39 #[.pointer (some ⟨g,0,none⟩)] w λx w'=>∃v,x= .returned v/\w'.ownsRow w.heap.size 46 66 v hs.length (qx hs)/\aj w w':=by
 obtain⟨G,o,l,j,E,i⟩:=j3 a.row;have t:=O a.ok;have b:=a.blk.cell' (Kn a.kl);rw[l]at b;obtain⟨u,y⟩:=aA i Ro;obtain⟨d,e⟩:=aF hs.length;rw[e]at b j C⊢;have r:=O e;clear a i l e;have H:(w.alloc (.cells #[] 46)).cell? ⟨g,32,none⟩=some (.slice G d o):=by rw[((aj.refl w).alloc _).cell (kN b)];exact b
 go_enter func39,ntmps39;go_wp2_with (refine yY (n:=0) (m:=d) (c:=o) (xs:=[]) (news:=qx hs) y F _ _ F w.heap.size F F (M7 w #[] 0 (aQ _) (w_ _) aB) (by rw[Ga t.out,r.out]) j E (u.ext ((aj.refl w).alloc _)) (aan _) J J (by rw[jf];omega) ?_);intro p q h f D;have z:aj w q:=((aj.refl w).alloc _).grown f (by intro k A;simp[Value.ownBlock]at A;omega);have s:Hid (q.ownsRow w.heap.size 46 66 p d (qx hs)):=O (by simpa using h);clear f h D;go_wp2;go_ret;exact⟨p,F,s,z⟩
def acf(B g:Nat)(k:ah)(v:Value)(hs:List dO)(w:World)(a:oN 132 w B g k v hs)(f:hs.length<=1000):
 Calls prog 40 #[.pointer (some ⟨g,0,none⟩)] w λx w'=>∃v,x= .returned v/\w'.ownsRow w.heap.size 46 66 v hs.length (qx hs)/\aj w w':=by
 obtain⟨p,q,l,j,t,i⟩:=j3 a.row;have n:=O a.ok;have b:=a.blk.cell' (Kn a.kl);rw[l]at b;have d:=O (λw' e=>afX hs p hs.length q w' F f j n (i.ext e):∀w',aj w w'->_);obtain⟨s,c⟩:=aF hs.length;rw[c]at d b j f⊢;clear a i l c;go_enter func40,ntmps40;go_wp2_with fail;refine(d _ (aj.refl _)).mono ?_;rintro e u ⟨r,rfl,h,o⟩;have m:=O h;clear h;go_wp2;go_ret;exact⟨r,F,m,o⟩
def al1:(prog.info? 86).map (·.size)=some 1:=aC
def ahL(hs:List dO)(h:dO):qx (hs++[h])=qx hs++h.v:=by unfold qx;rw[Eh];simp
def Oc{h:dO}(k:h.Ok):(h.v.drop 0).take 66=h.v:=by rw[jP,gY (by rw[dO.len k];exact aQ _)]
def Fy(T:TypeId)(B g:Nat)(k:ah)(v:Value)(hs:List dO)(h:dO)(c:Int)(w:World)(x:Ending)(w':World):Prop:=
 x= .returned (.int .i64 c)/\∃a,oN T w' B g k a (if c=0 then hs++[h]else hs)/\gL (λb=>b=g∨v.ownBlock=some b) w w'/\(a.ownBlock=v.ownBlock∨∃b,a.ownBlock=some b/\w.heap.size<=b)
def Fy.no{T:TypeId}{B g:Nat}{k:ah}{v:Value}{hs:List dO}{h:dO}{a:Int}{w w':World}{x:Ending}(c:oN T w B g k v hs)(d:x= .returned (.int .i64 a))(b:a≠0)(e:aj w w'):Fy T B g k v hs h a w x w':=
 ⟨d,v,by rw[aJ b];exact c.ext e,gL.CO e,.inl F⟩
def ajt{k:ah}{h:dO}{s:ah}{I a:Int}{ls:List (ah)}(b:Bf k h.n h.t h.l h.r s=0):CK k [] h s I a ls=if I=0/\a=0/\ls.length=0 then 0 else 12:=by
 unfold CK;rw[aJ (by simp[b])];rfl
def ajs{k:ah}{hs:List dO}{a h:dO}{s:ah}{I b:Int}{ls:List (ah)}{q:Nat}(c:Bf k h.n h.t h.l h.r s=0)(d:hs.length=q+1)(ha:hs[q]? =some a):CK k hs h s I b ls=Em a h I b ls:=by
 unfold CK;rw[aJ (by simp[c])];have:hs.getLast? =some a:=by rw[Uc,d];exact ha
 rw[this]
def V6{k:ah}{hs:List dO}{h:dO}{s:ah}{I a:Int}{ls:List (ah)}(b:Bf k h.n h.t h.l h.r s≠0):CK k hs h s I a ls=Bf k h.n h.t h.l h.r s:=by
 unfold CK;rw[aN b]
def abp{d:Prop}(e:d:=by
 obtain⟨W4,B1,B3,vG⟩:=bT (W3.ext E4) (B1.ext E4) (B3.ext E4) jR;first|clear jR|clear jR E33
 obtain⟨ra,rc,hv,Dw, -,Ah⟩:=j3 W4.row;obtain⟨HV,MP⟩:=aA hv Ah;have zl:=W4.blk.cell' (Kn W4.kl);rw[hv]at zl;obtain⟨n,yL⟩:=aF hs.length;rw[yL]at zl Dw hn;have mD:=O yL;clear hv Ah yL;first
  |have:=qL
   go_upto_region 5 with fail;go_upto_if 28 with fail
  |go_upto_region 6 with fail
   go_upto_if 33 with fail
 go_cut [] (λwx=>N=0/\aj w4 wx)
 ·by_cases hn0:n=0
  case pos=>
   subst hn0;have xF:hs=[]:=qm.1 mD;have cP0:=B3.cell' (i:=0) (v:= .int .i64 I) F;have cP1:=B3.cell' (i:=1) (v:= .int .i64 Zw) F;have cP2:=B3.cell' (i:=2) (v:= .slice pa m c) F;have Bo:N=if I=0/\Zw=0/\m=0 then 0 else 12:=by rw[<-HN.out,xF,ajt vG.out,HM.out]
   have TW:Hid (¬(I=0/\Zw=0/\m=0)->N=12):=O (λh=>by rw[Bo,aJ h]);have qW:Hid ((I=0/\Zw=0/\m=0)->N=0):=O (λh=>by rw[Bo,aN h]);clear Bo xF;by_cases q0:I=0
   case neg=>
    have hN:=TW.out (λh=>q0 h.1);subst hN;have k0:=om q0;have k0b:=bg q0;go_wp2
    (try go_ret)
    exact HR _ bS AJ
   subst q0;by_cases q1:Zw=0
   case neg=>
    have hN:=TW.out (λh=>q1 h.2.1);subst hN;have k1:=om q1;have k1b:=bg q1;go_wp2
    (try go_ret)
    exact HR _ bS AJ
   subst q1;by_cases q2:m=0
   case neg=>
    have hN:=TW.out (λh=>q2 h.2.2);subst hN;have k2:=cO ((0:Int)<(m:Int));have k2b:=cO (0<m);go_wp2
    (try go_ret)
    exact HR _ bS AJ
   subst q2;have hN:=qW.out ⟨F,F,F⟩;go_wp2;go_meet;exact⟨hN,aj.refl _⟩
  case neg=>
   obtain⟨q,rfl⟩:∃q,n=q+1:=⟨n - 1,J⟩;obtain⟨a,ha⟩:∃a,hs[q]? =some a:=⟨hs[q]'(by rw[mD.out];omega),aB⟩;have vF:=O (W4.ok a (f_ ha));have mq:=O (dO.len vF);have F6:N=Em a h I Zw ls:=by rw[<-HN.out,ajs vG.out mD.out ha]
   obtain⟨b,off,vT, -⟩:=MP.jg (by rw[Ga W4.ok,mD.out];omega);subst vT;have um:=O (show d9 w4 (Addr.add ⟨b,off,none⟩ (q*66)) a.v from λj u hu=>by
    have h1:=Vt W4.ok ha;rcases MP.out with h2|⟨b2,o2,he,h2⟩
    ·have h4:a.v=[]:=by rw[<-h1,h2];simp
     rw[h4]at hu;simp at hu
    ·injection he with he;injection he with F8 Ob _;subst F8 Ob;have h3:=h2 (q*66+j) u (by
      rw[<-h1,M8]at hu;split at hu
      ·rw[qY]at hu;exact hu
      ·cases hu)
     rw[eX,eX];rw[show off+q*66+j=off+(q*66+j) by omega];exact h3)
   first
    |have:=qL
     have Yg:=O (λy (e:aj w y)=>aiT a h I Zw ls m c pa y vF vH oJ HM jZ pV (gX.ext e))
    |have Yg:=O (λy (e:aj w y)=>aku a h I Zw ls m c pa y vF vH oJ HM jZ pV (gX.ext e))
   have d0:=cO ((0:Int)<((q+1:Nat):Int));have Zg:=cO (0<q+1);have vU:IntKind.i64.wrap (((q+1:Nat):Int) - 1)=(q:Int):=by rw[fJ _ J];omega
   have aaw:IntKind.i64.wrap (q:Int)=(q:Int):=fJ _ J;have aav:IntKind.i64.wrap ((q:Int)+1 - 1)=(q:Int):=by rw[fJ _ J];omega
   have nV:q<q+1:=J;clear ha;first
    |have:=qL
     go_upto_region 6 with fail
    |go_upto_region 9 with fail
   go_cut [11] (λPz wx=>Pz= .int .i64 (Em a h I Zw ls)/\aj w4 wx)
   ·obtain⟨C,Z,aK,bR⟩:=fK (show bM w4 w4 [] [] w4 from bM.iP (aj.refl _) (dR.none _));have k3:∀w1,C w1->w1.cell? ⟨g,32,none⟩=some (.slice (some ⟨b,off,none⟩) (q+1) rc):=λw1 h1=>by rw[((Z w1).1 h1).base.cell (kN zl)];exact zl
    refine fF λX=> ?_;refine ay 0 ?_;refine ay 1 ?_;refine ay 2 ?_;refine dW 3 (k3) ?_;refine ay 4 ?_;refine ay 5 ?_;first
     |have:=qL
      refine aV 6 F (aY F (λw1 _=>gD (i:=q) F F F underlying86 Gx nV w1)) ?_;refine aV 7 F (aY F (λw1 h=>cB F F (um.ext ((Z w1).1 h).base) iW mq)) ?_;refine aV 8 F (aY F (λw1 h=>cB F F (d_ (B1.ext ((Z w1).1 h).base) (Oc vH)) iW Df)) ?_;refine aV 9 F (aY F (λw1 h=>cB F F (d_ (off:=0) (n:=3) (xs:=sS I Zw (.slice pa m c)) (B3.ext ((Z w1).1 h).base) F) yB F)) ?_
     |refine ay 6 ?_
      refine dW 7 (k3) ?_;refine ay 8 ?_;refine ay 9 ?_;refine aV 10 F (aY F (λw1 _=>gD (i:=q) F F F underlying86 Gx nV w1)) ?_;refine aV 11 F (aY F (λw1 h=>cB F F (um.ext ((Z w1).1 h).base) iW mq)) ?_;refine aV 12 F (aY F (λw1 h=>cB F F (d_ (B1.ext ((Z w1).1 h).base) (Oc vH)) iW Df)) ?_;refine aV 13 F (aY F (λw1 h=>cB F F (d_ (off:=0) (n:=3) (xs:=sS I Zw (.slice pa m c)) (B3.ext ((Z w1).1 h).base) F) yB F)) ?_
    generalize drew w4=y0 at X⊢;first
     |have:=qL
      refine aT 10 ?_
     |refine aT 14 ?_
    intro Q' hQ;go_wp2_with fail;refine(Yg y0 (AJ.ext ((Z y0).1 X).base)).mono ?_;rintro e0 y1 ⟨rfl,e1⟩;have dB:=aK _ _ X e1;go_wp2_with fail;refine hQ _ _ dB ?_;clear hQ Q' X e1;have X:=dB;clear dB;refine aL ?_;first
     |have:=qL
      refine aT 11 ?_
     |refine aT 15 ?_
    intro Q' hQ;go_wp2_with (fail);refine hQ _ _ X ?_;clear hQ Q';refine aL ?_;refine dP ?_;go_wp2;go_meet;exact⟨F,((Z _).1 X).base⟩
   obtain⟨rfl,e5⟩:=hcut;obtain⟨MS,E5⟩:=aA (AJ.ext e5) e5;rw[<-F6];by_cases N_:N=0
   case neg=>
    have d1:=om N_;have d2:=bg N_;clear F6;go_wp2
    (try go_ret)
    exact HR _ N_ MS
   case pos=>
    have d1:(N != 0)=false:=by simp;exact N_
    clear F6;go_wp2;go_meet;exact⟨N_,E5⟩
 obtain⟨rfl,e5⟩:=hcut;obtain⟨w5,dI⟩:=aF wc;rw[dI]at e5⊢;obtain⟨W5,B1,MS⟩:=aW (W4.ext e5) (B1.ext e5) (AJ.ext e5);clear dI wc e5 W4 W3 MP zl HR HN vG oJ HM gX B2 B3 E3 E4 AJ;have zl:=W5.blk.cell' (Kn W5.kl);rw[HV.out,mD.out]at zl;have Ym:=O W5.row;rw[HV.out,mD.out]at Ym;first
  |have:=qL
   go_upto_region 11 with fail
  |go_upto_region 12 with fail
 obtain⟨C,Z,aK,bR⟩:=fK (show bM w5 w5 [] [] w5 from bM.iP (aj.refl _) (dR.none _));have k4:∀w1,C w1->w1.cell? ⟨g,32,none⟩=some (.slice ra n rc):=λw1 h1=>by rw[((Z w1).1 h1).base.cell (kN zl)];exact zl
 refine nK (W:=[7,10]) λX=> ?_;refine dL 0 ?_;refine dL 1 ?_;refine dL 2 ?_;refine dL 3 ?_;refine kK 4 (k4) ?_;refine l8 5 F (aY F (λw1 h=>cB F F (d_ (B1.ext ((Z w1).1 h).base) (Oc vH)) iW Df)) ?_;have UZ:aj w5 (drew w5):=(aj.refl w5).drew;generalize drew w5=y0 at X UZ⊢;refine i_ 6 ?_;intro Q' hQ;go_wp2_with (refine Mw Ro bS F F F Df ?_);refine hQ _ _ (aK _ _ X ((aj.refl _).alloc _)) ?_;clear hQ Q';generalize iF:alloc y0 _=y1;have Br:aM y1 (some ⟨y0.heap.size,0,none⟩) h.v:=by rw[<-iF];exact aM.iM (au.bK (T:=46) F F)
 have Zl:aj w5 y1:=by rw[<-iF];exact UZ.alloc _
 obtain⟨ML,MJ⟩:=aA Br Zl;clear iF Br Zl UZ X aK Z bR k4;refine aL ?_;obtain⟨Yn,Yd⟩:=aA (iy Ym MJ) (show B<=y1.heap.size from dJ hB (dJ MS.size MJ.size));refine lK 7 ?_;intro Q' hQ;go_wp2_with (refine yY Ro F _ _ F B (m:=1) (news:=h.v) F F Yn (by rw[Df.out]) (aQ _) (by intro h;cases h) ML (F9 _ _ _ _) J J Yd ?_);intro v2 y2 oC ou nC;obtain⟨WE,rc2,nE, -, -, -⟩:=j3 oC;have Yc:=O ((W5.blk.ext MJ).besides Yn ou bS);have TT:Hid (gL (λb=>b=g∨v.ownBlock=some b) w y2):=O ((gL.CO (MS.ext MJ)).same (gL.ajy ou (λb hb=> .inr (by rw[HV.out,mD.out];exact hb))));have r_:=O oC;subst nE;have Fv:=O nC;refine hQ _ _ trivial ?_;clear hQ Q' oC ou nC Yn Yd ML;refine aL ?_;refine dL 8 ?_;refine dL 9 ?_;refine lK 10 ?_;intro Q' hQ;go_wp2_with (refine rR F _ _ _ F F F Yc al1 F (by rw[anR W5.kl];decide) F ?_);intro y3 b3 u3;rw[anS W5.kl]at b3;obtain⟨dV,x9,HM3⟩:=aW b3 (JZ r_ u3 Yc bS) (TT.same (gL.RV u3 (.inl F)));refine hQ _ _ trivial ?_;clear hQ Q' b3 u3;refine aL ?_;refine n_ ?_;go_wp2
 (try go_ret)
 refine⟨F,.slice WE (n+1) rc2,?_,HM3,?_⟩
 ·rw[aN F];refine⟨dV,?_,W5.kl,λx hx=> ?_⟩
  ·rw[ahL,bQ,Jb,mD.out];exact x9
  ·rcases kU.1 hx with hx|hx
   ·exact W5.ok x hx
   ·rw[nu.1 hx];exact vH
 ·rcases Fv.out with h1|h1
  ·exact .inl (by rw[HV.out,mD.out];exact h1)
  ·exact .inr ⟨_,h1,dJ MS.size MJ.size⟩):d:=e
def VK(B g:Nat)(k:ah)(v:Value)(hs:List dO)(h:dO)(s:ah)(I Zw:Int)(ls:List (ah))(m c:Nat)(pa:aO)(w:World)(i:oN 130 w B g k v hs)(hB:B<=w.heap.size)(q:h.Ok)(r:s.length=64)(A:iH ls)(E:ls.length=m)(jZ:m<=c)(pV:c<=9223372036854775807)(D:aM w pa (dH ls))(hn:hs.length<=1000):
 Calls prog 32 #[.pointer (some ⟨g,0,none⟩),.agg h.v.toArray,.agg (s.map Y).toArray,.agg (sS I Zw (.slice pa m c)).toArray] w (Fy 130 B g k v hs h (CK k hs h s I Zw ls) w):=by
 obtain⟨N,hN⟩:=aF (CK k hs h s I Zw ls);rw[hN];obtain⟨HN,M,vH,Df,L,y,K,oJ⟩:=mQ hN i q (dO.len q) r (show(s.map Y).length=64 by rw[aI];exact r) (show(k.map Y).length=32 by rw[aI];exact i.kl) A;obtain⟨HM,gX⟩:=aA E D;have HR:Hid (∀w',N≠0->aj w w'->Fy 130 B g k v hs h N w (.returned (.int .i64 N)) w'):=O (λw' P e=>Fy.no i F P e);clear hN i q r A E D;go_enter func32,ntmps32;go_upto_region 1 with fail;generalize j:alloc w _=w1;have z:=dX j h.v 46;have e1:=dS j;generalize l:alloc w1 _=H;have b2:=dX l (s.map Y) 78;have o:=dS l;generalize t:alloc H _=b;have d:=dS t;obtain⟨B1,B2,B3,E3⟩:=bT (z.ext (o.ext d)) (b2.ext d) (dX t (sS I Zw (.slice pa m c)) 61) (e1.ext (o.ext d));have u:w1.heap.size=w.heap.size+1:=by rw[<-j];exact jf _ _
 have G:H.heap.size=w.heap.size+1+1:=by rw[<-u,<-l];exact jf _ _
 rw[u]at B2;rw[G]at B3;clear j l t z b2 e1 o d u G;obtain⟨R,f⟩:=aF w.heap.size;have S:=O f;rw[f]at B1 B2 B3
 conv=>rw[f]
 clear f;have W3:=O (M.ext E3);go_cut [9] (λQ wx=>Q= .int .i64 (Bf k h.n h.t h.l h.r s)/\aj b wx)
 ·obtain⟨C,Z,aK,bR⟩:=fK (show bM b b [] [] b from bM.iP (aj.refl _) (dR.none _));refine fF λX=> ?_;refine ay 0 ?_;refine ay 1 ?_;refine ay 2 ?_;refine aV 3 F (aY F (λw1 h=>cB F F (d_ (W3.blk.ext ((Z w1).1 h).base) (aeA W3.kl)) Gh K)) ?_;refine aV 4 F (aY F (λw1 h=>cB F F (d_ (B1.ext ((Z w1).1 h).base) (Oc vH)) iW Df)) ?_;refine aV 5 F (aY F (λw1 h=>cB F F (d_ (off:=0) (n:=64) (B2.ext ((Z w1).1 h).base) (by rw[jP,gY (by rw[y.out];exact aQ _)])) pK y)) ?_;generalize drew b=y0 at X⊢;refine aT 6 ?_;intro Q' hQ;go_wp2_with fail;refine(afW k h.n h.t h.l h.r s y0 W3.kl vH.l vH.r L).mono ?_;rintro e0 y1 ⟨rfl,e1⟩;have dB:=aK _ _ X e1;go_wp2_with fail;refine hQ _ _ dB ?_;clear hQ Q' X e1;have X:=dB;clear dB;refine aL ?_;refine aT 7 ?_;intro Q' hQ;go_wp2_with (fail);refine hQ _ _ X ?_;clear hQ Q';refine aL ?_;refine dP ?_;go_wp2;go_meet;exact⟨F,((Z _).1 X).base⟩
 obtain⟨rfl,p⟩:=hcut;obtain⟨w4,dI⟩:=aF wc;rw[dI]at p⊢;have E4:=O p;clear dI wc p;obtain⟨x,jR⟩:=aF (Bf k h.n h.t h.l h.r s);rw[jR];have AJ:=O (E3.ext E4);by_cases a:x=0
 case neg=>
  have F6:N=x:=by rw[<-HN.out,V6 (by rw[jR];exact a),jR]
  subst F6;have d1:=om a;have d2:=bg a;go_wp2
  (try go_ret)
  exact HR _ a AJ
 subst a;have qL:=trivial;exact abp
def ahE:prog.eqGuardType prog.depth 78=false:=aC
def WM(B g:Nat)(k:ah)(v:Value)(hs:List dO)(h:dO)(s:ah)(I Zw:Int)(ls:List (ah))(m c:Nat)(pa:aO)(w:World)(o:oN 132 w B g k v hs)(hB:B<=w.heap.size)(E:h.Ok)(G:s.length=64)(T:iH ls)(ab:ls.length=m)(jZ:m<=c)(pV:c<=9223372036854775807)(W:aM w pa (dH ls))(hn:hs.length<=1000):
 Calls prog 33 #[.pointer (some ⟨g,0,none⟩),.agg h.v.toArray,.agg (s.map Y).toArray,.agg (sS I Zw (.slice pa m c)).toArray] w (Fy 132 B g k v hs h (CK k hs h s I Zw ls) w):=by
 obtain⟨N,hN⟩:=aF (CK k hs h s I Zw ls);rw[hN];obtain⟨HN,ai,vH,Df,ag,Q,af,oJ⟩:=mQ hN o E (dO.len E) G (show(s.map Y).length=64 by rw[aI];exact G) (show(k.map Y).length=32 by rw[aI];exact o.kl) T;obtain⟨HM,gX⟩:=aA ab W;have HR:Hid (∀w',N≠0->aj w w'->Fy 132 B g k v hs h N w (.returned (.int .i64 N)) w'):=O (λw' al e=>Fy.no o F al e);clear hN o E G T ab W;go_enter func33,ntmps33;go_upto_region 1 with fail;generalize p:alloc w _=w1;have R:=dX p h.v 46;have e1:=dS p;generalize q:alloc w1 _=ae;have b2:=dX q (s.map Y) 78;have u:=dS q;generalize H:alloc ae _=an;have i:=dS H;obtain⟨B1,B2,B3,E3⟩:=bT (R.ext (u.ext i)) (b2.ext i) (dX H (sS I Zw (.slice pa m c)) 61) (e1.ext (u.ext i));have K:w1.heap.size=w.heap.size+1:=by rw[<-p];exact jf _ _
 have ad:ae.heap.size=w.heap.size+1+1:=by rw[<-K,<-q];exact jf _ _
 rw[K]at B2;rw[ad]at B3;clear p q H R b2 e1 u i K ad;obtain⟨ao,j⟩:=aF w.heap.size;have ap:=O j;rw[j]at B1 B2 B3
 conv=>rw[j]
 clear j;have W3:=O (ai.ext E3);go_wp2_with (refine dA F 46 (.tmp 5) F F B1 iW Df ?_);refine(WX h.n h.t h.l h.r an vH.l vH.r).mono ?_;rintro x f ⟨vo,rfl, -,a⟩;obtain⟨E33,W3,B1,B2,B3,E3⟩:=jW a (W3.ext a) (B1.ext a) (B2.ext a) (B3.ext a) (E3.ext a);clear a;obtain⟨t,l⟩:=aF (mV h.n h.t);rw[l];have b:Bf k h.n h.t h.l h.r s=if t=0 then(if Iz k h.n h.t h.l h.r=s then 0 else 13)else 4:=by unfold Bf;rw[l]
 by_cases U:t=0
 case neg=>
  have h4:t=4:=by rcases Vr h.n h.t with h1|h1<;>omega
  rw[aJ U]at b;subst h4;have F6:N=4:=by rw[<-HN.out,V6 (by rw[b];decide),b]
  subst F6;go_wp2
  (try go_ret)
  exact HR _ bS E3
 subst U;rw[aN F]at b;obtain⟨d,A⟩:=aF (Iz k h.n h.t h.l h.r);have P:=O (λy=>acA k h.n h.t h.l h.r y W3.kl vH.l vH.r l);have V:d.length=64:=by rw[<-A];exact J_ _ _
 rw[A]at b P;have M:=O (λy=>xI underlying78 d s V ag y);obtain⟨S,D⟩:=aF ((!(d==s)));rw[D]at M;obtain⟨r,L⟩:=aA b D;clear b D A V l;go_upto_region 4 with fail;go_cut [27] (λam wx=>am= .bool S/\aj f wx)
 ·obtain⟨C,Z,aK,bR⟩:=fK (show bM f f [] [] f from bM.iP (aj.refl _) (dR.none _));refine fF λX=> ?_;refine ay 0 ?_;refine ay 1 ?_;refine ay 2 ?_;refine aV 3 F (aY F (λw1 h=>cB F F (d_ (W3.blk.ext ((Z w1).1 h).base) (aeA W3.kl)) Gh af)) ?_;refine aV 4 F (aY F (λw1 h=>cB F F (d_ (B1.ext ((Z w1).1 h).base) (Oc vH)) iW Df)) ?_;refine aV 6 F (aY F (λw1 h=>cB F F (d_ (off:=0) (n:=64) (B2.ext ((Z w1).1 h).base) (by rw[jP,gY (by rw[Q.out];exact aQ _)])) pK Q)) ?_;generalize drew f=y0 at X⊢;refine aT 5 ?_;intro Q' hQ;go_wp2_with fail;refine(P y0).mono ?_;rintro e0 y1 ⟨rfl,e1⟩;have dB:=aK _ _ X e1;go_wp2_with fail;refine hQ _ _ dB ?_;clear hQ Q' X e1;have X:=dB;clear dB;refine aL ?_;refine aV 7 F (aY F (λw1 _=>pQ F F F ahE (λw=>M w) w1)) ?_;refine dP ?_;go_wp2;go_meet;exact⟨F,((Z _).1 X).base⟩
 obtain⟨rfl,z⟩:=hcut;obtain⟨w4,dI⟩:=aF wc;rw[dI]at z⊢;have E4:=O z;clear dI wc z;have AJ:=O (E3.ext E4);cases S
 case true=>
  have ac:d≠s:=by have:=L.out;simpa using this
  have F6:N=13:=by rw[<-HN.out,V6 (by rw[r.out,aJ ac];decide),r.out,aJ ac]
  subst F6;go_wp2
  (try go_ret)
  exact HR _ bS AJ
 have aa:d=s:=by have:=L.out;simpa using this
 have jR:Bf k h.n h.t h.l h.r s=0:=by rw[r.out,aN aa]
 clear aa;exact abp
noncomputable def IB(hs:List dO)(b:Int)(Xo:ah)(I a:Int)(ls:List (ah)):Int:=
 match hs.getLast? with
 |none=>10
 |some h=>if(mM Xo 0).2.2≠0 then(mM Xo 0).2.2 else if(mM Xo 0).2.1≠(Xo.length:Int)then 2 else if(mM Xo 0).1.num≠b then 9 else if I≠b∨a≠h.n then 12 else OZ h.r (eY 1 Xo) I a ls
def alW(b:Int)(Xo:ah)(I a:Int)(ls:List (ah)):IB [] b Xo I a ls=10:=F
def alV{hs:List dO}{h:dO}{q:Nat}(c:hs.length=q+1)(ha:hs[q]? =some h)(b:Int)(Xo:ah)(I a:Int)(ls:List (ah)):IB hs b Xo I a ls=if(mM Xo 0).2.2≠0 then(mM Xo 0).2.2 else if(mM Xo 0).2.1≠(Xo.length:Int)then 2 else if(mM Xo 0).1.num≠b then 9 else if I≠b∨a≠h.n then 12 else OZ h.r (eY 1 Xo) I a ls:=by
 unfold IB;have:hs.getLast? =some h:=by rw[Uc,c];exact ha
 rw[this]
def ajU{Xo:ah}(h:(mM Xo 0).2.2=0):(mM Xo 0).2.1<=(Xo.length:Int):=by
 obtain⟨q,a, -,b, -⟩:=ajR (p:=0) h;have c:(mM Xo 0).2.1=(q:Int):=a;omega
def aom:(iX 0 0 fT fT).length=66:=F
def ac7{G:Prop}(e:G:=by
 obtain⟨N,hN⟩:=aF (IB hs num Xo I Zw ls);rw[hN];obtain⟨HN,HW,HX,za,H0,oJ,HM,gX⟩:=mQ hN hw hX Vq h0 cu hm hcl;clear hN hw hX h0 Vq cu hm hcl;first
  |go_enter func34,ntmps34
   have qL:=trivial
  |go_enter func35,ntmps35
 go_upto_region 1 with fail;generalize ji:alloc w _=w3;have b3:=dX ji (sS I Zw (.slice pa m pc)) 61;obtain⟨B3,E3⟩:=aA b3 (dS ji);clear ji b3;generalize w.heap.size=G at*;have W3:=O (HW.ext E3);obtain⟨ra,rc,hv,Dw, -,Ah⟩:=j3 W3.row;obtain⟨HV,MP⟩:=aA hv Ah;have zl:=W3.blk.cell' (Kn W3.kl);rw[hv]at zl;obtain⟨nh,yL⟩:=aF hs.length;rw[yL]at zl Dw hnh;have mD:=O yL;clear hv Ah yL;by_cases hn0:nh=0
 case pos=>
  subst hn0;have xF:hs=[]:=qm.1 mD;have Bo:N=10:=by rw[<-HN.out,xF,alW]
  subst Bo;go_wp2
  (try go_ret)
  exact⟨F,E3⟩
 case neg=>
 obtain⟨q,rfl⟩:∃q,nh=q+1:=⟨nh - 1,J⟩;obtain⟨h,ha⟩:∃a,hs[q]? =some a:=⟨hs[q]'(by rw[mD.out];omega),aB⟩;have vF:=O (W3.ok h (f_ ha));obtain⟨mq,vI⟩:=aA (dO.len vF) (HN.symm.trans (alV mD ha num Xo I Zw ls));obtain⟨b,off,vT, -⟩:=MP.jg (by rw[Ga W3.ok,mD.out];omega);subst vT;have um:=O (show d9 w3 (Addr.add ⟨b,off,none⟩ (q*66)) h.v from λj u hu=>by
  have h1:=Vt W3.ok ha;rcases MP.out with h2|⟨b2,o2,he,h2⟩
  ·have h4:h.v=[]:=by rw[<-h1,h2];simp
   rw[h4]at hu;simp at hu
  ·injection he with he;injection he with F8 Ob _;subst F8 Ob;have h3:=h2 (q*66+j) u (by
    rw[<-h1,M8]at hu;split at hu
    ·rw[qY]at hu;exact hu
    ·cases hu)
   rw[eX,eX];rw[show off+q*66+j=off+(q*66+j) by omega];exact h3)
 have d0:(((q+1:Nat):Int)==0)=false:=by simp;omega
 have Zg:((q:Int)+1==0)=false:=by simp;omega
 have vU:IntKind.i64.wrap (((q+1:Nat):Int) - 1)=(q:Int):=by rw[fJ _ J];omega
 have aaw:IntKind.i64.wrap (q:Int)=(q:Int):=fJ _ J;have aav:IntKind.i64.wrap ((q:Int)+1 - 1)=(q:Int):=by rw[fJ _ J];omega
 have nV:q<q+1:=J;clear ha HN;go_upto_region 3 with fail;go_cut [9] (λv9 wx=>∃g9,v9= .pointer (some ⟨g9,0,none⟩)/\au wx g9 h.v 46/\aj w3 wx)
 ·obtain⟨C,Z,aK,bR⟩:=fK (show bM w3 w3 [] [] w3 from bM.iP (aj.refl _) (dR.none _));have k3:∀w1,C w1->w1.cell? ⟨g,32,none⟩=some (.slice (some ⟨b,off,none⟩) (q+1) rc):=λw1 h1=>by rw[((Z w1).1 h1).base.cell (kN zl)];exact zl
  refine fF λX=> ?_;refine ay 0 ?_;refine ay 1 ?_;refine ay 2 ?_;refine dW 3 (k3) ?_;refine ay 4 ?_;refine ay 5 ?_;refine ay 6 ?_;refine dW 7 (k3) ?_;refine ay 8 ?_;refine ay 9 ?_;refine aV 10 F (aY F (λw1 _=>gD (i:=q) F F F underlying86 Gx nV w1)) ?_;refine aV 11 F (aY F (λw1 h=>cB F F (um.ext ((Z w1).1 h).base) iW mq)) ?_;generalize drew w3=y0 at X⊢;refine aT 12 ?_;intro Q' hQ;go_wp2_with fail;refine hQ _ _ (aK _ _ X ((aj.refl _).alloc _)) ?_;clear hQ Q';generalize iF:alloc y0 _=y1;have e01:aj w3 y1:=by rw[<-iF];exact((Z y0).1 X).base.alloc _
  have BZ:=O (dX iF (iX 0 0 fT fT) 46);have dB:C y1:=by rw[<-iF];exact aK _ _ X ((aj.refl _).alloc _)
  have b_:=((Z y0).1 X).base.size;clear iF X;refine aL ?_;refine aT 13 ?_;intro Q' hQ;go_wp2_with (refine aZ F _ _ _ F F F BZ iW aom (xs:=h.v) mq (F9 _ _ _ _) ?_);intro y2 b2 u2;have mJ:C y2:=(Z y2).2 (((Z y1).1 dB).upd u2 b_ (aQ _));go_wp2_with fail;refine hQ _ _ mJ ?_;clear hQ Q';have B9:=O b2;have X:=mJ;clear mJ dB b2 u2;refine aL ?_;refine dP ?_;go_wp2;go_meet;exact⟨_,F,B9,((Z _).1 X).base⟩
 obtain⟨g9,rfl,b9,e4⟩:=hcut;obtain⟨w4,dI⟩:=aF wc;rw[dI]at b9 e4⊢;obtain⟨B9,E4,B3⟩:=aW b9 (E3.ext e4) (B3.ext e4);clear dI wc b9 e4 W3 MP um zl E3 HW vU aav aaw nV d0 Zg hn0;go_wp2_with fail;first|refine(ai8 Xo a n c 0 w4 HX hnc J hc (za.ext E4)).mono ?_|refine(ak2 Xo a n c 0 w4 HX hnc J hc (za.ext E4)).mono ?_
 rintro x w5 ⟨r,rfl,aau,Bw,e5⟩;obtain⟨oQ,xY,E5,B9,B3,rY⟩:=jW (aR.len aau.1) Bw (E4.ext e5) (B9.ext e5) (B3.ext e5) (ajU (Xo:=Xo));obtain⟨PE,eU⟩:=aF (mM Xo 0);rw[eU]at xY rY vI⊢;obtain⟨PX,pq,pe⟩:=PE;clear aau Bw e5 eU;go_upto_region 5 with(refine aZ F _ (.tmp 10) _ F F F (au.bK (vs:=gB.v) F F) eZ iA oQ (nQ r) ?_);intro w6 b6 u6;have e6:aj w5 w6:=u6.ext ((aj.refl _).alloc _) (aQ _);obtain⟨E6,B9,B3,B6⟩:=bT (E5.ext e6) (B9.ext e6) (B3.ext e6) b6;clear b6 u6 e6;have cN:=B6.cell' (i:=0) (aR.kV r);have cI:=B3.cell' (i:=0) (v:= .int .i64 I) F;have cZ:=B3.cell' (i:=1) (v:= .int .i64 Zw) F;have cH:=B9.cell' (i:=0) (v:= .int .i64 h.n) F;have zx:r.num=PX.num:=lq lX.num xY;rw[zx]at cN;obtain⟨pn,Rv⟩:=aF PX.num;obtain⟨hn',Oh⟩:=aF h.n;rw[HX.out]at rY vI
 (try dsimp only at rY)
 (try dsimp only at vI)
 rw[Rv,Oh]at vI;rw[Rv]at cN;rw[Oh]at cH;clear zx Rv Oh;by_cases h1:pe=0
 case neg=>
  have hN:=vI.out;rw[aN h1]at hN;subst hN;have d1:=om h1;have NI:=bg h1;go_wp2
  (try go_ret)
  exact⟨F,E6⟩
 subst h1;have iY:=rY.out F;by_cases h2:pq=(n:Int)
 case neg=>
  have hN:=vI.out;rw[aJ aB,aN h2]at hN;subst hN;have d2:=cO (pq<(n:Int));have Jw:(pq != (n:Int))=true:=by simp;exact h2
  have d2c:=bg h2;go_wp2
  (try go_ret)
  exact⟨F,E6⟩
 subst h2;have d2:=bU ((n:Int)<(n:Int));have Jw:((n:Int) != (n:Int))=false:=aB;by_cases h3:pn=num
 case neg=>
  have hN:=vI.out;rw[aJ aB,aJ aB,aN h3]at hN;subst hN;have d3:=om h3;have NJ:=bg h3;go_wp2
  (try go_ret)
  exact⟨F,E6⟩
 subst h3;have d3:(pn != pn)=false:=aB;by_cases h4:I=pn
 case neg=>
  have hN:=vI.out;rw[aJ aB,aJ aB,aJ aB,aN (.inl h4)]at hN;subst hN;have d4:=om h4;have d4b:=bg h4;go_wp2
  (try go_ret)
  exact⟨F,E6⟩
 subst h4;by_cases h5:Zw=hn'
 case neg=>
  have hN:=vI.out;rw[aJ aB,aJ aB,aJ aB,aN (.inr h5)]at hN;subst hN;have d5:=om h5;have NK:=bg h5;go_wp2
  (try go_ret)
  exact⟨F,E6⟩
 subst h5;have d5:(Zw != Zw)=false:=aB;have Rh:=vI.out;rw[aJ aB,aJ aB,aJ aB,aJ aB]at Rh;obtain⟨IZ,zO⟩:=aA Rh (show(h.r.map Y).length=32 by rw[aI];exact vF.r);first
  |clear Rh vI rY iY oQ
   go_wp2_with fail;refine(aiL Xo a n c w6 HX J hnc hc H0 (za.ext E6)).mono ?_;rintro x w7 ⟨rfl,e7⟩
  |clear Rh vI rY iY oQ
 have gI:=O (nJ 1 Xo);obtain⟨S,hS⟩:=aF (eY 1 Xo);first
  |rw[hS]at gI IZ⊢
   obtain⟨uD,E7⟩:=aA (show(S.map Y).length=32 by rw[aI];exact gI) (E6.ext e7)
  |have fH:=O (λy (e:aj w y)=>ach Xo a n c y HX J (za.ext e))
   rw[hS]at gI IZ fH;have uy:=O (λy (e:aj w y)=>ak5 S I Zw ls m pc pa y gI oJ HM jZ (gX.ext e));obtain⟨RB,Ri⟩:=aF (zD S I Zw ls);have Vp:RB.1.length=32:=by rw[<-Ri];exact akS S I Zw ls gI
   have Vo:N=if RB.2=0 then(if RB.1==h.r then 0 else 12)else RB.2:=by rw[IZ.out,<-Ri];rfl
   rw[Ri]at uy;obtain⟨ro,re⟩:=RB;obtain⟨uz,ae2⟩:=aA (show(ro.map Y).length=32 by rw[aI];exact Vp) (show ro.length=32 from Vp)
   (try dsimp only at Vo)
   have wS:=O Vo;clear hS Ri Vo Vp;go_upto_region 13 with fail;go_cut [12,13] (λTz PD wx=>∃Et,PD= .pointer (some ⟨Et,0,none⟩)/\Tz= .int .i64 re/\au wx Et (ro.map Y) 31/\aj w6 wx)
   ·obtain⟨C,Z,aK,bR⟩:=fK (show bM w6 w6 [] [] w6 from bM.iP (aj.refl _) (dR.none _));refine fF λX=> ?_;refine ay 0 ?_;refine aV 2 F (aY F (λw1 h=>cB F F (d_ (off:=0) (n:=3) (xs:=sS I Zw (.slice pa m pc)) (B3.ext ((Z w1).1 h).base) F) yB F)) ?_;generalize drew w6=y0 at X⊢;refine GU (B:=World.heap w6 |>.size) (A:=7) (d:=13) (T:=31) (vs:=(replicate 32 (.int .u8 0))) (D:=C) undef F aK (λ_ h=>h) (λ_ h=>((Z _).1 h).kept.1) X ?_;try dsimp only
    refine dY ?_;refine rT 1 (β:=Unit) (λ_=> .agg (S.map Y).toArray) (λ_ _=>True) F F F F (λ_ _=>rfl) aC aC aC F (λ_ _=>mF) ?Wx ?step1 ?WK
    case Wx=>exact λ_ _ _ _ _=>trivial
    case step1=>
     intro x w1 hD Q' hQ;have e1:=((Z w1).1 hD).base;clear X;go_wp2_with fail;refine(fH w1 (E6.ext e1)).mono ?_;rintro e w2 ⟨rfl,e2⟩;go_wp2_with fail;exact hQ () _ e2 trivial
    case WK=>
    rintro⟨⟩;refine aL ?_;refine rT 3 (β:=Unit) (λ_=>IG (ro,re)) (λ_ _=>True) F F F F (λ_ _=>rfl) aC aC aC F (λ_ _=>mF) ?J2 ?Kh ?J3
    case J2=>exact λ_ _ _ _ _=>trivial
    case Kh=>
     intro x w1 hD Q' hQ;have e1:=((Z w1).1 hD.1).base;clear X;go_wp2_with fail;refine(uy w1 (E6.ext e1)).mono ?_;rintro e w2 ⟨rfl,e2⟩;go_wp2_with fail;exact hQ () _ e2 trivial
    case J3=>
    rintro⟨⟩;refine aL ?_;have Ii:IG (ro,re)= .tuple #[.agg (ro.map Y).toArray,.int .i64 re]:=F;rw[Ii];clear Ii;refine yI 4 ?_;refine yI 5 ?_;refine yI 6 ?_;refine GR F F F (λ_ _=>rfl) aC (λ_ _=>mF) ?_;rintro b2 Kl ⟨⟨sJ, -⟩, -⟩ lb hb;obtain⟨Kw,uo⟩:=aA hb ((Z Kl).1 sJ);refine aT 8 ?_;intro Q' hQ;go_wp2_with (refine aZ F _ _ _ F F F Kw bf aB (xs:=ro.map Y) uz (dw ro) ?_);intro y2 b3 u3;have pU:=bM.upd uo u3 lb (aQ _);refine hQ _ _ ((Z y2).2 pU) ?_;have BY:=O b3;have EY:=O pU.base;clear hQ Q' u3 b3 sJ hb;have X:=(Z y2).2 pU;refine aL ?_;refine aT 9 ?_;intro Q' hQ;go_wp2_with (fail);refine hQ _ _ X ?_;clear hQ Q';refine aL ?_;refine dP ?_;unfold DJ;go_wp2;go_meet;exact⟨_,F,F,BY,EY⟩
   obtain⟨Et,rfl,rfl,El,e7⟩:=hcut;obtain⟨w7,dI⟩:=aF wc;rw[dI]at El e7⊢;obtain⟨y8,GY⟩:=aA El (E6.ext e7)
 have B9:=O (B9.ext e7);first
  |have:=qL
   have B3:=O (B3.ext e7);clear e7 hS;go_upto_region 14 with(refine aZ F _ (.tmp 13) _ F F F (au.bK (vs:=replicate 32 (.int .u8 0)) F F) bf aB (xs:=S.map Y) uD (dw S) ?_);intro w8 b8 u8;have e8:aj w7 w8:=u8.ext ((aj.refl _).alloc _) (aQ _);obtain⟨E8,B9,B3,B8⟩:=bT (E7.ext e8) (B9.ext e8) (B3.ext e8) b8;clear b8 u8 e8;have vJ:=O (show d9 w8 ⟨g9,34,none⟩ (h.r.map Y)from d_ B9 (Rq vF));go_wp2_with (first|(refine bZ F (cB F F vJ bf zO) ?_)|(refine dA F 31 (.tmp 13) F F B8 bf uD ?_)|(refine dA F 61 (.tmp 7) F F B3 yB F ?_));refine(akj h.r S I Zw ls m pc pa w8 vF.r gI oJ HM jZ (gX.ext E8)).mono ?_;rintro x w9 ⟨rfl,e9⟩;have HX9:=O (E8.ext e9);go_wp2
   (try go_ret)
   exact⟨by rw[IZ.out];rfl,HX9⟩
  |clear dI wc El e7 uy fH
   by_cases h6:re=0
   case neg=>
    have hN:=wS.out;rw[aJ h6]at hN;subst hN;have d6:=om h6;have d6b:=bg h6;go_wp2
    (try go_ret)
    exact⟨F,GY⟩
   subst h6;have hN:=wS.out;rw[aN F]at hN;have vJ:=O (show d9 w7 ⟨g9,34,none⟩ (h.r.map Y)from d_ B9 (Rq vF));obtain⟨bs,sK⟩:=aF ((!(ro==h.r)));have fU:=O (λy=>(xI underlying31 ro h.r ae2 vF.r y).trans (by rw[sK]));cases bs with
   |true=>
    have bW:(ro==h.r)=false:=by simpa using sK
    have Vn:N=12:=by rw[hN,bW];rfl
    clear sK bW hN;subst Vn;go_wp2_with (first|(refine dA F 31 (.tmp 13) F F y8 bf uz ?_)|(refine bZ F (cB F F vJ bf zO) ?_)|(refine bZ F (pQ F F F Q7 (λw=>fU w) _) ?_))
    (try go_ret)
    exact⟨F,GY⟩
   |false=>
    have mW:(ro==h.r)=true:=by simpa using sK
    have Vn:N=0:=by rw[hN,mW];rfl
    clear sK mW hN;subst Vn;go_wp2_with (first|(refine dA F 31 (.tmp 13) F F y8 bf uz ?_)|(refine bZ F (cB F F vJ bf zO) ?_)|(refine bZ F (pQ F F F Q7 (λw=>fU w) _) ?_))
    (try go_ret)
    exact⟨F,GY⟩):G:=e
def VP(B g:Nat)(k:ah)(v:Value)(hs:List dO)(num:Int)(Xo:ah)(a:aO)(n c:Nat)(I Zw:Int)(ls:List (ah))(m pc:Nat)(pa:aO)(w:World)(hw:oN 130 w B g k v hs)(hX:Xo.length=n)(hnc:n<=c)(d:n<=1000000)(hc:c<=9223372036854775807)(h0:a=none->c=0)(Vq:aM w a (Xo.map Y))(cu:iH ls)(hm:ls.length=m)(jZ:m<=pc)(hcl:aM w pa (dH ls))(hnh:hs.length<=1000):
 Calls prog 34 #[.pointer (some ⟨g,0,none⟩),.int .i64 num,.slice a n c,.agg (sS I Zw (.slice pa m pc)).toArray] w λx w'=>x= .returned (.int .i64 (IB hs num Xo I Zw ls))/\aj w w':=ac7
def akS(x:ah)(I a:Int)(ls:List (ah))(b:x.length=32):(zD x I a ls).1.length=32:=by
 unfold zD;split
 ·rfl
 split
 ·rfl
 split
 ·exact JQ _ lU _ _ _ b
 ·rfl
def WY(B g:Nat)(k:ah)(v:Value)(hs:List dO)(num:Int)(Xo:ah)(a:aO)(n c:Nat)(I Zw:Int)(ls:List (ah))(m pc:Nat)(pa:aO)(w:World)(hw:oN 132 w B g k v hs)(hX:Xo.length=n)(hnc:n<=c)(d:n<=1000000)(hc:c<=9223372036854775807)(h0:a=none->c=0)(Vq:aM w a (Xo.map Y))(cu:iH ls)(hm:ls.length=m)(jZ:m<=pc)(hcl:aM w pa (dH ls))(hnh:hs.length<=1000):
 Calls prog 35 #[.pointer (some ⟨g,0,none⟩),.int .i64 num,.slice a n c,.agg (sS I Zw (.slice pa m pc)).toArray] w λx w'=>x= .returned (.int .i64 (IB hs num Xo I Zw ls))/\aj w w':=ac7
section
structure Wd where
 T:TypeId
 B:Nat
 g:Nat
 v:Value
 hs:List dO
structure WQ(w0:World)(k:ah)(f:Fin 4->Wd)(w:World):Prop where
 wa:∀i,oN (f i).T w (f i).B (f i).g k (f i).v (f i).hs
 lo:∀i,w0.heap.size<=(f i).B/\w0.heap.size<=(f i).g/\(f i).B<=w.heap.size
 ap:∀i j,i≠j->(f i).g≠(f j).g/\(f i).v.ownBlock≠some (f j).g/\∀b,(f i).v.ownBlock=some b->(f j).v.ownBlock≠some b
 e:aj w0 w
section
variable {w0 w w':World} {k:ah} {f:Fin 4->Wd}
def WQ.ext(h:WQ w0 k f w)(e:aj w w'):WQ w0 k f w':=⟨λi=>(h.wa i).ext e,λi=>⟨(h.lo i).1,(h.lo i).2.1,dJ (h.lo i).2.2 e.size⟩,h.ap,h.e.ext e⟩
def Wd.put(d:Wd)(v:Value)(hs:List dO):Wd:=⟨d.T,d.B,d.g,v,hs⟩
def Iu(f:Fin 4->Wd)(i:Fin 4)(d:Wd):Fin 4->Wd:=λj=>if j=i then d else f j
def WQ.note(h:WQ w0 k f w)(i:Fin 4){A:dO}{t:Int}{x:Ending}(p:Fy (f i).T (f i).B (f i).g k (f i).v (f i).hs A t w x w'):
 x= .returned (.int .i64 t)/\∃v,WQ w0 k (Iu f i ((f i).put v (if t=0 then(f i).hs++[A]else(f i).hs))) w'/\(v.ownBlock=(f i).v.ownBlock∨∃b,v.ownBlock=some b/\w.heap.size<=b):=by
 obtain⟨E,v,a,m,o⟩:=p;refine⟨E,v,?_,o⟩;generalize (if t=0 then(f i).hs++[A]else(f i).hs)=K at*;refine⟨λj=> ?_,λj=> ?_,λj l C=> ?_,m.LZ h.e λx E g=> ?_⟩
 ·unfold Iu;by_cases d:j=i
  ·rw[aN d];exact a
  ·rw[aJ d];have b:=h.wa j;have q:=h.ap i j (λe=>d e.symm);refine⟨b.blk.mut m (λg=>g.elim (λe=>q.1 e.symm) q.2.1),Wv b.row (λr B=>m.block r (OQ b.row r B) (λg=>g.elim (λe=>(h.ap j i d).2.1 (e▸B)) (λe=>q.2.2 r e B))),b.kl,b.ok⟩
 ·have q:=h.lo j;unfold Iu;by_cases d:j=i
  ·rw[aN d];subst d;exact⟨q.1,q.2.1,dJ q.2.2 m.size⟩
  ·rw[aJ d];exact⟨q.1,q.2.1,dJ q.2.2 m.size⟩
 ·have q:=h.ap j l C;have I:∀y,(f y).g<w.heap.size:=λy=>(h.wa y).blk.lt;have G:∀y b,(f y).v.ownBlock=some b->b<w.heap.size:=λy=>OQ (h.wa y).row;unfold Iu;by_cases d:j=i
  ·subst d;rw[aN F,aJ (λe=>C e.symm)];refine⟨q.1,λe=> ?_,λb u z=> ?_⟩
   ·rcases o with o|⟨b,o,H⟩
    ·exact q.2.1 (o▸e)
    ·have s:v.ownBlock=some (f l).g:=e;rw[o]at s;injection s with s;have:=I l;omega
   ·have n:v.ownBlock=some b:=u;rcases o with o|⟨c,o,H⟩
    ·exact q.2.2 b (o▸n) z
    ·rw[o]at n;injection n with s;have:=G l b z;omega
  ·rw[aJ d];by_cases D:l=i
   ·subst D;rw[aN F];refine⟨q.1,q.2.1,λb u z=> ?_⟩;have n:v.ownBlock=some b:=z;rcases o with o|⟨c,o,H⟩
    ·exact q.2.2 b u (o▸n)
    ·rw[o]at n;injection n with s;have:=G j b u;omega
   ·rw[aJ D];exact q
 ·rcases g with rfl|g
  ·have:=(h.lo i).2.1;omega
  ·have:=yR (h.wa i).row _ g;have:=(h.lo i).1;omega
end
def qf(a b c d:Wd):Fin 4->Wd
 |0=>a
 |1=>b
 |2=>c
 |3=>d
def ab0(a b c d x:Wd):Iu (qf a b c d) 0 x=qf x b c d:=by funext j;match j with|0=>rfl|1=>rfl|2=>rfl|3=>rfl
def ab1(a b c d x:Wd):Iu (qf a b c d) 1 x=qf a x c d:=by funext j;match j with|0=>rfl|1=>rfl|2=>rfl|3=>rfl
def ab2(a b c d x:Wd):Iu (qf a b c d) 2 x=qf a b x d:=by funext j;match j with|0=>rfl|1=>rfl|2=>rfl|3=>rfl
def ab3(a b c d x:Wd):Iu (qf a b c d) 3 x=qf a b c x:=by funext j;match j with|0=>rfl|1=>rfl|2=>rfl|3=>rfl
end
def ame:Go.Shelf.Ren:=⟨fun|6=>145 |15=>176 |14=>201 |28=>223 |29=>224 |20=>259 |21=>260 |22=>261 |23=>262 |24=>263 |25=>264 |26=>265 |27=>266 |46=>319 |47=>286 |48=>287 |49=>320 |50=>321 |57=>343 |n=>n,fun|22=>230 |24=>232 |25=>236 |3=>3 |39=>141 |0=>0 |53=>239 |55=>246 |4=>4 |46=>314 |45=>313 |50=>82 |5=>5 |9=>9 |66=>360 |70=>364 |76=>389 |77=>390 |n=>n,fun|n=>n⟩
def amd:Go.Proofs.SlLaysF0.n6 prog ame:=by repeat' first|kernel_rfl|(intro _;kernel_rfl)|exact UC aC aC|constructor
section
open Go Go.RowKit Go.Shelf Go.Sort
def am7{a:Prop}(e:a:=by
 generalize aG:alloc (alloc w _) _=wA;have xA:=qA aG (x.map Y) 30;have yA:=qQ aG (y.map Y) 30;have eA:mg w wA:=by rw[<-aG];exact((mg.refl w).alloc _).alloc _
 obtain⟨hb,EA⟩:=aA (λn=>YZ x y ⟨w.heap.size,0,none⟩ ⟨w.heap.size+1,0,none⟩ 32 32 32 32 (wA.drewN n) HX HY (QE xA.drewN) (QE yA.drewN)) eA;clear aG xA yA eA;refine qX (S:=λw'=>∃n,w'=wA.drewN n) aC ⟨1,F⟩ (λX=> ?_);refine ay 0 ?_;refine ay 1 ?_;refine aT 2 ?_;intro Q' hQ;obtain⟨nq,Vy⟩:=X;generalize wA.drew=wB at*;subst Vy;go_wp2_with fail;refine(hb nq).mono ?_;rintro e w' ⟨rfl,rfl⟩;go_wp2_with fail;refine hQ _ _ ⟨nq,F⟩ ?_;clear hQ Q';have X:∃n,wA.drewN nq=wA.drewN n:=⟨nq,F⟩;refine aL ?_;refine ay 3 ?_;refine dP ?_;go_wp2;go_ret;exact⟨F,EA.drewN nq⟩):a:=e
def aiS(x y:ah)(w:World)(hx:x.length=32)(a:y.length=32):
 Calls prog 148 #[.agg (x.map Y).toArray,.agg (y.map Y).toArray] w λe w'=>e= .returned (.int .i64 (gZ x y))/\mg w w':=by
 obtain⟨HX,HY⟩:=aA hx a;clear hx a;go_enter func148,ntmps148;go_upto_region 1 with fail;exact am7
def af0(a b:Int)(g:Nat)(w:World)(c:au w g [.int .i64 a,.int .i64 b] 3):
 qR 147 #[.slice (some ⟨g,0,none⟩) 2 2] w (.int .i64 (if a≠0 then a else b)):=by
 have j:=c.cell' (i:=0) F;have k1:=c.cell' (i:=1) F;clear c;by_cases ha:a=0
 ·subst ha;have d:((0:Int) != 0)=false:=F;by_cases c:b=0
  ·subst c;go_enter func147,ntmps147;go_wp2;go_loopw [5,8] (λ_ x wr=>∃i:Nat,i<=2/\x= .int .i64 i/\w=wr) (λ_ x _=>2 - (intOf x).toNat)
   ·exact⟨0,J,F,F⟩
   ·obtain⟨i,f,rfl,rfl⟩:=hrel;rcases(show i=0∨i=1∨i=2 by omega)with rfl|rfl|rfl
    ·go_wp2;go_roundw
     ·exact⟨1,J,by first|rfl|trivial,by first|rfl|trivial⟩
     ·simp[intOf]
    ·go_wp2;go_roundw
     ·exact⟨2,J,by first|rfl|trivial,by first|rfl|trivial⟩
     ·simp[intOf]
    ·go_wp2
     (try go_ret)
     exact⟨F,F⟩
  ·have h:=om c;have e:=bg c;go_enter func147,ntmps147;go_wp2;go_loopw [5,8] (λ_ x wr=>∃i:Nat,i<=1/\x= .int .i64 i/\w=wr) (λ_ x _=>2 - (intOf x).toNat)
   ·exact⟨0,J,F,F⟩
   ·obtain⟨i,f,rfl,rfl⟩:=hrel;rcases(show i=0∨i=1 by omega)with rfl|rfl
    ·go_wp2;go_roundw
     ·exact⟨1,J,by first|rfl|trivial,by first|rfl|trivial⟩
     ·simp[intOf]
    ·go_wp2
     (try go_ret)
     exact⟨F,F⟩
 ·have d:=om ha;have e:=bg ha;rw[aN ha];go_enter func147,ntmps147;go_wp2;go_loopw [5,8] (λ_ x wr=>x= .int .i64 0/\w=wr) (λ_ x _=>2 - (intOf x).toNat)
  ·exact⟨F,F⟩
  ·obtain⟨rfl,rfl⟩:=hrel;go_wp2
   (try go_ret)
   exact⟨F,F⟩
def afZ:∀{a b:ah} (c d:ah),a.length=b.length->gZ (a++c) (b++d)=if gZ a b≠0 then gZ a b else gZ c d:=by
 intro a;induction a with
 |nil=>
  intro b c d h;have:b=[]:=qm.1 h.symm;subst this;rw[UK];rfl
 |cons x a j=>
  intro b c d h;cases b with
  |nil=>simp at h
  |cons y b=>
   have i:a.length=b.length:=by simpa using h
   have f:=j c d i;unfold gZ at f⊢;simp only[cons_append,Lib.compareBytes]at f⊢;by_cases e:x<y
   ·simp[e]
   ·by_cases g:y<x
    ·simp[e,g]
    ·simp only[e,g,Ed];exact f
structure jX where
 r:uP
 ha:r.ask.length=32
 hw:r.who.length=16
instance:Inhabited jX:=⟨⟨uP.zero,F,F⟩⟩
def xq(x:jX):aP:=x.r.v
def QM(x:jX):(xq x).length=50:=by unfold xq uP.v;simp[x.ha,x.hw]
def U3(x:jX):∀v∈xq x,v.oneCell'=true:=by
 intro v a;unfold xq uP.v at a;rcases kU.1 a with h|h
 ·exact dw _ v h
 rcases kU.1 h with h|h
 ·exact dw _ v h
 simp only[gM,lN,lQ]at h;rcases h with rfl|rfl<;>rfl
def FZ(x y:jX):Int:=if gZ x.r.ask y.r.ask≠0 then gZ x.r.ask y.r.ask else gZ x.r.who y.r.who
def Y6(x y:jX):FZ x y=gZ (x.r.ask++x.r.who) (y.r.ask++y.r.who):=(afZ _ _ (x.ha.trans y.ha.symm)).symm
def VT(x y:jX):ltOf FZ x y=Al (x.r.ask++x.r.who) (y.r.ask++y.r.who):=by
 unfold ltOf Al;rw[Y6]
def amP:Sort.SWO (ltOf FZ) where
 irrefl x:=by rw[VT];exact VQ _
 trans x y z h1 h2:=by rw[VT]at*;exact RL h1 h2
 ntrans x y z h1 h2:=by rw[VT]at*;exact VR h1 h2
def YL:jc prog 232 50:=⟨⟨_,underlying232,F⟩,aC⟩
def jX.Ut(x:jX):(x.r.v.drop 0).take 32=x.r.ask.map Y:=by
 unfold uP.v;rw[jP,oo (by rw[aI,x.ha])]
def jX.XQ(x:jX):(x.r.v.drop 32).take 16=x.r.who.map Y:=by
 unfold uP.v;rw[q_ (by rw[aI,x.ha]),oo (by rw[aI,x.hw])]
def akX(x y:jX)(w:World):Calls prog 146 #[.agg (xq x).toArray,.agg (xq y).toArray] w λe w'=>e= .returned (.int .i64 (FZ x y))/\mg w w':=by
 obtain⟨I,K,B,E,D,G,M,P⟩:=mQ (λw=>aiS x.r.ask y.r.ask w x.ha y.ha) (λw=>Sj x.r.who y.r.who w x.hw y.hw) (jX.Ut x) (jX.Ut y) (jX.XQ x) (jX.XQ y) (show(x.r.ask.map Y).length=32 by rw[aI];exact x.ha) (show(y.r.ask.map Y).length=32 by rw[aI];exact y.ha);obtain⟨N,Q,L⟩:=aW (show(x.r.who.map Y).length=16 by rw[aI];exact x.hw) (show(y.r.who.map Y).length=16 by rw[aI];exact y.hw) (show FZ x y=(if gZ x.r.ask y.r.ask≠0 then gZ x.r.ask y.r.ask else gZ x.r.who y.r.who)from F);generalize FZ x y=R at*;generalize gZ x.r.ask y.r.ask=n at*;generalize gZ x.r.who y.r.who=o at*;go_enter func146,ntmps146;go_upto_region 1 with(fail);generalize i:alloc (alloc w _) _=f;have A:Hid (mg w f):=by rw[<-i];exact O (((mg.refl w).alloc _).alloc _)
 obtain⟨p,q⟩:=aA (qA i x.r.v 232) (qQ i y.r.v 232);clear i;obtain⟨C,r⟩:=mP (λw'=>mg f w':World->Prop);have s:∀w',C w'↔mg f w':=λw'=>by rw[r]
 clear r;have a:=O s;clear s;have T:C f:=(a _).2 (mg.refl _);refine qX (S:=C) aC ((a _).2 ((mg.refl _).drewN 1)) (λX=> ?_);refine ay 0 ?_;refine aV 1 F (aY F (λc h=>cB F F (d_ (p.ext ((a c).1 h).ext) B) bf M)) ?_;refine ay 2 ?_;refine aV 3 F (aY F (λc h=>cB F F (d_ (q.ext ((a c).1 h).ext) E) bf P)) ?_;refine ay 5 ?_;refine aV 6 F (aY F (λc h=>cB F F (d_ (p.ext ((a c).1 h).ext) D) eu N)) ?_;refine ay 7 ?_;refine aV 8 F (aY F (λc h=>cB F F (d_ (q.ext ((a c).1 h).ext) G) eu Q)) ?_;generalize f.drew=c at X⊢;refine aT 4 ?_;intro d b;go_wp2_with fail;refine(I c).mono ?_;rintro e v ⟨rfl,t⟩;have j:C v:=(a _).2 (((a _).1 X).trans t);go_wp2_with fail;refine b _ _ j ?_;clear b d X t;refine aL ?_;refine aT 9 ?_;intro d b;go_wp2_with fail;refine(K v).mono ?_;rintro e m ⟨rfl,u⟩;have g:C m:=(a _).2 (((a _).1 j).trans u);go_wp2_with fail;refine b _ _ g ?_;clear b d j u;refine aL ?_;refine aT 10 ?_;intro d b;go_wp2_with fail;refine b _ _ ((a _).2 (((a _).1 g).alloc _)) ?_;clear b d;generalize l:alloc m _=z;have H:=dX l [.int .i64 n,.int .i64 o] 3;have k:C z:=by rw[<-l];exact(a _).2 (((a _).1 g).alloc _)
 clear l g;refine aL ?_;refine aT 11 ?_;intro d b;go_wp2_with fail;refine(af0 n o m.heap.size z H).mono ?_;rintro e U ⟨rfl,rfl⟩;rw[<-L.out];go_wp2_with fail;refine b _ _ k ?_;clear b d;have X:=k;refine aL ?_;refine ay 12 ?_;refine dP ?_;go_wp2;go_ret;exact⟨F,A.trans ((a _).1 k)⟩
def agv:∀a w,(callFunc 146 a).run prog w= .ok (.enter 146 a) w:=enters_of func146 aC F
def amf{w:World}{B n:Nat}{v:Value}{ls:List jX}(c:w.ownsRow B 232 50 v n (je xq ls))(b:ls.length=n)(a:n<4611686018427387904):
 Calls prog 145 #[v,.func (.func 146) #[] #[]] w λx w'=>x= .returned (.tuple #[])/\∃es,es.Perm ls/\es.Pairwise (λx y=>¬FZ y x<0)/\w'.ownsRow B 232 50 v n (je xq es)/\w.grownBy w' v.ownBlock:=
 Xt amd isAgg232 sizeOf232 QM U3 FZ amP _ akX agv c b a
def Zp:wO prog 230 232 50 80:=⟨underlying230,⟨_,_,(gJ Ou).choose_spec.1,(gJ Ou).choose_spec.2.1,(gJ Ou).choose_spec.2.2.1,(gJ Ou).choose_spec.2.2.2,F⟩,bS⟩
end
def QI(a c:Int)(b:ah):ah:=[99,111,117,110,116,32]++Lib.itoa a++[32,116,105,109,101,32]++Lib.itoa c++[32,108,97,115,116,32]++jN b++[10]
def UW(lY:ah):ah:=[102,111,117,110,100,101,114,32]++jN lY++[10]
noncomputable def QJ(rs:List aX):ah:=[112,111,108,105,99,121,32]++jN (eY 0 (qN rs rs.length))++[10]
def Lj(m:ah×bq):ah:=Lib.join ([109,101,109,98,101,114]::jN m.1::m.2.map (·.data.toList)) [32]++[10]
def Li(k:bP):ah:=[107,101,121,32]++jN k.key++[32]++k.label.data.toList++[32]++Lib.itoa k.epoch++[32]++jN k.commit++[32]++Lib.itoa (if k.rev then 1 else 0)++[32]++Lib.itoa k.esc++[32]++jN k.shared++[10]
def Ll(r:ah×(ah×(bq×Int))):ah:=Lib.join ([97,112,112,114,111,118,97,108]::jN r.1::jN r.2.1::Lib.itoa r.2.2.2::r.2.2.1.map (·.data.toList)) [32]++[10]
def C9(A:List (ah×List (ah×(bq×Int)))):List (ah×(ah×(bq×Int))):=A.flatMap λx=>x.2.map λy=>(x.1,y)
noncomputable def Zj(S:fB)(b:List (ah×bq))(a:List bP)(rs:List (ah×(ah×(bq×Int)))):ah:=
 QI S.cnt S.tm S.last++(if 0<S.cnt then UW S.lY else[])++(match S.pol with|none=>[]|some q=>QJ q)++b.flatMap Lj++a.flatMap Li++rs.flatMap Ll
structure Uj(S:fB):Prop where
 m:S.ms.length<=65536
 k:S.ks.length<=65536
 r:(C9 S.av).length<=65536
structure TM(S:fB)(t:ah):Prop where
 ex:∃ms ks rs,ms.Perm S.ms/\ms.Pairwise (λx y=>0<=gZ y.1 x.1)/\ks.Perm (S.ks.map Prod.snd)/\ks.Pairwise (λx y=>0<=gZ y.key x.key)/\rs.Perm (C9 S.av)/\
  rs.Pairwise (λx y=>0<=gZ (y.1++y.2.1) (x.1++x.2.1))/\t=Zj S ms ks rs
def aaL(x:ah)(l:List (ah))(a:Nat)(b:∀y∈l,y.length<=a):(Lib.join (x::l) [32]).length<=x.length+l.length*(a+1):=by
 induction l generalizing x with
 |nil=>simp[Lib.join]
 |cons y l d=>
  have f:=d y (λz c=>b z (yg _ c));have g:=b y aB;have e:Lib.join (x::y::l) [32]=x++[32]++Lib.join (y::l) [32]:=by simp[Lib.join]
  rw[e];simp only[bQ,iU,sD,Nat.succ_mul,Nat.add_mul]at*;omega
def amH(s:ByteArray):bN s.data.toList=s:=by
 apply KQ;simp[bN]
section
section
variable {K V:Type} [DecidableEq K]
def ac4(hs:List (K×V))(k:K)(v:V):(gF hs k v).length<=hs.length+1:=by
 unfold gF;split<;>simp
def Zi(hs:List (K×V))(k:K):(kW hs k).length<=hs.length:=(Lg hs k).length_le
def vn{a:Type}(A:List (K×List a)):Nat:=(A.map λx=>x.2.length).sum
def anC{a:Type}{A B:List (K×List a)}(h:A.Sublist B):vn A<=vn B:=by
 induction h with
 |slnil=>exact aQ _
 |cons x _ b=>unfold vn at*;rw[oM,Ec];omega
 |cons_cons x _ b=>unfold vn at*;rw[oM,Ec,oM,Ec];omega
def XP{a:Type}(f:List a->List a)(b:∀l,(f l).length<=l.length):∀A:List (K×List a),vn (A.map λy=>(y.1,f y.2))<=vn A
 |[]=>aQ _
 |x::A=>by
  have h1:=XP f b A;have c:=b x.2;unfold vn at*;rw[oM,oM,Ec,oM,Ec];exact Nat.add_le_add c h1
def aew{a:Type}{x y:K×List a}:∀{A:List (K×List a)} {i:Nat},A[i]? =some x->vn (A.set i y)+x.2.length=vn A+y.2.length
 |[],i,h=>by simp at h
 |z::A,0,h=>by
  have e:z=x:=by simpa using h
  subst e;unfold vn;rw[pF,oM,Ec,oM,Ec];omega
 |z::A,i+1,h=>by
  have b:=aew (y:=y) (A:=A) (i:=i) (by simpa using h);unfold vn at*;rw[nk,oM,Ec,oM,Ec];omega
def anB{M a:Type}[DecidableEq M](A:List (K×List (M×a)))(k:K)(m:M)(u:a):vn (gF A k (gF ((dM A k).getD []) m u))<=vn A+1:=by
 cases h:mK k A with
 |none=>
  have e:dM A k=none:=by unfold dM;rw[h]
  rw[e,Option.getD_none];unfold gF;rw[h];unfold vn;rw[jv,sum_append];exact aQ _
 |some i=>
  obtain⟨l,c⟩:=JO h;have e:dM A k=some l:=by unfold dM;rw[h];show(A[i]?).map _=_;rw[c];rfl
  rw[e,Ql];have d:=ac4 l m u;generalize gF l m u=b at d;unfold gF;rw[h];show vn (A.set i (k,b))<=_;have f:=aew (y:=(k,b)) c;have g:((k,l):K×List (M×a)).2.length=l.length:=F;have j:((k,b):K×List (M×a)).2.length=b.length:=F;omega
end
def anD(A:List (ah×List (ah×(bq×Int)))):(C9 A).length=vn A:=by simp_all [C9,vn]
def ae9(S:fB)(e:aR)(x:fA):(S.act e x).cnt=S.cnt/\(S.act e x).ms.length<=S.ms.length+1/\(S.act e x).ks.length<=S.ks.length+1/\vn (S.act e x).av<=vn S.av+1:=by
 have a:vn (S.av.map λy=>(y.1,kW y.2 x.member))<=vn S.av:=XP _ (λl=>Zi l _) S.av;have hs:=anB S.av x.commit e.dz ((dM S.ms e.dz).getD [],e.time);unfold fB.act;dsimp only
 repeat' split
 all_goals refine⟨F,?_,?_,?_⟩
 all_goals first|exact Hf _|exact ac4 _ _ _|exact Nat.le_succ_of_le (Zi _ _)|exact Nat.le_succ_of_le a|exact hs
def abm(S:fB)(e:aR):(S.next e).cnt=S.cnt+1/\(S.next e).ms.length<=S.ms.length+1/\(S.next e).ks.length<=S.ks.length+1/\vn (S.next e).av<=vn S.av+1/\(S.next e).last=pO e/\(S.next e).tm=e.time:=by
 have h:=ae9 {S with lY:=if S.cnt=0 then e.dz else S.lY} e (vO e);generalize a:fB.act {S with lY:=if S.cnt=0 then e.dz else S.lY} e (vO e)=T at h;unfold fB.next;dsimp only;rw[a];refine⟨F,h.2.1,h.2.2.1,?_,F,F⟩;refine dJ (XP _ (λl=>length_filter_le _ _) _) (dJ ?_ h.2.2.2);split
 ·exact anC (Lg _ _)
 ·exact aQ _
def vD.sz{es:List aR}{S:fB}(h:vD es S):S.cnt=es.length/\S.ms.length<=es.length/\S.ks.length<=es.length/\vn S.av<=es.length:=by
 induction h with
 |nil=>exact⟨F,aQ _,aQ _,aQ _⟩
 | @snoc es S e a b d=>
  have c:=abm S e;rw[bQ,Jb];omega
def vD.szP{es:List aR}{S:fB}(h:vD es S)(b:es.length<=65536):Uj S:=by
 have a:=h.sz;refine⟨J,J,?_⟩;rw[anD];omega
def WI{S:fB}{e:aR}(h:S.ref e=0):iJ e=0/\e.num=(S.cnt:Int)/\e.prev=S.last/\S.tm<=e.time:=by grind [fB.ref]
noncomputable def RG(es:List aR):ah:=match es.getLast? with|none=>wL|some e=>pO e
def aiF(es:List aR)(e:aR):RG (es++[e])=pO e:=by grind [RG]
def vD.last{es:List aR}{S:fB}(h:vD es S):S.last=RG es:=by
 cases h with
 |nil=>rfl
 |snoc a b=>rw[aiF];exact(abm _ _).2.2.2.2.1
def vD.at{es:List aR}{S:fB}(h:vD es S):∀{k:Nat} {e:aR},es[k]? =some e->iJ e=0/\e.num=(k:Int)/\e.prev=RG (es.take k):=by
 induction h with
 |nil=>intro k e a;simp at a
 | @snoc es S d b g o=>
  intro k e a;by_cases n:k<es.length
  ·rw[zY n]at a;rw[MW J];exact o a
  ·rw[yc J]at a;have m:k - es.length=0:=by
    have:=(iK.1 a).1;rw[Jb]at this;omega
   have c:k=es.length:=J;rw[m]at a;have f:d=e:=by simpa using a
   subst f;obtain⟨i,j,l,_⟩:=WI g;refine⟨i,by rw[j,b.sz.1,c],?_⟩;rw[l,b.last,c,oo];rfl
end
def ajM{w:World}{B q:Nat}{e:TypeId}{z n cap:Nat}{xs:aP}(h:w.ownsRow B e z (.slice (some ⟨q,0,none⟩) n cap) n xs):
 ∃rest,au w q (xs++rest) e/\(xs++rest).length=cap*z/\xs.length=n*z/\B<=q/\n<=cap/\cap<=maxLen:=by
 obtain⟨l,h⟩:=h;rcases h with⟨a,rfl⟩|⟨g,m,c,a,j,k,d,f,i,b⟩
 ·cases a
 ·cases a;refine⟨c.toList.drop (n*z),?_,?_,l,j,d,f⟩
  ·unfold au;rw[<-b,AX];simpa using k
  ·rw[<-b,AX,pz,i]
def aeQ:∀{es:List aR} {w:World},(∀e∈es,e.Ok w)->(∀e∈es,iJ e=0)->(qb es).length<=32889*es.length/\121*es.length<=(qb es).length
 |[],_,_,_=>by unfold qb;simp
 |e::es,w,h,hv=>by
  obtain⟨h1,h2⟩:=aeQ (es:=es) (λx a=>h x (yg _ a)) (λx a=>hv x (yg _ a));have b:qb (e::es)=xu e++qb es:=by unfold qb;rw[yh]
  have c:=U7 (h e aB);have d:=(Er (h e aB) (hv e aB)).2.2.2.2.2.2;rw[b,bQ,iU];omega
def anp(t:Int)(n:Nat)(f:0<n)(e:n<=1000000000):∃(A:Int) (k:Nat),t.tmod n=A/\IntKind.i64.wrap (A+n)=A+n/\(A+n).tmod n=(k:Int)/\k<n:=by
 have a:=Int.tmod_lt_of_pos t (show(0:Int)<n by omega);have b: -(n:Int)<t.tmod n:=by
  have:=Int.lt_tmod_of_pos t (show(0:Int)<n by omega);omega
 have c:=Int.tmod_lt_of_pos (t.tmod n+n) (show(0:Int)<n by omega);have d:=Int.tmod_nonneg (n:Int) (show 0<=t.tmod n+n by omega);exact⟨t.tmod n,((t.tmod n+n).tmod n).toNat,F,fJ _ J,J,J⟩
def vD.valid{es:List aR}{S:fB}(h:vD es S):∀e∈es,iJ e=0:=λe a=>by
 obtain⟨k,b⟩:=AU a;exact(h.at b).1
structure lX.Fit(x:lX):Prop where
 ha:x.dz.length=16
 hk:x.key.length=16
 hp:x.prev.length=32
 hb:x.body.length<=32768
 ok:rC x=0
def OM{w:World}{g:Nat}{e:aR}(h:e.Ok w)(n:w.heap.size<=g):lM g e.ba e.bn:=by
 by_cases c:e.bn=0
 ·exact .inl c
 ·refine .inr λA a d=> ?_;obtain⟨b,off,i,j⟩:=h.hcl.jg (by rw[aI,h.hb];exact Nat.pos_of_ne_zero c);obtain⟨x,k⟩:∃x,e.body[0]? =some x:=⟨e.body[0]'(by rw[h.hb];omega),aB⟩;have f:=kN (j 0 (Y x) (by rw[iT,k];rfl));rw[i]at a;injection a with a;rw[<-a]at d;have m:b=g:=d;have l:b<w.heap.size:=f;omega
def aa9(M a:Nat):∀b t w,(Builtin.min_ b t #[.int .i64 (M:Int),.int .i64 (a:Int)]).run prog w= .ok (.int .i64 ((min M a:Nat):Int)) w:=λb t w=>by
 rw[run_min_int2]
 congr 2
 by_cases h:(a:Int)<(M:Int)
 ·rw[aN h];omega
 ·rw[aJ h];omega
section
section
variable {P:Program} {t e:TypeId} {z y:Nat}
def afk(T:wO P t e z y)(ty:TypeId)(w:World)(B:Nat){v:Value}{n c:Nat}{xs:aP}(f:w.ownsRow B e z v n xs):
 (append_ #[t,t] ty #[v,.slice none 0 c]).run P w= .ok v w:=by
 obtain⟨i,o,a,l,k,j,m⟩:=T.info;have b:=T.hu;rcases f.2 with⟨rfl,rfl⟩|⟨g,cap,h,rfl,_,_,d,_⟩
 ·simp[append_,jB b,sizeOf,typeInfo,a,Builtin.lenOf,Builtin.firstCells]
 ·simp[append_,jB b,sizeOf,typeInfo,a,Builtin.lenOf,Builtin.firstCells,d,storeCells]
def afi(T:wO P t e z y)(ty:TypeId)(w:World)(B:Nat){v:Value}{n m c:Nat}{xs news:aP}{a:aO}(d:w.ownsRow B e z v n xs)(i:news.length=m*z)(g:aM w a news)(j:∀u∈news,u.oneCell'=true)
 (k:n+m<=140737488355328)(l:(n+m)*y<=140737488355328)(o:B<=w.heap.size):
 ∃b w',(append_ #[t,t] ty #[v,.slice a m c]).run P w= .ok b w'/\w'.ownsRow B e z b (n+m) (xs++news)/\w.grownBy w' v.ownBlock/\
  (b.ownBlock=v.ownBlock∨b.ownBlock=some w.heap.size):=by
 cases a with
 |some a=>exact YR T ty w B d i (Gl g) j k l o
 |none=>
  have p:news=[]:=by
   rcases g with h|⟨_,_,h,_⟩
   ·exact h
   ·cases h
  subst p;obtain rfl:m=0:=by
   have:=T.pos;rcases Nat.eq_zero_or_pos m with h|h
   ·exact h
   ·have f:=Nat.mul_pos h this;rw[<-i]at f;exact absurd f aB
  refine⟨v,w,afk T ty w B d,by simpa using d,⟨F,F,F,aQ _,λ_ _ _=>rfl⟩,.inl F⟩
variable {ops:Array Oper} {rest:List Oper} {o:Oper} {a:Act} {w:World} {Q:Exit->Act->World->Prop}
def an5(T:wO P t e z y)(A:o.guard=none)(s x:Operand)(D:o.op= .call {callee:= .builtin .append,args:= #[s,x],argTypes:= #[t,t]})(B:Nat){v:Value}{n m c:Nat}{xs news:aP}{d:aO}
 (hs:a.eval s=v)(H:a.eval x= .slice d m c)(E:w.ownsRow B e z v n xs)(C:news.length=m*z)(r:aM w d news)(f:∀u∈news,u.oneCell'=true)
 (k:n+m<=140737488355328)(p:(n+m)*y<=140737488355328)(q:B<=w.heap.size)
 (h:∀b w',w'.ownsRow B e z b (n+m) (xs++news)->w.grownBy w' v.ownBlock->(b.ownBlock=v.ownBlock∨b.ownBlock=some w.heap.size)->wpList P ops Q rest (a.put o.dst b) w'):wpList P ops Q (o::rest) a w:=by
 obtain⟨b,w',G,g,i,j⟩:=afi T o.type w B E C r f k p q;exact q8 A λI l=>Lib.wp_append_run w s x _ _ D v _ hs H b w' G (l _ _ (h b w' g i j))
end
end
def SX:(prog.info? 34).map (·.size)=some 68:=aC
def aa6(n:Int):∀a t w,(Builtin.max_ a t #[.int .i64 n,.int .i64 0]).run prog w= .ok (.int .i64 ((n.toNat:Nat):Int)) w:=λa t w=>by
 rw[run_max_int2]
 congr 2
 by_cases h:(0:Int)>n
 ·rw[aN h];omega
 ·rw[aJ h];omega
def U9:∀{es:List aR} (k:Nat),GL es->(kX es).drop (k*68)=kX (es.drop k)
 |es,0,_=>by rw[Hg,jP,jP]
 |[],k+1,_=>by simp[kX]
 |e::es,k+1,h=>by
  have he:e.v.length=68:=h e aB;rw[show kX (e::es)=e.v++kX es from F,mH,drop_append,he];rw[drop_eq_nil_of_le (by rw[he];omega),zi,show(k+1)*68 - 68=k*68 by omega];exact U9 k λx a=>h x (yg _ a)
def Zz:∀{es:List aR} (k:Nat),GL es->(kX es).take (k*68)=kX (es.take k)
 |es,0,_=>by rw[Hg,pG,pG];rfl
 |[],k+1,_=>by simp[kX]
 |e::es,k+1,h=>by
  have he:e.v.length=68:=h e aB;rw[show kX (e::es)=e.v++kX es from F,pE,take_append,he];rw[gY (by rw[he];omega),show(k+1)*68 - 68=k*68 by omega,Zz k λx a=>h x (yg _ a)];rfl
def aM.agy{w:World}{a:aO}{es:List aR}(h:aM w a (kX es))(b:GL es)(k:Nat):aM w a (kX (es.take k)):=by
 rw[<-Zz k b];exact h.take _
def aM.agx{w:World}{a:aO}{es:List aR}(h:aM w a (kX es))(d:GL es)(c p:Nat)(f:es.length<=c):aM w (p8 a c p 68) (kX (es.drop p)):=by
 unfold p8;rw[<-U9 p d];split
 ·rename_i g
  left
  rw[U9 p d,FP J];rfl
 ·rcases h with h|⟨b,off,rfl,h⟩
  ·left;rw[h];simp
  ·refine .inr ⟨b,off+p*68,by rw[jr,eX],λi u e=> ?_⟩;rw[qY]at e;have:=h _ _ e;rw[show off+p*68+i=off+(p*68+i) by omega];exact this
def aj4{d:ah->ah->ah}(f:∀a b,(d a b).length=32):∀(n:Nat) (ls:List (ah)) (i:Nat),ls.length=n->iH ls->iH (xM d ls i):=by
 intro n;induction n using Nat.strongRecOn with
 |ind n g=>
 intro ls i j e;by_cases h:ls.length<2
 ·rw[xM,zW h];intro x c;simp at c
 ·have:=oF (n:=ls.length) J;rw[Ww d J];split
  ·intro x c;rcases kU.1 c with c|c
   ·exact g (ls.take (aU ls.length)).length (by rw[fP];omega) _ i F (e.take _) x c
   ·rw[nu.1 c];exact Ar d f (e.drop _)
  ·intro x c;rcases kU.1 c with c|c
   ·exact g (ls.drop (aU ls.length)).length (by rw[iI];omega) _ (i - aU ls.length) F (e.drop _) x c
   ·rw[nu.1 c];exact Ar d f (e.take _)
def ahz{d:ah->ah->ah}(f:∀a b,(d a b).length=32):∀(n:Nat) (ls:List (ah)) (m:Nat) (b:Bool),ls.length=n->iH ls->iH (xB d ls m b):=by
 intro n;induction n using Nat.strongRecOn with
 |ind n g=>
 intro ls m b j e;by_cases h:m=ls.length∨ls.length<2
 ·rw[xB,aN h];intro x c;cases b with
  |true=>simp at c
  |false=>
   have i:x=lV d ls:=by simpa using c
   rw[i];exact Ar d f e
 ·have:=oF (n:=ls.length) J;rw[Vk d J J];split
  ·intro x c;rcases kU.1 c with c|c
   ·exact g (ls.take (aU ls.length)).length (by rw[fP];omega) _ m b F (e.take _) x c
   ·rw[nu.1 c];exact Ar d f (e.drop _)
  ·intro x c;rcases kU.1 c with c|c
   ·exact g (ls.drop (aU ls.length)).length (by rw[iI];omega) _ (m - aU ls.length) false F (e.drop _) x c
   ·rw[nu.1 c];exact Ar d f (e.take _)
section
structure gU(B g:Nat)(w w':World):Prop where
 os:w'.os=w.os
 tape:w'.tape=w.tape
 output:w'.output=w.output
 size:w.heap.size<=w'.heap.size
 block:∀k,k<B->k≠g->w'.heap[k]? =w.heap[k]?
def gU.refl(B g:Nat)(w:World):gU B g w w:=⟨F,F,F,aQ _,λ_ _ _=>rfl⟩
def gU.trans{B g:Nat}{a b c:World}(h:gU B g a b)(k:gU B g b c):gU B g a c:=⟨k.os.trans h.os,k.tape.trans h.tape,k.output.trans h.output,dJ h.size k.size,λi d e=>(k.block i d e).trans (h.block i d e)⟩
def gU.below{B g:Nat}{a b:World}(h:Below B a b):gU B g a b:=⟨h.os,h.tape,h.output,h.size,λk c _=>h.block k c⟩
def gU.upd{B g:Nat}{a b:World}(h:dF a g b):gU B g a b:=⟨h.os,h.tape,h.output,by rw[h.size];exact aQ _,λk _ c=>h.block k c⟩
def gU.blk{B g k:Nat}{w w':World}{vs:aP}{T:TypeId}(h:gU B g w w')(b:k<B)(c:k≠g)(a:au w k vs T):au w' k vs T:=by
 unfold au at*;rw[h.block k b c];exact a
abbrev ST:TypeId:=32
def adA(l:ah)(s:ByteArray)(v:Value)(n B g:Nat)(w:World)(x:jV w B v n l)(m:au w g [v] ST)(aq:g<B)(L:B<=w.heap.size)(a2:n+s.size+1<=140737488355328):
 Calls prog 136 #[.string s,.pointer (some ⟨g,0,none⟩)] w λe w'=>∃ab,e= .returned (.tuple #[])/\jV w' B ab (n+(s.size+1)) (l++rO s)/\au w' g [ab] ST/\gU B g w w':=by
 obtain⟨av,I,rfl,aw,ap,ar, -⟩:=x.slice;obtain⟨o,r⟩:=aF (UInt8.ofNat s.size:UInt8);have U:=an9 s.size;have R:rO s=o::s.data.toList:=by unfold rO;rw[r]
 rw[r]at U;have an:=O R;clear R r;obtain⟨a,M⟩:=aF s.size;have al:=O M;rw[M]at U;have ad:au (w.alloc (.cells #[.int .u8 o.toNat] 5)) w.heap.size (([o]:ah).map Y) 5:=au.bK F F;have j:aj w (w.alloc (.cells #[.int .u8 o.toNat] 5)):=(aj.refl w).alloc _;obtain⟨G,c,A⟩:=aW ad (x.ext j) ((Aa B w).alloc L (.cells #[.int .u8 o.toNat] 5));have p:B<=(w.alloc (.cells #[.int .u8 o.toNat] 5)).heap.size:=dJ L j.size;have az:=m.cell' (i:=0) (v:= .slice av n I) F;have ae:=O m;clear ad j x aw ap ar m;go_enter func136,ntmps136;go_wp2_with (first|(at_builtin;refine GI F _ _ F B (ys:=[o]) F F c F (DF G) J p ?_));intro a3 a0 V k;have d:=O V;have S:=c.Bd;have C:=O (A.grown k p (by intro q t;exact S _ t));have N:B<=a0.heap.size:=dJ p k.size;clear V k S c A G az;go_wp2_with (first|(at_builtin;refine aeH F _ _ F B F F d J N ?_));intro aE ac W K;have aa:jV ac B aE (n+(a+1)) (l++rO s):=by
  rw[an.out,show n+(a+1)=n+1+a by omega];exact W
 have T:=d.Bd;obtain⟨D,E⟩:=aA (C.grown K N (by intro q t;exact T _ t)) aa;clear W aa K T d C;have b:=Below.vN D aq ae;have ax:=b.cell' (i:=0) (v:= .slice av n I) F;have ao:=b.frozen 0;obtain⟨f,h,rfl, -, -, -, -⟩:=E.slice;have af:=O b;clear b;go_wp2_with fail;generalize u:World.setCell ac _ _=z;have H:au z g [.slice f (n+(a+1)) h] ST:=by rw[<-u];exact af.set 0 (.slice f (n+(a+1)) h)
 have y:=kE u;have P:jV z B (.slice f (n+(a+1)) h) (n+(s.size+1)) (l++rO s):=by rw[al.out];exact E.turn λi a1 _=>y.block i J
 have Q:gU B g w z:=(gU.below D).trans (gU.upd y);obtain⟨ai,am,ag⟩:=aW P Q H;clear P Q H y u ax ao
 go_end0
 exact⟨_,F,ai,ag,am⟩
def XO(b:Bool)(w:World):Calls prog 138 #[.bool b] w λe w'=>e= .returned (.int .i64 (if b then 1 else 0))/\w=w':=by
 cases b<;>(
  go_enter func138,ntmps138;go_wp2;go_ret;exact⟨F,F⟩)
structure Ja(w0:World)(gb gi B:Nat)(us:ByteArray)(b:aD)(N:Nat)(sq:List Nat)(w:World)(v:Value):Prop where
 body:au w w0.heap.size b.v 101
 var:au w gb [v] ST
 own:jV w B v (ku sq b.p).length (ku sq b.p)
 len:(ku sq b.p).length<=N*sq.length
 ext:aj w0 w
 le:B<=w.heap.size
 it:w.heap[gi]? =some (.stringIter us sq.length)
structure PZ(w0:World)(gb gi B:Nat)(us:ByteArray)(b:aD)(N:Nat)(sq:List Nat)(w:World)(v:Value):Prop where
 body:au w w0.heap.size b.v 101
 var:au w gb [v] ST
 own:jV w B v (ku sq b.p).length (ku sq b.p)
 len:(ku sq b.p).length<=N*sq.length
 ext:aj w0 w
 le:B<=w.heap.size
 it:w.heap[gi]? =some (.stringIter us (sq.length+1))
section
variable {w0:World} {gb gi B N i m:Nat} {us:ByteArray} {b:aD} {sq:List Nat} {w w2:World} {v v3:Value}
def Ja.next(h:Ja w0 gb gi B us b N sq w v)(d:w0.heap.size≠gi)(e:gb≠gi)(i:w0.heap.size<=gi)(g:gi<B)(u:∀k,k≠gi->w2.heap[k]? =w.heap[k]?)(hs:w2.heap.size=w.heap.size)(a:w2.os=w.os/\w2.tape=w.tape/\w2.output=w.output)(f:w2.heap[gi]? =some (.stringIter us (sq.length+1))):PZ w0 gb gi B us b N sq w2 v where
 body:=by unfold au;rw[u _ d];exact h.body
 var:=by unfold au;rw[u _ e];exact h.var
 own:=h.own.turn λk c _=>u k J
 len:=h.len
 ext:=⟨a.1.trans h.ext.os,a.2.1.trans h.ext.tape,a.2.2.trans h.ext.output,by have:=h.ext.size;omega,λk c=>(u k J).trans (h.ext.block k c)⟩
 le:=by rw[hs];exact h.le
 it:=f
def PZ.next(h:PZ w0 gb gi B us b N sq w v)(j:w0.heap.size<gb)(c:gi≠gb)(a:w0.heap.size<B)(d:gi<B)(t:gU B gb w w2)(g:au w2 gb [v3] ST)(own:jV w2 B v3 m (ku sq b.p++vQ i b.p))(l:(vQ i b.p).length<=N):Ja w0 gb gi B us b N (sq++[i]) w2 v3 where
 body:=t.blk a J h.body
 var:=g
 own:=by
  have f:=own.1;rw[abU];rw[f];exact own
 len:=by
  have:=h.len;rw[abU,bQ,bQ,Jb,Nat.mul_add,nA];omega
 ext:=⟨t.os.trans h.ext.os,t.tape.trans h.ext.tape,t.output.trans h.ext.output,dJ h.ext.size t.size,λk e=>(t.block k J J).trans (h.ext.block k e)⟩
 le:=dJ h.le t.size
 it:=by rw[t.block gi d c,h.it,bQ];rfl
end
def alM{act:Int}(h:kR act=true):(6∈l7 act->fO act 7=false)/\(7∈l7 act->fO act 6=false)/\(8∈l7 act->fO act 6=false/\fO act 7=false)/\(10∈l7 act->fO act 6=false/\fO act 7=false):=by
 rcases FQ h with rfl|rfl|rfl|rfl|rfl|rfl|rfl|rfl|rfl|rfl|rfl|rfl<;>decide
def RO{act:Int}(h:kR act=true){i:Nat}(a:i∈l7 act):fO act i=true:=by
 rw[<-ac1 h]at a;exact(mem_filter.1 a).2
end
end Go.Proofs.YtjlhhnkhcbpnjaaGreatDoor
