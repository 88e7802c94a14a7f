/- Laws; no condition. -/
import Derived.Test.YtjlhhnkhcbpnjaaGreatDoorJN20
namespace Go.Proofs.YtjlhhnkhcbpnjaaGreatDoor
open Go Go.RowKit List Tryz
open Go.World(alloc setCell drew)
set_option linter.all false
set_option maxHeartbeats 40000000
set_option maxRecDepth 100000
structure zR where
 h:Int
 o:Int
 b:Bool
 x:UInt8
def zR.v(l:zR):aP:=[.int .i64 l.h,.int .i64 l.o,.bool l.b,Y l.x]
def CG(ls:List zR):aP:=ls.flatMap zR.v
def ai4{l:List zR}{k:Nat}{a:zR}(b:l[k]? =some a):((CG l).drop (k*4)).take 4=a.v:=by
 induction l generalizing k with
 |nil=>simp at b
 |cons x l d=>
  have c:(CG (x::l))=x.v++CG l:=by unfold CG;rw[yh]
  cases k with
  |zero=>
   have e:x=a:=by simpa using b
   subst e;rw[c,Hg,jP];exact oo (l₁:=x.v) F
  |succ k=>
   rw[c,Nat.succ_mul,Np,<-tK,show(x.v++CG l).drop 4=CG l from q_ (l₁:=x.v) F];exact d (by simpa using b)
def ai5(l:List zR):(CG l).length=4*l.length:=by
 induction l with
 |nil=>rfl
 |cons x l b=>
  have a:(CG (x::l))=x.v++CG l:=by unfold CG;rw[yh]
  rw[a,bQ,b,iU];show 4+_=_;omega
def ai6{w:World}{a:aO}{l:List zR}(h:aM w a (CG l)){k:Nat}{x:zR}(d:l[k]? =some x):∃A,a=some A/\d9 w (A.add (k*4)) x.v:=by
 have g:=(iK.1 d).1;obtain⟨b,o,rfl,e⟩:=h.jg (by rw[ai5];omega);refine⟨_,F,λj u c=> ?_⟩;rw[eX,eX,k_];refine e _ _ ?_;rw[<-ai4 d]at c;have f:j<4:=by
  have:=(iK.1 c).1;rw[fP]at this;omega
 rw[uM f,qY]at c;exact c
def adf:(prog.info? 76).map (·.size)=some 4:=aC
def YI:jc prog 76 4:=⟨⟨_,underlying76,F⟩,aC⟩
def ai3(a:zR):∀v∈a.v,v.oneCell'=true:=by
 intro v b;unfold zR.v at b;simp only[gM,lN,lQ]at b;rcases b with rfl|rfl|rfl|rfl<;>rfl
def uj.take{w:World}{a:aO}{n c k:Nat}{es:List aR}(h:uj w a n c es)(f:k<=n):uj w a k c (es.take k):=by
 refine⟨by rw[fP,h.hl];omega,dJ f h.nc,h.n0,λe d=>h.ok e (wZ d),?_⟩;have hs:kX es=kX (es.take k)++kX (es.drop k):=by rw[<-Zx,AX]
 have b:=h.cell.take (kX (es.take k)).length;rw[hs,KU]at b;exact b
def ahI{es:List aR}(d:∀e∈es,iJ e=0)(f:es.length<=65536):∃a:dO,LB es=a.v/\a.Ok/\mV a.n a.t=0:=by
 unfold LB;cases c:es.getLast? with
 |none=>exact⟨⟨0,0,fT,fT⟩,F,⟨by unfold fT;simp,by unfold fT;simp⟩,F⟩
 |some e=>
  have h:=d e (mem_of_getLast? c);refine⟨⟨es.length,e.time,pO e,lV dN (yQ es)⟩,F,⟨F3 _,Ar dN lU (RI es)⟩,?_⟩;unfold iJ at h;by_cases b:(fZ e.num 0 65535||fZ e.time 0 1099511627776)=true
  ·rw[aN b]at h;cases h
  ·unfold fZ at b;simp at b;unfold mV;rw[aJ];show¬((es.length:Int)<0∨65536<(es.length:Int)∨e.time<0∨1099511627776<e.time);omega
structure Kp(w0 wP:World)(g:Nat)(w:World):Prop where
 e:aj w0 w
 sz:wP.heap.size<=w.heap.size
 b:∀x,g<=x->x<wP.heap.size->w.heap[x]? =wP.heap[x]?
def Kp.ext{b wP w w':World}{g:Nat}(h:Kp b wP g w)(e:aj w w'):Kp b wP g w':=⟨h.e.ext e,dJ h.sz e.size,λx c a=>(e.block x (vL a h.sz)).trans (h.b x c a)⟩
def Kp.blk{c wP w:World}{g x:Nat}{vs:aP}{T:TypeId}(h:Kp c wP g w)(a:au wP x vs T)(b:g<=x):au w x vs T:=(h.b x b a.lt).trans a
def Kp.mut{a wP w w':World}{g:Nat}{M:Nat->Prop}(h:Kp a wP g w)(e:aj a w')(m:gL M w w')(f:∀b,M b->b<g):Kp a wP g w':=
 ⟨e,dJ h.sz m.size,λx c d=>(m.block x (vL d h.sz) (λi=>absurd (f x i) (Nat.not_lt.2 c))).trans (h.b x c d)⟩
def WQ.mut{a w w':World}{k:ah}{f:Fin 4->Wd}{M:Nat->Prop}(h:WQ a k f w)(m:gL M w w')(e:aj a w')(c:∀i,¬M (f i).g/\∀b,(f i).v.ownBlock=some b->¬M b):WQ a k f w':=
 ⟨λi=>⟨(h.wa i).blk.mut m (c i).1,Wv (h.wa i).row (λr d=>m.block r (OQ (h.wa i).row r d) ((c i).2 r d)),(h.wa i).kl,(h.wa i).ok⟩,λi=>⟨(h.lo i).1,(h.lo i).2.1,dJ (h.lo i).2.2 m.size⟩,h.ap,e⟩
def agI{P:Program}{o:Oper}{a:Act}{t e:TypeId}{x y z:Operand}{p q:aO}{n c k h s m r:Nat}(v:o.op= .slice t x (some y) (some z) none)(B:a.eval x= .slice p n c)(C:a.eval y= .int .i64 (k:Int))(D:a.eval z= .int .i64 (h:Int))(A:P.underlying t=some (.slice e))(hs:(P.info? e).map (·.size)=some s)(l:k<=h)(g:h<=c)
 (b:p8 p c k s=q)(u:h - k=m)(d:c - k=r)(w:World):(execOp a.eval o).run P w= .ok (.value (.slice q m r)) w:=by
 subst b u d;have d:(Instr.sliceAt t (.slice p n c) (some (.int .i64 (k:Int))) (some (.int .i64 (h:Int))) none).run P w= .ok (.slice (p8 p c k s) (h - k) (c - k)) w:=by
  cases b:P.info? e with
  |none=>simp[b]at hs
  |some i=>
   have j:i.size=s:=by simpa[b]using hs
   have f:(0:Int)<=k/\(k:Int)<=h/\(h:Int)<=c:=J;simp[Instr.sliceAt,Instr.slice,Instr.sliceBounds,Instr.sliceBound,asIntOf,jB A,sizeOf,typeInfo,b,j,f.2.1,f.2.2,l,g,p8]
 unfold execOp;simp only[v,B,C,D,jr,G9,iC,d,ng,ni]
def uj.one{w:World}{a:aO}{n c:Nat}{es:List aR}(h:uj w a n c es){b:Nat}(g:b<n):uj w (p8 a c b 68) 1 (c - b) ((es.take (b+1)).drop b):=by
 have j:=h.hl;have i:=h.nc;refine⟨by rw[iI,fP];omega,J,λd=> ?_,λe f=>h.ok e (wZ (mem_of_mem_drop f)),(h.cell.agy h.RJ (b+1)).agx (λe f=>h.RJ e (wZ f)) c b (by rw[fP];omega)⟩;unfold p8 at d;split at d
 ·omega
 ·have:=h.n0 (by simpa using d);omega
def WQ.init{f w:World}{k:ah}{T o p X:TypeId}{a b c d g1 g l m:Nat}{v:Value}(C:v= .slice none 0 0)(e:aj f w)(y:oN T w a g1 k v [])(z:oN o w b g k v [])(A:oN p w c l k v [])(B:oN X w d m k v [])
 (D:f.heap.size<=a/\f.heap.size<=g1/\a<=w.heap.size)(E:f.heap.size<=b/\f.heap.size<=g/\b<=w.heap.size)(G:f.heap.size<=c/\f.heap.size<=l/\c<=w.heap.size)(H:f.heap.size<=d/\f.heap.size<=m/\d<=w.heap.size)
 (q:g1≠g)(r:g1≠l)(s:g1≠m)(t:g≠l)(u:g≠m)(x:l≠m):
 WQ f k (qf ⟨T,a,g1,v,[]⟩ ⟨o,b,g,v,[]⟩ ⟨p,c,l,v,[]⟩ ⟨X,d,m,v,[]⟩) w:=by
 subst C;refine⟨λi=> ?_,λi=> ?_,λi j n=>⟨?_,?_,?_⟩,e⟩
 ·match i with|0=>exact y|1=>exact z|2=>exact A|3=>exact B
 ·match i with|0=>exact D|1=>exact E|2=>exact G|3=>exact H
 ·match i,j with
  |0,0=>exact(n F).elim
  |0,1=>exact q
  |0,2=>exact r
  |0,3=>exact s
  |1,0=>exact q.symm
  |1,1=>exact(n F).elim
  |1,2=>exact t
  |1,3=>exact u
  |2,0=>exact r.symm
  |2,1=>exact t.symm
  |2,2=>exact(n F).elim
  |2,3=>exact x
  |3,0=>exact s.symm
  |3,1=>exact u.symm
  |3,2=>exact x.symm
  |3,3=>exact(n F).elim
 ·match i with|0=>(intro h;cases h)|1=>(intro h;cases h)|2=>(intro h;cases h)|3=>(intro h;cases h)
 ·match i with|0=>(intro b h;cases h)|1=>(intro b h;cases h)|2=>(intro b h;cases h)|3=>(intro b h;cases h)
def anT(fd fe:List l9)(ef eg:aO)(du b9 dv ek:Nat)(k:ah)(ls:List zR)(eh:aO)(a4 cC:Nat)(hR:Int)(x:UInt8)(w:World)(hn:fd.length=du)(ht:du<=b9)(g9:aM w ef (yw fd))(ho:fe.length=dv)(hu:dv<=ek)(g':aM w eg (yw fe))(eN:k.length=32)(hp:ls.length=a4)(hv:a4<=cC)(cN:aM w eh (CG ls))(eQ:uK w):
 eO 6 #[.slice ef du b9,.slice eg dv ek,.agg (k.map Y).toArray,.slice eh a4 cC,.int .i64 hR,.int .u8 (x.toNat:Int)] w (.bool true):=by
 obtain⟨i3,i4,ct,cv,i0,i1⟩:=jW (λd (K:aj w d)=>adw fd ef du b9 d hn ht (g9.ext K) (eQ.ext K)) (λd (K:aj w d)=>adw fe eg dv ek d ho hu (g'.ext K) (eQ.ext K)) eN (show(k.map Y).length=32 by rw[aI];exact eN) cN hp;clear g9 g' eQ hn ho ht hu eN cN hp;go_enter func6,ntmps6;go_upto_region 1 with fail;generalize e9:alloc w _=k2;obtain⟨fm,ip⟩:=aA (dX e9 (k.map Y) 69) (dS e9);clear e9;obtain⟨gk,hi⟩:=aF w.heap.size;rw[hi]at fm⊢;clear hi;go_wp2_with fail;refine(aiE k2).mono ?_;rintro x d ⟨rfl,K⟩;obtain⟨fw,ib⟩:=aA (ip.ext K) (fm.ext K);clear K;go_wp2_with fail;refine(i3 d fw).mono ?_;rintro x k0 ⟨ar,lR,xs,ja,rfl,hD,g7,hj,ca⟩;obtain⟨kA,jp,rfl,he⟩:=hD.aoy;obtain⟨i9,f0,fx,fk⟩:=bT he g7 (fw.ext ca) (ib.ext ca);clear hD he g7 ca;go_wp2_with fail;refine(i4 k0 fx).mono ?_;rintro x Q ⟨aw,l0,ys,jb,rfl,hE,g8,hk,bl⟩;obtain⟨kB,js,rfl,hf⟩:=hE.aoy;obtain⟨ed,f1,fy,b1,ec⟩:=fC hf g8 (fx.ext bl) (fk.ext bl) (i9.ext bl);clear hE hf g8 bl fk;obtain⟨kv,eW⟩:=aF xs.length;obtain⟨kw,e0⟩:=aF ys.length;rw[eW]at ec hj⊢;rw[e0]at ed hk⊢;obtain⟨f6,b6⟩:=aA eW e0;clear eW e0;go_upto_region 5 with fail;obtain⟨C,a,aK,bR⟩:=fK (show bM Q Q [] [] Q from bM.iP (aj.refl _) (dR.none _));refine fF λX=> ?_;refine aV 0 F (gP F 69 _ F F (λd h=>b1.ext ((a d).1 h).base) Gh cv) ?_;refine aV 2 F (gP F 69 _ F F (λd h=>b1.ext ((a d).1 h).base) Gh cv) ?_;generalize drew Q=b0 at X⊢;refine aT 1 ?_;intro n f;go_wp2_with fail;refine(aaO k b0 ct).mono ?_;rintro a0 c3 ⟨W,rfl,j7,er,cH⟩;have dm:=O (((a _).1 X).base);have g:=aK _ _ X cH
 go_wp2_with fail;refine f _ _ g ?_;clear f n X;have X:=g;clear g;refine aL ?_;refine aT 3 ?_;intro n f;go_wp2_with fail;refine(ab6 k c3 ct).mono ?_;rintro a0 co ⟨aa,rfl,j8,et,cd⟩;have g:=aK _ _ X cd;go_wp2_with fail;refine f _ _ g ?_;clear f n X;have X:=g;clear g;refine aL ?_;refine ay 4 ?_;refine ay 5 ?_;refine dP ?_;clear X aK a bR;have c6:=O (b1.ext ((dm.ext cH).ext cd));go_upto_region 6 with fail;obtain⟨C,a,aK,bR⟩:=fK (show bM co co [] [] co from bM.iP (aj.refl _) (dR.none _));refine fF λX=> ?_;refine aV 0 F (gP F 69 _ F F (λd h=>c6.ext ((a d).1 h).base) Gh cv) ?_;refine aV 2 F (gP F 69 _ F F (λd h=>c6.ext ((a d).1 h).base) Gh cv) ?_;generalize drew co=c4 at X⊢;refine aT 1 ?_;intro n f;go_wp2_with fail;refine(aaO k c4 ct).mono ?_;rintro a0 V ⟨ao,rfl,j9,ev,bs⟩;have ce:=O (((a _).1 X).base);have g:=aK _ _ X bs;go_wp2_with fail;refine f _ _ g ?_;clear f n X;have X:=g;clear g;refine aL ?_;refine aT 3 ?_;intro n f;go_wp2_with fail;refine(ab6 k V ct).mono ?_;rintro a0 k8 ⟨ap,rfl,j',ew,ba⟩;have g:=aK _ _ X ba;go_wp2_with fail;refine f _ _ g ?_;clear f n X;have X:=g;clear g;refine aL ?_;refine ay 4 ?_;refine ay 5 ?_;refine dP ?_;clear X aK a bR;have i6:Hid (WQ Q k (qf ⟨130,b0.heap.size,W,.slice none 0 0,[]⟩ ⟨132,c3.heap.size,aa,.slice none 0 0,[]⟩ ⟨130,c4.heap.size,ao,.slice none 0 0,[]⟩ ⟨132,V.heap.size,ap,.slice none 0 0,[]⟩) k8):=by
  have lB:=dm.size;have lE:=cH.size;have lL:=cd.size;have lO:=ce.size;have cY:=bs.size;have lP:=ba.size;have ds:=er.blk.lt;have lz:=et.blk.lt;have dt:=ev.blk.lt;have lA:=ew.blk.lt;refine O (WQ.init F ((((dm.ext cH).ext cd).ext ce).ext (bs.ext ba)) (er.ext ((cd.ext ce).ext (bs.ext ba))) (et.ext (ce.ext (bs.ext ba))) (ev.ext ba) ew ?_ ?_ ?_ ?_ ?_ ?_ ?_ ?_ ?_ ?_)<;>omega
 have b2:=O (c6.ext ((ce.ext bs).ext ba));clear c6 dm cH cd ce bs ba er et ev ew;generalize b0.heap.size=az at*;generalize c3.heap.size=aE at*;generalize c4.heap.size=bj at*;generalize V.heap.size=bk at*;clear j7 j8 j9 j';have hr:min (a4:Int) 12=((min a4 12:Nat):Int):=J;have hq:min a4 12<=cC:=J;obtain⟨m,T⟩:=aF (min a4 12);have lv:m<=12/\m<=a4:=J;rw[T]at hr hq;have lt:min (a4:Int) 12=(m:Int):=hr;clear T;go_wp2_with (refine bZ F (yG (k:=m) F F F underlying70 adf hq _) ?_);go_loopw [62] (λi wr=>∃(j:Nat) (E D:List dO) (bx bz a6 a7:Value),j<=m/\i= .int .i64 (j:Int)/\E.length<=j/\D.length<=j/\WQ Q k (qf ⟨130,az,W,bx,E⟩ ⟨132,aE,aa,bz,E⟩ ⟨130,bj,ao,a6,D⟩ ⟨132,bk,ap,a7,D⟩) wr/\au wr gk (k.map Y) 69) (λi _=>m - (intOf i).toNat)
 ·exact⟨0,[],[],_,_,_,_,J,F,aQ _,aQ _,i6,b2⟩
 obtain⟨j,E,D,bx,bz,a6,a7,lm,rfl,lo,lp,jl,g4⟩:=hrel;obtain⟨b8,fo⟩:=aA jl g4;clear jl g4;by_cases eV:j<m
 case neg=>
  as_aux_lemma=>
  obtain rfl:j=m:=J;have em:=bU ((j:Int)<(j:Int));have jt:=bU (j<j);go_wp2_with fail;refine(aa2 az W k bx E bj ao k a6 D wr (b8.wa 0) (b8.wa 2) J J).mono ?_;rintro x L ⟨rfl,K⟩;have d':=O (b8.ext K);clear K;go_wp2_with fail;refine(acC aE aa k bz E bk ap k a7 D L (d'.wa 1) (d'.wa 3) J J).mono ?_;rintro x H ⟨rfl,ca⟩;have an:=O (d'.ext ca);clear ca;generalize (zF E D).1=gl;generalize (zF E D).2=jj;go_wp2_with fail;refine(aa1 _ H).mono ?_;rintro x k3 ⟨rfl,bl⟩;have gc:=O (an.ext bl);clear bl;go_wp2_with fail;refine(aaV az W k bx E k3 (gc.wa 0) J).mono ?_;rintro x k4 ⟨l1,rfl,hS,cb⟩;obtain⟨kx,jn,rfl,lj, -,hb⟩:=j3 hS;obtain⟨d1,cz⟩:=aA hb (gc.ext cb);clear hS cb hb;go_wp2_with fail;refine(acf aE aa k bz E k4 (cz.wa 1) J).mono ?_;rintro x k5 ⟨l2,rfl,hT,bm⟩;obtain⟨ky,cD,rfl,lk, -,cP⟩:=j3 hT;obtain⟨iz,d1,ax⟩:=aW cP (d1.ext bm) (cz.ext bm);clear hT bm cP;go_wp2_with fail;refine(ZB E kx ky E.length jn cD k5 F J (ax.wa 0).ok d1 iz).mono ?_;rintro x l4 ⟨rfl,bo⟩;have f2:=O (fy.ext (ax.e.ext bo));clear bo;have cj:(gl==gl)=true:=beq_self_eq_true _;have cX:decide (gl=gl)=true:=bV F;cases jj
  ·go_wp2
   (try go_ret)
   exact⟨F,f2⟩
  ·go_wp2
   (try go_ret)
   exact⟨F,f2⟩
 obtain⟨y,hL⟩:∃y,ls[j]? =some y:=⟨ls[j]'(by rw[i1.out];omega),aB⟩;obtain⟨A,rfl,g5⟩:=ai6 (i0.ext (fy.ext b8.e)) hL;have iS:=O g5;clear hL g5;have em:=cO ((j:Int)<(m:Int));have jt:=bV eV;go_upto_region 10 with(first|(refine bZ F (gD (i:=j) F F F underlying70 adf eV _) ?_)|(refine bZ F (cB F F iS YI (by rfl)) ?_)|(refine aZ F _ (.tmp 22) _ F F F (au.bK (vs:=(⟨0,0,false,0⟩:zR).v) F F) YI (by rfl) (xs:=zR.v y) (by rfl) (ai3 y) ?_));intro cl gm hY;have cb:aj wr cl:=hY.ext ((aj.refl _).alloc _) (aQ _);obtain⟨cp,cz,fp⟩:=aW gm (b8.ext cb) (fo.ext cb);clear gm hY cb b8 fo;generalize wr.heap.size=gE at*;have el:=cp.cell' (i:=2) (v:= .bool y.b) F;go_upto_if 69 with fail;go_cut [23] (λv ag=>∃ck a' ab es S,v= .slice ck ab a'/\uj Q ck ab a' es/\vD es S/\es.length=ab/\ab<=41/\cl=ag)
 ·cases hM:y.b with
  |true=>
   rw[hM]at el;go_wp2;go_meet;exact⟨kB,js,kw,ys,jb,F,ed,f1,b6,hk,F⟩
  |false=>
   rw[hM]at el;go_wp2;go_meet;exact⟨kA,jp,kv,xs,ja,F,ec,f0,f6,hj,F⟩
 obtain⟨ck,a',ab,es,S,rfl,eJ,g6,hl,lr,rfl⟩:=hcut;obtain⟨f3,d2,f5⟩:=aW eJ g6 hl;have ll:=eJ.nc;clear eJ g6 hl ec ed f0 f1 f6 b6 el;obtain⟨l,ex⟩:=aF (min y.h.toNat ab);obtain⟨B,cL⟩:=aF (min y.o.toNat ab);have kd:l<=ab:=J;have li:B<=ab:=J;obtain⟨k6,hN⟩:=aF y.h.toNat;obtain⟨k7,hO⟩:=aF y.o.toNat;have h':=aa6 y.h;have ia:=aa6 y.o;rw[hN]at h' ex;rw[hO]at ia cL;have hP:=aa9 k6 ab;have hQ:=aa9 k7 ab;rw[ex]at hP;rw[cL]at hQ;clear hN hO ex cL;go_upto_region 13 with fail;obtain⟨C,a,aK,bR⟩:=fK (show bM cl cl [] [] cl from bM.iP (aj.refl _) (dR.none _));have b9:∀d,C d->d.cell? ⟨gE,0,none⟩=some (.int .i64 y.h):=λd h1=>(cp.ext ((a d).1 h1).base).cell' F;have gv:∀d,C d->d.cell? ⟨gE,1,none⟩=some (.int .i64 y.o):=λd h1=>(cp.ext ((a d).1 h1).base).cell' F;refine fF λX=> ?_;refine ay 0 ?_;refine dW 1 (b9) ?_;refine ay 2 ?_;refine ay 3 ?_;refine ay 4 ?_;refine ay 5 ?_;refine ay 6 ?_;refine dW 7 (gv) ?_;refine ay 8 ?_;refine ay 9 ?_;refine ay 10 ?_;refine ay 11 ?_;refine ay 12 ?_;refine ay 13 ?_;refine dP ?_;have c9:=((a _).1 X).base;obtain⟨ax,ik,ic⟩:=aW (cz.ext c9) (fp.ext c9) (cp.ext c9);clear X aK a bR b9 gv c9 cz fp cp h' ia hP hQ;generalize drew cl=k1 at*;have ey:l<=a':=J;have eE:=d2.valid;obtain⟨P,hd,cQ,hc⟩:=ahI (es:=es.take l) (λe bb=>eE e (wZ bb)) (by rw[fP,f5.out];omega);obtain⟨gb,b4,db⟩:=aW (f3.take kd) (dO.len cQ) cQ;have f9:=O (λw' (e:aj Q w')=>akM ck l a' (es.take l) w' (gb.ext e) (λe bb=>eE e (wZ bb)) J);rw[hd]at f9;have f':=O (λw'=>acA k P.n P.t P.l P.r w' ct cQ.l cQ.r hc)
 obtain⟨c0,e3⟩:=aF (Iz k P.n P.t P.l P.r);rw[e3]at f';have e4:c0.length=64:=by rw[<-e3];exact J_ _ _
 have ga:=O (show(c0.map Y).length=64 by rw[aI];exact e4);clear hd cQ hc eE e3;go_wp2_with (refine bZ F (yG (k:=l) F F F underlying24 SX ey _) ?_);refine(f9 k1 ax.e).mono ?_;rintro a0 h5 ⟨rfl,bo⟩;have cA:=O (ax.ext bo);have N:=O (λi=>And.intro (cA.wa i).blk.lt (OQ (cA.wa i).row));have i5:=O cA.e.size;obtain⟨il,ie⟩:=aA (ik.ext bo) (ic.ext bo);clear bo;go_upto_region 15 with(refine aZ F _ (.tmp 26) _ F F F (au.bK (vs:=iX 0 0 fT fT) F F) iW F b4 (F9 _ _ _ _) ?_);intro h6 go hZ;have dl:aj h5 h6:=hZ.ext ((aj.refl _).alloc _) (aQ _);obtain⟨i7,fr,ih,fn⟩:=bT (cA.ext dl) (il.ext dl) (ie.ext dl) go;clear go hZ dl cA;generalize h5.heap.size=a1 at*;go_wp2_with (first|(refine dA F 69 _ F F fr Gh cv ?_)|(refine dA F 46 _ F F fn iW b4 ?_));refine(f' h6).mono ?_;rintro a0 dy ⟨rfl,cE⟩;obtain⟨gd,fs,bd,dE⟩:=bT (i7.ext cE) (fr.ext cE) (ih.ext cE) (fn.ext cE);clear cE;go_upto_region 16 with(refine aZ F _ (.tmp 27) _ F F F (au.bK (vs:=replicate 64 (.int .u8 0)) F F) pK aB ga (dw _) ?_);intro h7 gp h0;have eo:aj dy h7:=h0.ext ((aj.refl _).alloc _) (aQ _);obtain⟨fl,cq,fz,d3⟩:=bT (bd.ext eo) gp eo (aQ dy.heap.size);clear gp h0 eo;obtain⟨j1,eL⟩:=aF dy.heap.size;have cR:=dE.lt;rw[eL]at cq cR⊢;have d3:=O eL;clear eL;obtain⟨cY,hG⟩:∃s,c0[5]? =some s:=⟨c0[5]'J,aB⟩;have cD:=cq.cell' (i:=5) (v:=Y cY) (by rw[iT,hG];rfl);have gw:=fl.cell' (i:=3) (v:=Y y.x) F;have eK:=cq.frozen 5;have fb:=TI cY y.x;unfold Y at cD gw;go_upto_region 17 with fail;generalize e_:setCell h7 _ _=cm;obtain⟨a5,e5⟩:=aF (c0.set 5 (C_ cY y.x))
 have gS:au cm j1 (a5.map Y) 78:=by
  have h:=cq.set 5 (Y (C_ cY y.x));rw[<-zV,e5]at h;rw[<-e_];exact h
 have h3:=kE e_;have cF:aj dy cm:=h3.ext fz (by rw[d3.out];exact aQ _);have e6:a5.length=64:=by rw[<-e5,length_set];exact e4
 obtain⟨dg,df,ea,im,ii,dT,fv⟩:=zT (show(a5.map Y).length=64 by rw[aI];exact e6) e6 (gd.ext cF) (fs.ext cF) (bd.ext cF) (dE.ext cF) gS;clear e_ e5 gS h3 cF e6 e4 hG cD gw eK fb gd fs bd dE fl cq fz d3 ga;go_upto_region 18 with fail;generalize e':alloc cm _=h8;obtain⟨a2,eM⟩:=aF cm.heap.size;have ei:=dX e' (sS 0 0 (.slice none 0 0)) 61;have gA:=dS e';have cg:=dT.lt;rw[eM]at ei cg⊢;obtain⟨d4,d0,c_⟩:=aW eM ei gA;clear e' ei gA eM;obtain⟨d7,cx⟩:=aA (λw' (e:aj Q w')=>aci ck l a' (es.take l) w' (gb.ext e) (λe bb=>d2.valid e (wZ bb)) J) (show(yQ (es.take l)).length=l by unfold yQ;rw[aI,fP,f5.out];omega);obtain⟨ci,hm⟩:=aF (yQ (es.take l));have cw:=O (RI (es.take l));rw[hm]at d7 cx cw;clear hm;obtain⟨gt,bu⟩:=aF (decide (0<B/\B<=l));go_cut [102] (λv ag=>v= .bool gt/\h8=ag)
 ·by_cases cj:0<B
  ·have em:=cO ((0:Int)<(B:Int));by_cases cX:B<=l
   ·have gx:=cO ((B:Int)<=(l:Int));have en:=bV cX;have gz:=bV cj;rw[bV (⟨cj,cX⟩:0<B/\B<=l)]at bu;subst bu;go_wp2;go_meet;exact⟨F,F⟩
   ·have gx:=bU ((B:Int)<=(l:Int));have en:=bg cX;have gz:=bV cj;rw[bg (λh:0<B/\B<=l=>cX h.2)]at bu;subst bu;go_wp2;go_meet;exact⟨F,F⟩
  ·have em:=bU ((0:Int)<(B:Int));have gz:=bg cj;rw[bg (λh:0<B/\B<=l=>cj h.1)]at bu;subst bu;go_wp2;go_meet;exact⟨F,F⟩
 obtain⟨rfl,rfl⟩:=hcut;go_upto_if 102 with fail;go_cut [] (λag=>∃I a_ aq bc af U,au ag a2 (sS I a_ (.slice aq bc af)) 61/\iH U/\U.length=bc/\bc<=af/\af<=9223372036854775807/\(∀w':World,(∀b,a1<=b->b<ag.heap.size->w'.heap[b]? =ag.heap[b]?)->aM w' aq (dH U))/\aj cm ag)
 ·cases gt with
  |false=>
   go_wp2;go_meet;exact⟨0,0,none,0,0,[],d0,(λx hx=>by cases hx),F,aQ _,J,(λ_ _=>Or.inl F),c_⟩
  |true=>
   as_aux_lemma=>
   have cL:=of_decide_eq_true bu;go_wp2_with (refine bZ F (yG (k:=l) F F F underlying24 SX ey _) ?_);refine(d7 h8 (ea.e.ext c_)).mono ?_;rintro a0 h9 ⟨v,rfl,ow,bp⟩;obtain⟨ds,dt,rfl,eR, -,cS⟩:=j3 ow;have eS:=R4 ow;obtain⟨fL,io,dc⟩:=aW (c_.ext bp) (d0.ext bp) cS;clear ow bp cS;go_wp2_with fail;refine(akL l ci B true dt ds h9 cx J cL.2 J cw eR eS dc).mono ?_;rintro a0 l3 ⟨v,rfl,ow,br⟩;obtain⟨aq,af,rfl,cT, -, -⟩:=j3 ow;have kq:=R4 ow;obtain⟨ir,ft,f8,b5⟩:=bT (fL.ext br) (io.ext br) ow (ahz lU l ci B true cx cw);clear ow br;obtain⟨U,cU⟩:=aF (xB dN ci B true);rw[cU]at f8 b5 cT⊢;clear cU;go_wp2_with (refine aZ F _ _ _ F F F ft yB F (xs:=sS (B:Int) (l:Int) (.slice aq U.length af)) F (abS _ _ _ _ _) ?_);intro fi gr fh;have gC:aj cm fi:=fh.ext ir (by rw[d4.out];exact aQ _);have dk:=JZ f8 fh ft bS;have hF:a1<=h9.heap.size:=by have h:=fL.size;rw[d4.out]at h;omega
   have i2:=O (λ(w':World) (e8:∀b,a1<=b->b<fi.heap.size->w'.heap[b]? =fi.heap[b]?)=>j3 (Wv dk (λq p=>e8 q (dJ hF (yR dk q p)) (OQ dk q p))));clear dk fh hF;obtain⟨ij,it⟩:=aA gr gC;clear gr gC;go_wp2;go_meet;refine⟨B,l,aq,_,af,U,ij,b5,F,cT,kq,λw' e8=> ?_,it⟩;obtain⟨_,_,p,_,_,cM⟩:=i2.out w' e8;injection p with e2 _ _;subst e2;exact cM
 as_aux_lemma=>
 obtain⟨I,a_,aq,bc,af,U,ej,gO,hA,hB,cT,cM,cG⟩:=hcut;obtain⟨wP,cW⟩:=aF wc;rw[cW]at ej cM cG⊢;obtain⟨b3,da,dd,de,cy,cs,di,c7⟩:=mQ ej gO hA hB cT cM (ea.ext cG) (dT.ext cG);have c8:=O (fv.ext cG);clear cW wc ej gO hA hB cT cM cG ea im ii dT fv d4 d0 c_;obtain⟨fc,ln,lx⟩:∃i:Nat,i<3/\Int.tmod (j:Int) 3=(i:Int):=⟨j%3,J,by rw[KH J];omega⟩;by_cases kz:fc=2
 case pos=>
  as_aux_lemma=>
  subst kz;obtain⟨al,am⟩:=aA (λy h1 h2 bt=>VK bj ao k a6 D P a5 I a_ U bc af aq y h1 h2 db df da dd de cy bt J) (λy h1 h2 bt=>WM bk ap k a7 D P a5 I a_ U bc af aq y h1 h2 db df da dd de cy bt J);obtain⟨bi,cJ⟩:=aF (CK k D P a5 I a_ U);rw[cJ]at al am;obtain⟨G,bv⟩:=aF ((if bi=0 then D++[P]else D));have kh:G.length<=D.length+1:=by rw[<-bv];split<;>simp
  have j0:(bi != bi)=false:=aB;have d6:=O bv;clear cJ bv;go_upto_region 21 with fail;obtain⟨C,a,aK,bR⟩:=tO (I:=Kp Q wP a1) (λ_ _ h1 h2=>h1.ext h2) (w:=wP) ⟨di.e,aQ _,λ_ _ _=>rfl⟩;refine fF λX=> ?_;refine ay 0 ?_;refine aV 1 F (gP F 46 _ F F (λd h=>((a d).1 h).blk c7 (aQ _)) iW b4) ?_;refine aV 2 F (gP F 78 _ F F (λd h=>((a d).1 h).blk c8 (zX cR)) pK dg) ?_;refine aV 3 F (gP F 61 _ F F (λd h=>((a d).1 h).blk b3 (zX cg)) yB F) ?_;refine ay 5 ?_;refine aV 6 F (gP F 46 _ F F (λd h=>((a d).1 h).blk c7 (aQ _)) iW b4) ?_;refine aV 7 F (gP F 78 _ F F (λd h=>((a d).1 h).blk c8 (zX cR)) pK dg) ?_;refine aV 8 F (gP F 61 _ F F (λd h=>((a d).1 h).blk b3 (zX cg)) yB F) ?_;have ac:=O (di.ext (aj.refl wP).drew);generalize drew wP=ai at X ac⊢;refine aT 4 ?_;intro n f;go_wp2_with fail;refine(al ai (ac.wa 2) (ac.lo 2).2.2 (cs ai ((a ai).1 X).b)).mono ?_;intro x L R;obtain⟨-,_, -,T, -⟩:=id R;obtain⟨rfl,ar,p,ae⟩:=ac.note 2 R;rw[ab2]at p;obtain⟨hy,be⟩:=aA ae p;have g:C L:=(a L).2 (((a ai).1 X).mut p.e T (λb t=>by
   rcases t with rfl|t
   ·exact(N 2).1
   ·exact(N 2).2 b t))
  have hH:=((a ai).1 X).sz;go_wp2_with fail;refine f _ _ g ?_;clear f n X R T p ae ac;have X:=g;clear g;refine aL ?_;refine aT 9 ?_;intro n f;go_wp2_with fail;refine(am L (be.wa 3) (be.lo 3).2.2 (cs L ((a L).1 X).b)).mono ?_;intro x H R;obtain⟨-,_, -,T, -⟩:=id R;obtain⟨rfl,aw,p,ae⟩:=be.note 3 R;rw[ab3]at p;have hz:=O ae;have g:C H:=(a H).2 (((a L).1 X).mut p.e T (λb t=>by
   rcases t with rfl|t
   ·exact(N 3).1
   ·exact(N 3).2 b t))
  have hI:=((a L).1 X).sz;go_wp2_with fail;refine f _ _ g ?_;clear f n X R T ae;have X:=g;clear g;refine aL ?_;refine ay 10 ?_;refine dP ?_;have f4:=O ((a H).1 X);clear X aK a bR;have cV:WQ Q k (qf ⟨130,az,W,bx,E⟩ ⟨132,aE,aa,bz,E⟩ ⟨130,bj,ao,ar,G⟩ ⟨132,bk,ap,aw,G⟩) H:=by rw[<-d6.out];exact p
  have an:=O cV;clear p cV;go_wp2;go_roundw
  ·exact⟨j+1,E,G,bx,bz,ar,aw,J,by go_num,J,J,an,b1.ext an.e⟩
  ·exact fV
 case neg=>
  as_aux_lemma=>
  have gx:((fc:Int)==2)=false:=by simp;omega
  have la:=bU ((fc:Int)=2);obtain⟨al,am⟩:=aA (λy h1 h2 bt=>VK az W k bx E P a5 I a_ U bc af aq y h1 h2 db df da dd de cy bt J) (λy h1 h2 bt=>WM aE aa k bz E P a5 I a_ U bc af aq y h1 h2 db df da dd de cy bt J);obtain⟨bi,cJ⟩:=aF (CK k E P a5 I a_ U);rw[cJ]at al am;obtain⟨G,bv⟩:=aF ((if bi=0 then E++[P]else E));have kh:G.length<=E.length+1:=by rw[<-bv];split<;>simp
  have j0:(bi != bi)=false:=aB;have d6:=O bv;clear cJ bv;go_upto_region 23 with fail;obtain⟨C,a,aK,bR⟩:=tO (I:=Kp Q wP a1) (λ_ _ h1 h2=>h1.ext h2) (w:=wP) ⟨di.e,aQ _,λ_ _ _=>rfl⟩;refine fF λX=> ?_;refine ay 0 ?_;refine aV 1 F (gP F 46 _ F F (λd h=>((a d).1 h).blk c7 (aQ _)) iW b4) ?_;refine aV 2 F (gP F 78 _ F F (λd h=>((a d).1 h).blk c8 (zX cR)) pK dg) ?_;refine aV 3 F (gP F 61 _ F F (λd h=>((a d).1 h).blk b3 (zX cg)) yB F) ?_;refine ay 5 ?_;refine aV 6 F (gP F 46 _ F F (λd h=>((a d).1 h).blk c7 (aQ _)) iW b4) ?_;refine aV 7 F (gP F 78 _ F F (λd h=>((a d).1 h).blk c8 (zX cR)) pK dg) ?_;refine aV 8 F (gP F 61 _ F F (λd h=>((a d).1 h).blk b3 (zX cg)) yB F) ?_;have ac:=O (di.ext (aj.refl wP).drew);generalize drew wP=ai at X ac⊢;refine aT 4 ?_;intro n f;go_wp2_with fail;refine(al ai (ac.wa 0) (ac.lo 0).2.2 (cs ai ((a ai).1 X).b)).mono ?_;intro x L R;obtain⟨-,_, -,T, -⟩:=id R;obtain⟨rfl,ar,p,ae⟩:=ac.note 0 R;rw[ab0]at p;obtain⟨hy,be⟩:=aA ae p;have g:C L:=(a L).2 (((a ai).1 X).mut p.e T (λb t=>by
   rcases t with rfl|t
   ·exact(N 0).1
   ·exact(N 0).2 b t))
  have hH:=((a ai).1 X).sz;go_wp2_with fail;refine f _ _ g ?_;clear f n X R T p ae ac;have X:=g;clear g;refine aL ?_;refine aT 9 ?_;intro n f;go_wp2_with fail;refine(am L (be.wa 1) (be.lo 1).2.2 (cs L ((a L).1 X).b)).mono ?_;intro x H R;obtain⟨-,_, -,T, -⟩:=id R;obtain⟨rfl,aw,p,ae⟩:=be.note 1 R;rw[ab1]at p;have hz:=O ae;have g:C H:=(a H).2 (((a L).1 X).mut p.e T (λb t=>by
   rcases t with rfl|t
   ·exact(N 1).1
   ·exact(N 1).2 b t))
  have hI:=((a L).1 X).sz;go_wp2_with fail;refine f _ _ g ?_;clear f n X R T ae;have X:=g;clear g;refine aL ?_;refine ay 10 ?_;refine dP ?_;have f4:=O ((a H).1 X);clear X aK a bR;have cV:WQ Q k (qf ⟨130,az,W,ar,G⟩ ⟨132,aE,aa,aw,G⟩ ⟨130,bj,ao,a6,D⟩ ⟨132,bk,ap,a7,D⟩) H:=by rw[<-d6.out];exact p
  have an:=O cV;clear p cV;by_cases g0:l=0
  case pos=>
   have en:((l:Int)==0)=true:=by simp;exact g0
   have ju:=cO ((l:Int)=0);go_wp2;go_roundw
   ·exact⟨j+1,G,D,ar,aw,a6,a7,J,by go_num,J,J,an,b1.ext an.e⟩
   ·exact fV
  case neg=>
  have en:((l:Int)==0)=false:=by simp;exact g0
  have ju:=bU ((l:Int)=0);have lh:¬((l:Int)=0):=J
  as_aux_lemma=>
  have b6:Hid (∀i,(qf ⟨130,az,W,ar,G⟩ ⟨132,aE,aa,aw,G⟩ ⟨130,bj,ao,a6,D⟩ ⟨132,bk,ap,a7,D⟩ i).g≠a2/\∀b,(qf ⟨130,az,W,ar,G⟩ ⟨132,aE,aa,aw,G⟩ ⟨130,bj,ao,a6,D⟩ ⟨132,bk,ap,a7,D⟩ i).v.ownBlock=some b->b≠a2):=by
   have eV:=b3.lt;refine O (λi=> ?_)
   match i with
   |0=>exact⟨by have:=(N 0).1;show W≠a2;have h:W<a1:=this;omega,λb t=>by
    rcases hy.out with h|⟨c,h,kj⟩
    ·have:=(N 0).2 b (h.symm.trans t);omega
    ·have h2:some c=some b:=h.symm.trans t;injection h2 with h2;omega⟩
   |1=>exact⟨by have:=(N 1).1;show aa≠a2;have h:aa<a1:=this;omega,λb t=>by
    rcases hz.out with h|⟨c,h,kj⟩
    ·have:=(N 1).2 b (h.symm.trans t);omega
    ·have h2:some c=some b:=h.symm.trans t;injection h2 with h2;omega⟩
   |2=>exact⟨by have:=(N 2).1;show ao≠a2;have h:ao<a1:=this;omega,λb t=>by have:=(N 2).2 b t;omega⟩
   |3=>exact⟨by have:=(N 3).1;show ap≠a2;have h:ap<a1:=this;omega,λb t=>by have:=(N 3).2 b t;omega⟩
  have bd:=O (f4.blk b3 (zX cg));clear cy cs al am hH hI;obtain⟨o,ez⟩:=aF (B%l);have ke:o<l:=by rw[<-ez];exact Jk _ J
  have lw:Int.tmod (B:Int) (l:Int)=(o:Int):=by rw[<-ez];rfl
  have lf:IntKind.i64.wrap ((o:Int)+1)=(o:Int)+1:=fJ _ J;clear ez;obtain⟨q,p⟩:=aF (p8 ck a' o 68);obtain⟨r,hC⟩:=aF (a' - o);have cI:=f3.one (show o<ab by omega);obtain⟨K,eI⟩:=aF ((es.take (o+1)).drop o);have e7:∀e∈K,iJ e=0:=λe bb=>d2.valid e (by rw[<-eI]at bb;exact wZ (mem_of_mem_drop bb));rw[p,hC,eI]at cI;clear eI;have hJ:=aeQ cI.ok e7;rw[cI.hl]at hJ;have eb:=O (λz (e:aj Q z)=>aeP q 1 r K z (cI.ext e) e7 J J);obtain⟨a8,dp⟩:=aF ((qb K).length);obtain⟨ee,eA⟩:=aF (qb K);rw[eA]at dp;rw[eA,dp]at hJ eb;have b7:=O dp;clear cI e7 eA dp;go_upto_region 26 with fail;go_cut [29] (λv ag=>∃a3 b' c1,v= .slice (some ⟨a3,0,none⟩) a8 b'/\au ag a3 (ee.map Y++c1) 5/\a8<=b'/\b'<=maxLen/\H.heap.size<=a3/\aj H ag)
  ·as_aux_lemma=>
   obtain⟨C,a,aK,bR⟩:=fK (show bM H H [] [] H from bM.iP (aj.refl _) (dR.none _));refine fF λX=> ?_;refine ay 0 ?_;refine ay 1 ?_;refine ay 2 ?_;refine ay 3 ?_;refine ay 4 ?_;refine ay 5 ?_;refine ay 6 ?_;refine ay 7 ?_;refine aV 8 F (aY F (λd _=>agI (k:=o) (h:=o+1) F F F F underlying24 SX J J p (show o+1 - o=1 by omega) hC d)) ?_;generalize drew H=fj at X⊢;refine aT 9 ?_;intro n f;go_wp2_with fail;refine(eb fj (an.e.ext ((a fj).1 X).base)).mono ?_;rintro x b0 ⟨v,rfl,dr,cc⟩;obtain⟨eh,cC,rfl,hv,kl,kp,cN⟩:=wm dr;obtain⟨j2,off,hh, -⟩:=cN.jg (by rw[aI,b7.out];omega);have kn:off=0:=by
    rcases dr.2 with⟨h, -⟩|⟨ld,cap,k',h, -⟩
    ·have:=(Value.slice.inj h).2.1;omega
    ·have h2:=(Value.slice.inj h).1;rw[hh]at h2;injection h2 with h2;injection h2
   subst hh kn;obtain⟨c1,cf,ki, -,gR, -, -⟩:=ajM dr;obtain⟨ix,iv⟩:=aA cf (dJ ((a fj).1 X).base.size gR);have g:=aK _ _ X cc;go_wp2_with fail;refine f _ _ g ?_;clear f n X dr cc cN kp cf ki gR;have X:=g;clear g;refine aL ?_;refine ay 10 ?_;refine dP ?_;have i':=O ((a b0).1 X).base;clear X aK a bR;go_wp2;go_meet;exact⟨j2,cC,c1,F,ix,hv,kl,iv,i'⟩
  as_aux_lemma=>
  obtain⟨a3,b',c1,rfl,cf,hw,km,hg,cc⟩:=hcut;obtain⟨b0,cW⟩:=aF wc;rw[cW]at cf cc⊢;obtain⟨c',bh,d5⟩:=aW cf cc hg;clear cW wc cf cc hg eb;obtain⟨A,ch,ka,kb,kc,dq⟩:=anp hR a8 J J;obtain⟨cn,hK⟩:∃cn,ee[ch]? =some cn:=⟨_,mG (by rw[b7.out];exact dq)⟩;have kk:=c'.cell' (i:=ch) (v:= .int .u8 (cn.toNat:Int)) (by rw[zY (by rw[aI,b7.out];exact dq),iT,hK];rfl);have eK:=c'.frozen ch;have jx:=bU ((ch:Int)<0);have jz:((a8:Int)==0)=false:=by simp;omega
  have kf:¬((a8:Int)=0):=J;have fb:=TI cn x;clear hK;go_upto_region 28 with(fail);generalize fa:setCell b0 _ _=c5;obtain⟨a9,eC⟩:=aF (ee.set ch (C_ cn x));have g3:au c5 a3 (a9.map Y++c1) 5:=by
   have h:=c'.set ch (Y (C_ cn x));rw[set_append_left _ _ (by rw[aI,b7.out];exact dq),<-zV,eC]at h;rw[<-fa];exact h
  have h4:=kE fa;obtain⟨gg,fR⟩:=aA (show a9.length=a8 by rw[<-eC,length_set,b7.out]) g3;have ep:aj H c5:=h4.ext bh d5;obtain⟨dj,dC⟩:=aA (an.ext ep) (bd.ext ep);have le:a2≠a3:=by have:=bd.lt;have:=d5.out;omega
  clear fa eC g3 h4 ep kk eK ka kb kc dq fb c' bh jx jz kf b7 an bd d5
  as_aux_lemma=>
  obtain⟨C,a,aK⟩:=nR Q;have bR:C c5:=(a _).2 dj.e;refine fF λX=> ?_;refine ay 0 ?_;refine ay 1 ?_;refine ay 2 ?_;refine ay 3 ?_;refine ay 4 ?_;refine ay 5 ?_;refine aV 6 F (aY F (λd _=>yG (k:=l) F F F underlying24 SX ey d)) ?_;refine ay 8 ?_;refine ay 9 ?_;refine ay 10 ?_;have bh:=O ((aj.refl c5).drew);generalize drew c5=c3 at X bh⊢;refine aT 7 ?_;intro n f;go_wp2_with fail;refine(d7 c3 (dj.e.ext bh)).mono ?_;rintro a0 co ⟨v,rfl,ow,bp⟩;obtain⟨ds,dt,rfl,eR, -,cS⟩:=j3 ow;have eS:=R4 ow;obtain⟨dc,fN⟩:=aA cS (bh.ext bp);have g:=aK _ _ X bp;go_wp2_with fail;refine f _ _ g ?_;clear f n X ow bp cS bh;have X:=g;clear g;refine aL ?_;refine aT 11 ?_;intro n f;go_wp2_with fail;refine(acy l ci o dt ds co cx ke J cw eR eS dc).mono ?_;rintro a0 c4 ⟨v,rfl,ow,br⟩;obtain⟨ff,fg,rfl,e1, -, -⟩:=j3 ow;obtain⟨cr,d8,b5⟩:=aW (fN.ext br) ow (aj4 lU l ci o cx cw);obtain⟨bw,cU⟩:=aF (xM dN ci o);rw[cU]at d8 b5 e1⊢;have g:=aK _ _ X br;go_wp2_with fail;refine f _ _ g ?_;clear f n X ow br fN cU;have X:=g;clear g;refine aL ?_;refine aT 12 ?_;intro n f;go_wp2_with (fail);refine f _ _ X ?_;clear f n;refine aL ?_;refine aT 13 ?_;intro n f;go_wp2_with (refine aZ F _ _ _ F F F (dC.ext cr) yB F (xs:=sS (o:Int) (l:Int) (.slice ff bw.length fg)) F (abS _ _ _ _ _) ?_);intro V gn c2;have ly:=i5.out;have bm:aj Q V:=c2.ext ((a c4).1 X) J;have gj:=JZ d8 c2 (dC.ext cr) bS;obtain⟨k9,cD,kt, -, -,cP⟩:=j3 gj;injection kt with e2 _ ks;subst e2 ks;obtain⟨b2,f7,iu,ax⟩:=bT gn cP ((fR.ext cr).upd c2 J) ((dj.ext cr).mut (gL.RV (M:=λb=>b=a2) c2 F) bm (λi=>⟨(b6 i).1,(b6 i).2⟩))
  refine f _ _ ((a V).2 bm) ?_;clear f n X gj gn c2 bm cP d8 cr fR dj dC b6 dc;refine aL ?_;refine dP ?_;clear aK a bR
  as_aux_lemma=>
  unfold maxLen at km;have gf:=O (show aM V (some ⟨a3,0,none⟩) (a9.map Y)from by
   have h:=(aM.iM iu).take (a9.map Y).length;rw[oo F]at h;exact h)
  have al:=λ(u:Int) z (e:aj V z)=>VP az W k ar G u a9 (some ⟨a3,0,none⟩) a8 b' (o:Int) (l:Int) bw bw.length fg ff z ((ax.ext e).wa 0) gg hw J J (λh=>by cases h) (gf.ext e) b5 F e1 (f7.ext e) J;have am:=λ(u:Int) z (e:aj V z)=>WY aE aa k aw G u a9 (some ⟨a3,0,none⟩) a8 b' (o:Int) (l:Int) bw bw.length fg ff z ((ax.ext e).wa 1) gg hw J J (λh=>by cases h) (gf.ext e) b5 F e1 (f7.ext e) J;obtain⟨fS,fW,fX,fY⟩:=bT (al o) (am o) (al (o+1)) (am (o+1));obtain⟨gh,g1⟩:=aF (IB G (o:Int) a9 (o:Int) (l:Int) bw);obtain⟨gi,g2⟩:=aF (IB G ((o:Int)+1) a9 (o:Int) (l:Int) bw);rw[g1]at fS fW;rw[g2]at fX fY;have lb:(gh != gh)=false:=aB;have lc:(gi != gi)=false:=aB;clear g1 g2 al am;go_upto_region 29 with fail;obtain⟨C,a,aK,bR⟩:=fK (show bM V V [] [] V from bM.iP (aj.refl _) (dR.none _));refine fF λX=> ?_;refine ay 0 ?_;refine ay 1 ?_;refine ay 2 ?_;refine ay 3 ?_;refine ay 4 ?_;refine aV 5 F (gP F 61 _ F F (λd h=>b2.ext ((a d).1 h).base) yB F) ?_;refine ay 7 ?_;refine ay 8 ?_;refine ay 9 ?_;refine ay 10 ?_;refine ay 11 ?_;refine aV 12 F (gP F 61 _ F F (λd h=>b2.ext ((a d).1 h).base) yB F) ?_;generalize drew V=hU at X⊢;refine aT 6 ?_;intro n f;go_wp2_with fail;refine(fS hU ((a hU).1 X).base).mono ?_;rintro e hV ⟨rfl,ad⟩;replace X:=aK _ _ X ad;go_wp2_with fail;refine f _ _ X ?_;clear f n ad;refine aL ?_;refine aT 13 ?_;intro n f;go_wp2_with fail;refine(fW hV ((a hV).1 X).base).mono ?_;rintro e hW ⟨rfl,ad⟩;replace X:=aK _ _ X ad;go_wp2_with fail;refine f _ _ X ?_;clear f n ad;refine aL ?_
  refine ay 14 ?_;refine ay 15 ?_;refine ay 16 ?_;refine ay 17 ?_;refine ay 18 ?_;refine ay 19 ?_;refine ay 20 ?_;refine ay 21 ?_;refine aV 22 F (gP F 61 _ F F (λd h=>b2.ext ((a d).1 h).base) yB F) ?_;refine ay 24 ?_;refine ay 25 ?_;refine ay 26 ?_;refine ay 27 ?_;refine ay 28 ?_;refine ay 29 ?_;refine aV 30 F (gP F 61 _ F F (λd h=>b2.ext ((a d).1 h).base) yB F) ?_;refine aT 23 ?_;intro n f;go_wp2_with fail;refine(fX hW ((a hW).1 X).base).mono ?_;rintro e hX ⟨rfl,ad⟩;replace X:=aK _ _ X ad;go_wp2_with fail;refine f _ _ X ?_;clear f n ad;refine aL ?_;refine aT 31 ?_;intro n f;go_wp2_with fail;refine(fY hX ((a hX).1 X).base).mono ?_;rintro e kO ⟨rfl,ad⟩;replace X:=aK _ _ X ad;go_wp2_with fail;refine f _ _ X ?_;clear f n ad;refine aL ?_;refine ay 32 ?_;refine ay 33 ?_;refine dP ?_;have ge:=O (ax.ext ((a kO).1 X).base);clear X aK a bR;go_wp2;go_roundw
  ·exact⟨j+1,G,D,ar,aw,a6,a7,J,by go_num,J,J,ge,b1.ext ge.e⟩
  ·exact fV
end Go.Proofs.YtjlhhnkhcbpnjaaGreatDoor
