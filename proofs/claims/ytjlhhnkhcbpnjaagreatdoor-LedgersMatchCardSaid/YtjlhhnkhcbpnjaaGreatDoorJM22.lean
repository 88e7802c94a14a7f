/- Laws that the row leans on; no condition. -/
import Derived.Test.YtjlhhnkhcbpnjaaGreatDoorJM21
import Derived.Test.YtjlhhnkhcbpnjaaGreatDoorJM29
namespace Go.Proofs.YtjlhhnkhcbpnjaaGreatDoor
open Go Go.RowKit List Tryz
set_option linter.unusedVariables false
set_option linter.unusedSimpArgs false
set_option maxHeartbeats 40000000
set_option maxRecDepth 100000
section
open Go Go.RowKit
section
variable {P:Program} {t e:TypeId} {z y:Nat}
theorem adF(T:pO P t e z y)(ty:TypeId)(w:World)(B:Nat){v:Value}{n c:Nat}{xs:aO}(E:w.ownsRow B e z v n xs):
 (Builtin.append_ #[t,t] ty #[v,.slice none 0 c]).run P w= .ok v w:=by
 obtain⟨i,ab,j,R,mU,I,aa⟩:=T.info;have ht:=T.hu;rcases E.2 with⟨rfl,rfl⟩|⟨g,cap,cu,rfl,_,_,u,_⟩
 ·simp[Builtin.append_,run_underlying ht,sizeOf,typeInfo,j,Builtin.lenOf,Builtin.firstCells]
 ·simp[Builtin.append_,run_underlying ht,sizeOf,typeInfo,j,Builtin.lenOf,Builtin.firstCells,u,storeCells]
theorem adG(T:pO P t e z y)(ty:TypeId)(w:World)(B:Nat){v:Value}{n m c:Nat}{xs news:aO}{j:aN}(E:w.ownsRow B e z v n xs)(R:news.length=m*z)(hc:aK w j news)(aa:∀u∈news,u.oneCell'=true)
 (ab:n+m<=140737488355328)(hb:(n+m)*y<=140737488355328)(ac:B<=w.heap.size):
 ∃v' w',(Builtin.append_ #[t,t] ty #[v,.slice j m c]).run P w= .ok v' w'/\w'.ownsRow B e z v' (n+m) (xs++news)/\w.grownBy w' v.ownBlock/\
  (v'.ownBlock=v.ownBlock∨v'.ownBlock=some w.heap.size):=by
 cases j with
 |some j=>exact QI T ty w B E R (wX hc) aa ab hb ac
 |none=>
  have hn:news=[]:=by
   rcases hc with h|⟨_,_,h,_⟩
   ·exact h
   ·cases h
  subst hn;obtain rfl:m=0:=by
   have:=T.pos;rcases Nat.eq_zero_or_pos m with h|h
   ·exact h
   ·have I:=Nat.mul_pos h this;rw[<-R]at I;exact absurd I aF
  refine⟨v,w,adF T ty w B E,by simpa using E,⟨F,F,F,Nat.le_refl _,fun _ _ _=>rfl⟩,.inl F⟩
variable {ops:Array Oper} {rest:List Oper} {o:Oper} {a:Act} {w:World} {Q:Exit->Act->World->Prop}
theorem adH(T:pO P t e z y)(ae:o.guard=none)(s x:Operand)(ag:o.op= .call {callee:= .builtin .append,args:= #[s,x],argTypes:= #[t,t]})(B:Nat){v:Value}{n m c:Nat}{xs news:aO}{j:aN}
 (hs:a.eval s=v)(am:a.eval x= .slice j m c)(ai:w.ownsRow B e z v n xs)(af:news.length=m*z)(hc:aK w j news)(E:∀u∈news,u.oneCell'=true)
 (ab:n+m<=140737488355328)(hb:(n+m)*y<=140737488355328)(ad:B<=w.heap.size)
 (h:∀v' w',w'.ownsRow B e z v' (n+m) (xs++news)->w.grownBy w' v.ownBlock->(v'.ownBlock=v.ownBlock∨v'.ownBlock=some w.heap.size)->wpList P ops Q rest (a.put o.dst v') w'):wpList P ops Q (o::rest) a w:=by
 obtain⟨v',w',al,I,R,aa⟩:=adG T o.type w B ai af hc E ab hb ad;exact wpList_plain ae fun K ac=>Lib.wp_append_run w s x _ _ ag v _ hs am v' w' al (ac _ _ (h v' w' I R aa))
end
end
def nN(w:World)(a:aN):Prop:=∀A,a=some A->∃j z,w.heap[A.block]? =some (.cells j 5 z)
theorem nN.none(w:World):nN w .none:=fun A h=>by cases h
theorem nN.ext{w w':World}{a:aN}(h:nN w a)(e:X w w'):nN w' a:=fun A E=>by
 obtain⟨u,z,j⟩:=h A E;exact⟨u,z,(e.block A.block (Array.getElem?_eq_some_iff.1 j).1).trans j⟩
theorem nN.upd{w w':World}{g:Nat}{a:aN}(h:nN w a)(u:aU w g w')(R:∀A,a=some A->A.block≠g):nN w' a:=fun A j=>by
 obtain⟨E,z,I⟩:=h A j;exact⟨E,z,(u.block A.block (R A j)).trans I⟩
theorem nN.ne{w:World}{g:Nat}{a:aN}{vs:aO}{T:TypeId}(h:nN w a)(hb:ah w g vs T)(E:5≠T):∀A,a=some A->A.block≠g:=fun A u e=>by
 obtain⟨I,z,j⟩:=h A u;unfold ah at hb;rw[e,hb]at j;injection j with j;injection j with _ j _;exact E j.symm
theorem h_.gP{w:World}{B n m c:Nat}{a:aN}{xs:aj}(h:h_ w B (.slice a n c) m xs):nN w a:=fun A u=>by
 rcases h.2 with⟨j,_⟩|⟨g,cap,cu,E,j,_,I,_⟩
 ·injection j with j;rw[j]at u;cases u
 ·injection j with j;rw[j]at u;injection u with u;rw[<-u];exact⟨cu,E,I⟩
def Nl(S:aV)(j act:Int)(bI key:aj)(b:ay)(w:World)(x:Ending)(w':World):Prop:=
 X w w'/\((jS act b≠0/\x= .returned (.tuple #[.agg dS.v.toArray,.int .i64 (jS act b)]))∨
  (jS act b=0/\∃e:aG,e.Ok w'/\e.num=(S.cnt:Int)/\e.time=j/\e.act=act/\e.bI=bI/\e.key=key/\e.prev=S.last/\e.body=fG (gy act) b.p/\(∀A,e.ba=some A->w.heap.size<=A.block)/\nN w' e.ba/\
   x= .returned (.tuple #[.agg (if dN e=0 then e else dS).v.toArray,.int .i64 (dN e)])))
theorem adx(p:Nat)(S:aV)(al act:Int)(bI key:aj)(b:ay)(w:World)(h:dJ w p S)(hb:b.Ok w)(ha:bI.length=16)(hk:key.length=16):
 Calls prog 46 #[.pointer (some ⟨p,0,none⟩),.int .i64 al,.int .i64 act,.agg (bI.map Y).toArray,.agg (key.map Y).toArray,.agg b.v.toArray] w (Nl S al act bI key b w):=by
 obtain⟨nA,be,b',cf,cE,cF,cG,cC⟩:=jg h (And.intro h.hl h.hf) ha hk (show(bI.map Y).length=16 by rw[length_map,ha]) (show(key.map Y).length=16 by rw[length_map,hk]) (show(S.last.map Y).length=32 by rw[length_map,h.hl]) (ay.len hb);obtain⟨za,bv⟩:=aB (fun z=>Qs (Ed (act:=act) (b:=b) z) hb.hm hb.hcm hb.rl hb.hl hb.h16) (fun I (a7:X w I)=>adw act b I (hb.ext a7));obtain⟨cV,bp⟩:=jE (Nl S al act bI key b w:Ending->World->Prop);rw[<-bp];have bh:=O bp;clear h hb ha hk bp;go_enter func46,ntmps46;go_upto_region 1 with fail;generalize iX:World.alloc w _=an;generalize a9:World.alloc an _=wB;generalize a_:World.alloc wB _=ao;generalize bx:World.alloc ao _=wD;have bz:an.heap.size=w.heap.size+1:=by rw[<-iX];exact gU _ _
 have b0:wB.heap.size=w.heap.size+1+1:=by rw[<-a9,gU,bz]
 have cx:ao.heap.size=w.heap.size+1+1+1:=by rw[<-a_,gU,b0]
 have ch:ah an w.heap.size (bI.map Y) 29:=by rw[<-iX];exact ah.aI F F
 have ci:ah wB (w.heap.size+1) (key.map Y) 29:=by rw[<-a9];exact ah.aI bz.symm rfl
 have cj:ah ao (w.heap.size+1+1) b.v 101:=by rw[<-a_];exact ah.aI b0.symm rfl
 have ck:ah wD (w.heap.size+1+1+1) dS.v 34:=by rw[<-bx];exact ah.aI cx.symm rfl
 have cm:X w an:=by rw[<-iX];exact(X.refl w).alloc _
 have bk:X an wB:=by rw[<-a9];exact(X.refl an).alloc _
 have a6:X wB ao:=by rw[<-a_];exact(X.refl wB).alloc _
 have ax:X ao wD:=by rw[<-bx];exact(X.refl ao).alloc _
 obtain⟨aE,a0,a1,ad,af⟩:=dM (((ch.ext bk).ext a6).ext ax) ((ci.ext a6).ext ax) (cj.ext ax) ck (((cm.ext bk).ext a6).ext ax);clear iX a9 a_ bx ch ci cj ck cm bk a6 ax bz b0 cx;obtain⟨b9,cp⟩:=aC (w.heap.size+1+1+1);have bt:w.heap.size<=b9:=J;rw[cp]at ad⊢;clear cp;obtain⟨cS,co⟩:=aC (w.heap.size+1+1);rw[co]at a1⊢;clear co;obtain⟨cR,cn⟩:=aC (w.heap.size+1);rw[cn]at a0⊢;clear cn;obtain⟨cQ,bo⟩:=aC w.heap.size;rw[bo]at aE
 conv=>rw[bo]
 clear bo;go_wp2_with (refine bV F 101 _ F F a1 eP cC ?_);refine(bv wD af).mono ?_;rintro cL am ⟨u,⟨ac,v,rfl,own⟩|⟨ac,rfl⟩⟩
 case inr=>
  have cP:(jS act b != 0)=true:=by simp;exact ac
  have n2:decide (jS act b=0)=false:=aP ac;obtain⟨a5,a2,ag⟩:=aW ac (ad.ext u) (af.ext u);clear ac u aE a0 a1 ad af bv;generalize aa:jS act b=E at*;have cD:=O aa;clear aa;go_wp2_with (refine bg F _ _ _ F F F a2 cZ dZ (xs:=dS.v) dZ (i_ dS) ?_);intro wE aw ab;go_wp2_with fail;refine iy F F aw cZ dZ F ?_;rw[bh.out];unfold Nl;rw[cD.out];exact⟨ab.ext ag bt,.inl ⟨a5,F⟩⟩
 have ai:=O own;obtain⟨a,c,rfl,a8,cN,cv,hcl⟩:=own.slice;have a5:=O ac;have cP:(jS act b != 0)=false:=by simp;exact ac
 have za:=za.out ac;obtain⟨B,bm⟩:=aC (fG (gy act) b.p);rw[bm]at hcl a8 ai za⊢;obtain⟨n,hn⟩:=aC B.length;rw[hn]at a8 ai⊢;obtain⟨cU,cA,b2,b3,a2,ag⟩:=iq hn bm (aE.ext u) (a0.ext u) (ad.ext u) (af.ext u);have a4:Hid (aG.Ok am ⟨(S.cnt:Int),al,act,bI,key,S.last,a,n,c,B⟩):=O ⟨b',cf,be.1,hn,a8,(by show n<=140737488355328;omega),fun cM=>(by have a7:=cv cM;show n=0/\c=0;omega),hcl⟩;have cc:Hid (bJ am wD.heap.size a (B.map Y)):=O (L8 hcl (fun A R _=>ai.pK A.block (by rw[R];rfl)));have a3:=O (show∀A,a=some A->wD.heap.size<=A.block from fun A R=>ai.pK A.block (by rw[R];rfl));have cI:=O ai.gP;have cs:b9<wD.heap.size:=ad.lt;have ct:w.heap.size<=wD.heap.size:=af.size;generalize wD.heap.size=cW at*;clear hcl a8 cN cv hn bm ac za u own ai aE a0 a1 ad af bv;go_upto_region 4 with fail;obtain⟨C,iB,aJ,bP⟩:=iw (show bT am am [] [] am from bT.jA (X.refl _) (dV.none _));have cl:∀I,C I->I.cell? ⟨p,0,none⟩=some (.int .i64 (S.cnt:Int)):=fun I a7=>((nA.ext (ag.ext ((iB I).1 a7).base)).blk).cell' (aV.aL S);refine fJ fun Z=> ?_;refine aA 0 ?_;refine aA 1 ?_;refine aA 2 ?_;refine dA 3 (cl) ?_;refine aA 4 ?_;refine aA 5 ?_;refine bD 6 F (oC F 29 _ F F (fun I h=>b2.ext ((iB I).1 h).base) dh cE) ?_;refine bD 7 F (oC F 29 _ F F (fun I h=>b3.ext ((iB I).1 h).base) dh cF) ?_;refine aA 8 ?_;refine aA 9 ?_;refine aA 10 ?_;refine bD 11 F (bf F (fun I h=>bQ F F (dF (nA.ext (ag.ext ((iB I).1 h).base)).blk (aV.last_at be.1)) bY cG)) ?_;refine aA 12 ?_;refine bD 13 F (bf F (fun I h=>QH B F F F F F F F F b' cf be.1 I)) ?_;generalize World.drew am=ap at Z⊢
 obtain⟨e,br⟩:=aC ((⟨(S.cnt:Int),al,act,bI,key,S.last,a,n,c,B⟩:aG):aG);rw[br]at a4⊢;obtain⟨cb,aq⟩:=aB br (aG.len a4);clear br;refine aZ 14 ?_;intro bj az;go_wp2_with fail;refine az _ _ (aJ _ _ Z ((X.refl ap).alloc _)) ?_;clear az bj;generalize bw:World.alloc ap _=b1;have ar:ah b1 ap.heap.size (dS.v) 34:=by rw[<-bw];exact ah.aI F F
 have cr:C b1:=by rw[<-bw];exact aJ _ _ Z ((X.refl ap).alloc _)
 have cq:=((iB ap).1 Z).kept.1;have b6:=O ar;clear Z bw ar;have Z:=cr;clear cr;generalize ap.heap.size=cT at*;refine aH ?_;refine aZ 15 ?_;intro bj az;go_wp2_with (refine bg F _ _ _ F F F b6 cZ dZ aq (i_ _) ?_);intro ba ar cy;replace Z:C ba:=(iB ba).2 (((iB b1).1 Z).upd cy cq (by first|exact Nat.le_refl _|omega));go_wp2_with fail;refine az _ _ Z ?_;have bc:=O ar;clear az bj ar cy b6;refine aH ?_;refine dH ?_;have ae:=O ((iB ba).1 Z).base;obtain⟨b4,b7,bd,cd,cJ⟩:=dM (a2.ext ae) (ag.ext ae) (a4.ext ae) (cc.ext' ae) (cI.ext ae);clear Z aJ iB cl bP cq a4 cc a2 b2 b3 ag ae nA;go_wp2_with (refine bV F 34 _ F F bc cZ aq ?_);refine(Ei e ba bd).mono ?_;rintro cL c0 ⟨rfl,u⟩;obtain⟨cz,b5,b8,ca,ce,cg⟩:=iq (bc.ext u) (b4.ext u) (b7.ext u) (bd.ext u) (cd.ext' u) (cJ.ext u);clear u bc b4 b7 bd cd;have j:Hid (e.num=(S.cnt:Int)/\e.time=al/\e.act=act/\e.bI=bI/\e.key=key/\e.prev=S.last/\e.body=fG (gy act) b.p/\e.ba=a/\e.body=B):=O (by rw[<-cb.out,cA.out];exact⟨F,F,F,F,F,F,F,F,F⟩);clear cb;by_cases aa:dN e=0
 ·have HZ:=O aa;have bi:=O (show e=(if dN e=0 then e else dS) by rw[if_pos aa]);rw[aa];clear aa;go_wp2_with (first|(refine bV F 34 _ F F cz cZ aq ?_)|(refine bg F _ _ _ F F F b5 cZ dZ aq (i_ e) ?_));intro wE aw ab;go_wp2_with fail;refine iy F F aw cZ aq F ?_;rw[bh.out];have bl:=ab.ext b8 bt;have bu:=ce.QN ab (.inl cs);refine⟨bl,.inr ⟨a5,e,?_,j.1,j.2.1,j.2.2.1,j.2.2.2.1,j.2.2.2.2.1,j.2.2.2.2.2.1,j.2.2.2.2.2.2.1,?_,?_,by rw[<-bi.out,HZ.out];rfl⟩⟩
  ·exact{ca with hcl:=by rw[j.2.2.2.2.2.2.2.1,j.2.2.2.2.2.2.2.2];exact bu.cells}
  ·rw[j.2.2.2.2.2.2.2.1];exact fun A R=>Nat.le_trans ct (a3 A R)
  ·rw[j.2.2.2.2.2.2.2.1];exact cg.upd ab (fun A R=>by have:=a3.out A R;omega)
 ·have cX:(dN e != 0)=true:=by simp;exact aa
  have bi:=O (show dS=(if dN e=0 then e else dS) by rw[if_neg aa]);have cY:decide (dN e=0)=false:=aP aa;generalize cw:dN e=E at*;have cH:=O cw;clear aa cw;go_wp2_with (refine bg F _ _ _ F F F b5 cZ dZ (xs:=dS.v) dZ (i_ dS) ?_);intro wE aw ab;go_wp2_with fail;refine iy F F aw cZ dZ F ?_;rw[bh.out];have bl:=ab.ext b8 bt;have bu:=ce.QN ab (.inl cs);refine⟨bl,.inr ⟨a5,e,?_,j.1,j.2.1,j.2.2.1,j.2.2.2.1,j.2.2.2.2.1,j.2.2.2.2.2.1,j.2.2.2.2.2.2.1,?_,?_,by rw[cH.out,<-bi.out];rfl⟩⟩
  ·exact{ca with hcl:=by rw[j.2.2.2.2.2.2.2.1,j.2.2.2.2.2.2.2.2];exact bu.cells}
  ·rw[j.2.2.2.2.2.2.2.1];exact fun A R=>Nat.le_trans ct (a3 A R)
  ·rw[j.2.2.2.2.2.2.2.1];exact cg.upd ab (fun A R=>by have:=a3.out A R;omega)
def qP:aT:=[⟨#[97,100,109,105,110]⟩,⟨#[117,115,101,114]⟩]
def nO(g:Nat):ay:={dI with member:=kQ 0,ra:=some ⟨g,0,none⟩,rn:=2,rc:=2,roles:=qP}
theorem E_:kP 0=0:=aX
theorem IZ(g:Nat):jS 2 (nO g)=0:=by
 have j:(!iI 2)=false:=aX;have u:nX (nO g) (lT 2)=false:=au;have E:(decide (32768<(nO g).text.size)||(decide (16<(nO g).rn)||decide (32<(nO g).hn)))=false:=au;have I:(vV (nO g).roles != 0)=false:=au;have R:(dK 2 3&& !jK (nO g).label.data.toList)=false:=au;have aa:pJ 2 (nO g)=false:=au;have ab:(!tZ (nO g).mK)=false:=by
  have:tZ (nO g).mK=true:=Gi.2 (q_.one _ (show(0:Nat)<=1 by omega));rw[this];rfl
 unfold jS;rw[j,u,E,I,R,aa,ab];rfl
theorem ady(g:Nat):kE kF 2 (fG (gy 2) (nO g).p)=((nO g).p,0):=by
 rw[<-Qx];exact Yi (IZ g) (qN 0) F F F (fun _ h=>by cases h)
theorem I4{e:aG}{g:Nat}(hn:e.num=0)(ht:e.time=1000)(ha:e.act=2)(hb:e.body=fG (gy 2) (nO g).p):dN e=0/\mO e=(nO g).p:=by
 have j:kE kF e.act e.body=((nO g).p,0):=by rw[ha,hb];exact ady g
 refine⟨?_,by unfold mO;rw[j]⟩;unfold dN;rw[j,hn,ht];rfl
theorem Np{e:aG}{g:Nat}(hn:e.num=0)(ht:e.time=1000)(ha:e.act=2)(hc:e.bI=kQ 0)(hk:e.key=fO)(I:e.prev=kN)(hb:e.body=fG (gy 2) (nO g).p):dw.zero.ref e=0:=by
 obtain⟨u,E⟩:=I4 hn ht ha hb;have j:(mO e).member=kQ 0:=by rw[E];rfl
 unfold dw.ref;rw[if_neg (by simp[u]),if_neg (by simp[hn,dw.zero]),if_neg (by simp[I,dw.zero]),if_neg (by rw[ht];decide),if_neg (by simp[ha]),if_neg (by rw[j,hc];simp[dw.zero]),if_neg (by simp[ha]),if_neg (by rw[ha];decide),
  if_pos (by rw[ha];decide),if_neg (by simp[hk])]
 unfold dw.EG;rw[if_pos ha,j,if_neg (by simp[dw.zero,bW,jq]),if_neg aX]
theorem vK{α:Type}{o:Option α}{g:α->bZ×aj}(h:∀q,o=some q->(g q).1.label.size<=255):∀p,o.map g=some p->p.1.label.size<=255:=by simp_all
theorem adz{l:aj}{p:ByteArray×aj}(h:rD l=some p):p.1.size<=255:=by
 unfold rD at h;cases j:kV l with
 |none=>rw[j]at h;cases h
 |some q=>
  rw[j]at h;have I:q.1<=255:=by
   unfold kV at j;cases ht:fK 1 l with
   |none=>rw[ht]at j;cases j
   |some u=>
    rw[ht]at j;injection j with j;rw[<-j];have:=(u.1.headD 0).toNat_lt;show(u.1.headD 0).toNat<=255;omega
  have E:(fK q.1 q.2).map (fun u=>((⟨u.1.toArray⟩:ByteArray),u.2))=some p:=h;cases ht:fK q.1 q.2 with
  |none=>rw[ht]at E;cases E
  |some u=>
   rw[ht]at E;injection E with E;rw[<-E];show u.1.toArray.size<=255;rw[size_toArray,Qw ht];exact I
theorem adA{f:aj->Int}{i:Nat}{x:bZ}{l:aj}(j:x.label.size<=255):∀p,iP f i x l=some p->p.1.label.size<=255:=by
 intro p h;unfold iP at h;by_cases E:i=0
 ·rw[if_pos E]at h;injection h with h;rw[<-h];exact j
 rw[if_neg E]at h;by_cases I:i=1
 ·rw[if_pos I]at h;exact vK (fun _ _=>j) p h
 rw[if_neg I]at h;by_cases aa:i=2
 ·rw[if_pos aa]at h;cases u:kV l with
  |none=>rw[u]at h;cases h
  |some q=>rw[u]at h;exact vK (fun _ _=>j) p h
 rw[if_neg aa]at h;by_cases ab:i=3
 ·rw[if_pos ab]at h;exact vK (fun q al=>adz al) p h
 rw[if_neg ab]at h;by_cases ac:i=4
 ·rw[if_pos ac]at h;exact vK (fun _ _=>j) p h
 rw[if_neg ac]at h;by_cases ad:i=5
 ·rw[if_pos ad]at h;exact vK (fun _ _=>j) p h
 rw[if_neg ad]at h;by_cases ae:i=6
 ·rw[if_pos ae]at h;exact vK (fun _ _=>j) p h
 rw[if_neg ae]at h;by_cases af:i=7
 ·rw[if_pos af]at h;exact vK (fun _ _=>j) p h
 rw[if_neg af]at h;by_cases ag:i=8
 ·rw[if_pos ag]at h;exact vK (fun _ _=>j) p h
 rw[if_neg ag]at h;by_cases ai:i=9
 ·rw[if_pos ai]at h;cases u:kV l with
  |none=>rw[u]at h;cases h
  |some q=>rw[u]at h;exact vK (fun _ _=>j) p h
 rw[if_neg ai]at h;by_cases R:i=10
 ·rw[if_pos R]at h;exact vK (fun _ _=>j) p h
 rw[if_neg R]at h;exact vK (fun _ _=>j) p h
theorem UG{f:aj->Int}:∀(s:List Nat) (x:bZ) (l:aj),x.label.size<=255->∀p,jC f s x l=some p->p.1.label.size<=255
 |[],x,l,hx,p,h=>by injection h with h;rw[<-h];exact hx
 |i::s,x,l,hx,p,h=>by
  rw[jC]at h;cases hf:iP f i x l with
  |none=>rw[hf]at h;cases h
  |some q=>
   rw[hf]at h;exact UG s q.1 q.2 (adA hx q hf) p h
theorem Nq(e:aG):(mO e).label.size<=140737488355328:=by
 have j:kD.label.size<=255:=aX;have h:(kE kF e.act e.body).1.label.size<=255:=by
  unfold kE;split
  ·exact j
  split
  ·exact j
  split
  ·exact j
  ·rename_i x rest u;split
   ·exact j
   split
   ·exact UG _ _ _ j _ u
   ·exact j
 unfold mO;omega
theorem Fa(p:Nat)(S:aV)(u act:Int)(bI key:aj)(b:ay)(w:World)(h:dJ w p S)(hb:b.Ok w)(ha:bI.length=16)(hk:key.length=16):
 Calls prog 46 #[.pointer (some ⟨p,0,none⟩),.int .i64 u,.int .i64 act,.agg (bI.map Y).toArray,.agg (key.map Y).toArray,.agg b.v.toArray] w fun x w'=>
  ∃(r:aG) (E:Int),x= .returned (.tuple #[.agg r.v.toArray,.int .i64 E])/\r.Ok w'/\(∀A,r.ba=some A->w.heap.size<=A.block)/\nN w' r.ba/\(E=0->dN r=0)/\
   (jS act b=0->(∀e:aG,e.num=(S.cnt:Int)->e.time=u->e.act=act->e.body=fG (gy act) b.p->dN e=0)->E=0/\r.num=(S.cnt:Int)/\r.time=u/\r.act=act/\r.bI=bI/\r.key=key/\r.prev=S.last/\r.body=fG (gy act) b.p)/\X w w':=by
 refine(adx p S u act bI key b w h hb ha hk).mono ?_;rintro x w' ⟨I,⟨R,rfl⟩|⟨R,e,ai,ab,ac,ad,al,am,an,ae,af,ag,rfl⟩⟩
 ·exact⟨dS,_,F,EJ w',fun A aa=>(by cases aa),nN.none _,fun h=>absurd h R,fun h=>absurd h R,I⟩
 ·by_cases j:dN e=0
  ·rw[if_pos j];exact⟨e,_,F,ai,af,ag,fun h=>h,fun _ _=>⟨j,ab,ac,ad,al,am,an,ae⟩,I⟩
  ·rw[if_neg j];exact⟨dS,_,F,EJ w',fun A aa=>(by cases aa),nN.none _,fun h=>absurd h j,fun _ ao=>absurd (ao e ab ac ad ae) j,I⟩
theorem adB(p:Nat)(S:aV)(e:aG)(w:World)(h:dJ w p S)(E:e.Ok w)(I:dN e=0):
 Calls prog 52 #[.pointer (some ⟨p,0,none⟩),.agg e.v.toArray] w fun x w'=>x= .returned (.tuple #[.agg (S.oq e (S.lab e)).v.toArray,.int .i64 0])/\(S.oq e (S.lab e)).Ok w'/\X w w':=by
 obtain⟨a1,nA,HZ,am,ag⟩:=dM E h I (aG.len E) (fun u (j:X w u)=>aV.EP (h.ext j) (E.ext j) (aV.IC h (Nq e)));obtain⟨al,ai,aw⟩:=aW (show(S.oq e (S.lab e)).v.length=68 from eu.len (ag w (X.refl _))) (fun u (j:X w u)=>Ei e u (E.ext j)) (fun u (j:X w u)=>SS p S e u (h.ext j) (E.ext j) I);rw[I]at ai;generalize S.oq e (S.lab e)=a0 at*;clear h E I;go_enter func52,ntmps52;go_upto_region 1 with fail;generalize iX:World.alloc (World.alloc w _) _=R;have an:ah R w.heap.size e.v 34:=by rw[<-iX];exact(ah.aI F F).alloc _
 have ao:ah R (w.heap.size+1) yR.v 108:=by rw[<-iX];exact ah.aI (gU _ _).symm rfl
 have ap:X w R:=by rw[<-iX];exact((X.refl w).alloc _).alloc _
 obtain⟨aa,ad,EA⟩:=aW an ao ap;clear iX an ao ap;go_wp2_with (refine bV F 34 _ F F aa cZ am ?_);refine(ai R EA).mono ?_;rintro x u ⟨rfl,j⟩;obtain⟨ac,ae,ab⟩:=aW (aa.ext j) (ad.ext j) (EA.ext j);clear j aa ad EA;go_wp2_with (refine bV F 34 _ F F ac cZ am ?_);refine(aw u ab).mono ?_;rintro x w2 ⟨rfl,e2⟩;obtain⟨aq,ar⟩:=aB (ae.ext e2) (ab.ext e2);clear e2 ac ae ab;go_wp2_with (refine bg F _ _ _ F F F aq vI F al (ER _) ?_);intro aE ax az;have af:=O (az.ext ar J);go_wp2_with fail;refine iy F F ax vI al F ⟨F,ag aE af,af⟩
theorem adC:∀k:Fin 16,zF.extract k.val (k.val+1)=aY [pF k.val]:=aX
theorem adD(k:Nat)(h:k<16)(w:World):(Instr.sliceAt 9 (.string zF) (some (.int .u8 (k:Int))) (some (.int .u8 ((k:Int)+1))) none).run prog w= .ok (.string (aY [pF k])) w:=by
 rw[run_sliceAt_string w 9 _ _ _ _ underlying9,run_slice_string w 9 zF .u8 .u8 (k:Int) ((k:Int)+1) underlying9 J J (by show(k:Int)+1<=16;omega)];have e:((k:Int)+1).toNat=k+1:=J;rw[Int.toNat_natCast,e,adC ⟨k,h⟩]
theorem UH{o:Oper}{a:Act}{x y z:Operand}{k:Nat}(j:o.op= .slice 9 x (some y) (some z) none)(u:a.eval x= .string zF)(E:a.eval y= .int .u8 (k:Int))(I:a.eval z= .int .u8 ((k:Int)+1))(h:k<16)(w:World):
 (execOp a.eval o).run prog w= .ok (.value (.string (aY [pF k]))) w:=by grind [execOp,Sem.run_bind,adD,Result.andThen_ok,Sem.run_pure]
theorem yh(l:aj)(a:aN)(n c:Nat)(w:World)(ac:l.length=n)(aw:n<=140737488351232)(hc:aK w a (l.map Y)):
 nW 142 #[.slice a n c] w (.string (aY (aD l))):=by
 obtain⟨ag,E⟩:=aB hc ac;clear hc ac;have ap:({data:= #[]}:ByteArray)=aY []:=F;go_enter func142,ntmps142;go_wp2;go_loopw [8,3] (fun x v wr=>∃k:Nat,k<=n/\x= .int .i64 k/\v= .string (aY (aD (l.take k)))/\X w wr)
  (fun x _ _=>n - (intOf x).toNat)
 case atStart=>exact⟨0,J,F,F,X.refl _⟩
 case round=>
  obtain⟨k,hk,rfl,rfl,bb⟩:=hrel;by_cases j3:k<n
  ·obtain⟨b,off,rfl,ab⟩:=(ag.ext bb).gQ (by rw[length_map,E.out];omega);obtain⟨B,I⟩:∃B,l[k]? =some B:=⟨l[k]'(by rw[E.out];exact j3),aF⟩;have ar:wr.cell? ⟨b,off+k,none⟩=some (.int .u8 (B.toNat:Int)):=ab k _ (by rw[List.getElem?_map,I];rfl);clear ab;have hs:=OE l k (by rw[E.out];exact j3);rw[I,Option.getD_some]at hs;obtain⟨ai,aa⟩:=aB hs bb;clear hs I bb;have aq:=zl B;have ao:bits .and .u8 (B.toNat:Int) 15=((B.toNat%16:Nat):Int):=by rw[Kl];omega
   have R:=O (show DK B=[pF (B.toNat / 16),pF (B.toNat%16)]from F);have an:(B.toNat:Int) / 16=((B.toNat / 16:Nat):Int):=J;obtain⟨p,ad⟩:=aC (B.toNat / 16);obtain⟨q,ae⟩:=aC (B.toNat%16);have al:p<16:=by have:=B.toNat_lt;omega
   have am:q<16:=J;rw[ad]at an R;rw[ae]at ao R;clear ad ae;have j:IntKind.u8.wrap ((p:Int)+1)=(p:Int)+1:=by simp[IntKind.wrap,IntKind.bits,IntKind.signed];omega
   have w2:IntKind.u8.wrap ((q:Int)+1)=(q:Int)+1:=by simp[IntKind.wrap,IntKind.bits,IntKind.signed];omega
   have ax:IntKind.u8.wrap (p:Int)=(p:Int):=by simp[IntKind.wrap,IntKind.bits,IntKind.signed];omega
   go_wp2_with fail;obtain⟨C,iB,aJ,bP⟩:=iw (show bT w wr [] [] wr from bT.jA aa (dV.none _));refine fJ fun Z=> ?_;refine aA 0 ?_;refine aA 1 ?_;refine aA 2 ?_;refine aA 3 ?_;refine aA 4 ?_;refine aA 5 ?_;refine bD 6 F (bf F (fun j _=>UH (k:=p) F F F F al j)) ?_;refine aA 7 ?_;refine aA 8 ?_;refine aA 9 ?_;refine aA 10 ?_;refine aA 11 ?_;refine bD 12 F (bf F (fun j _=>UH (k:=q) F F F F am j)) ?_;refine bD 13 F (bf F (fun j _=>K_ (u:=[pF p]) (v:=[pF q]) F F F aF j)) ?_;refine bD 14 F (bf F (fun j _=>K_ (u:=aD (l.take k)) (v:=[pF p]++[pF q]) F F F (by rw[tX,length_take];simp;omega) j)) ?_;refine aA 15 ?_;refine dH ?_;have af:=O aa.drew;generalize wr.drew=wG at*;go_wp2;go_roundw
   case rel=>exact⟨k+1,J,by go_num,by rw[ai.out,R.out],af⟩
   case measure=>simp[intOf];omega
  ·obtain rfl:k=n:=J;have ht:l.take k=l:=take_of_length_le (by rw[E.out];exact Nat.le_refl _);rw[ht];clear ht;go_wp2;go_ret;exact⟨F,bb⟩
theorem adE{rs:List aS}{u:Nat}(h:lH rs u=0):lI rs u=iR rs/\jH (iR rs)=0/\jY rs (mM (iR rs))=true/\(iR rs).length<=65536/\wM (iR rs)=0:=by
 have R:lI rs u=iR rs:=by unfold lI;rw[if_pos h]
 by_cases E:jG rs u=0
 ·by_cases j:jH (iR rs)=0/\jY rs (mM (iR rs))=true
  ·refine⟨R,j.1,j.2,?_⟩;by_cases I:65536<(iR rs).length
   ·have:=(RI I).1;rw[this]at j;exact absurd j.1 aX
   ·refine⟨J,?_⟩;cases hb:uD (lU (iR rs))with
    |some k=>
     have:=(RJ I hb).1;rw[this]at j;exact absurd j.1 aX
    |none=>exact(RN I hb).2
  ·rw[(Sz E j).1]at h;exact absurd h aX
 ·rw[(Sv E).1]at h;exact absurd h E
end Go.Proofs.YtjlhhnkhcbpnjaaGreatDoor
