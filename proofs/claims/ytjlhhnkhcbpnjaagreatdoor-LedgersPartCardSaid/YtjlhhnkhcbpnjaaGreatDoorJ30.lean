/- Laws that the row leans on; no condition. -/
import Derived.Test.YtjlhhnkhcbpnjaaGreatDoorJ29
namespace Go.Proofs.YtjlhhnkhcbpnjaaGreatDoor
open Go Go.RowKit List Tryz
set_option linter.unusedVariables false
set_option linter.unusedSectionVars false
set_option linter.unusedSimpArgs false
set_option maxHeartbeats 40000000
set_option maxRecDepth 100000
def nN(w:World)(a:aN):Prop:=∀A,a=some A->∃j z,w.heap[A.block]? =some (.cells j 5 z)
theorem nN.none(w:World):nN w .none:=fun A h=>by cases h
theorem nN.ext{w w':World}{a:aN}(h:nN w a)(e:X w w'):nN w' a:=fun A E=>by
 obtain⟨u,z,j⟩:=h A E;exact⟨u,z,(e.block A.block (Array.getElem?_eq_some_iff.1 j).1).trans j⟩
theorem nN.upd{w w':World}{g:Nat}{a:aN}(h:nN w a)(u:aU w g w')(R:∀A,a=some A->A.block≠g):nN w' a:=fun A j=>by
 obtain⟨E,z,I⟩:=h A j;exact⟨E,z,(u.block A.block (R A j)).trans I⟩
theorem nN.ne{w:World}{g:Nat}{a:aN}{vs:aO}{T:TypeId}(h:nN w a)(hb:ah w g vs T)(E:5≠T):∀A,a=some A->A.block≠g:=fun A u e=>by
 obtain⟨I,z,j⟩:=h A u;unfold ah at hb;rw[e,hb]at j;injection j with j;injection j with _ j _;exact E j.symm
theorem h_.gP{w:World}{B n m c:Nat}{a:aN}{xs:aj}(h:h_ w B (.slice a n c) m xs):nN w a:=fun A u=>by
 rcases h.2 with⟨j,_⟩|⟨g,R,cu,E,j,_,I,_⟩
 ·injection j with j;rw[j]at u;cases u
 ·injection j with j;rw[j]at u;injection u with u;rw[<-u];exact⟨cu,E,I⟩
def Nl(S:aV)(j act:Int)(bI key:aj)(b:ay)(w:World)(x:Ending)(w':World):Prop:=
 X w w'/\((jS act b≠0/\x= .returned (.tuple #[.agg dS.v.toArray,.int .i64 (jS act b)]))∨
  (jS act b=0/\∃e:aG,e.Ok w'/\e.num=(S.cnt:Int)/\e.time=j/\e.act=act/\e.bI=bI/\e.key=key/\e.prev=S.last/\e.body=fG (gy act) b.p/\(∀A,e.ba=some A->w.heap.size<=A.block)/\nN w' e.ba/\
   x= .returned (.tuple #[.agg (if dN e=0 then e else dS).v.toArray,.int .i64 (dN e)])))
theorem adx(p:Nat)(S:aV)(an act:Int)(bI key:aj)(b:ay)(w:World)(h:dJ w p S)(hb:b.Ok w)(ha:bI.length=16)(hk:key.length=16):
 Calls prog 46 #[.pointer (some ⟨p,0,none⟩),.int .i64 an,.int .i64 act,.agg (bI.map Y).toArray,.agg (key.map Y).toArray,.agg b.v.toArray] w (Nl S an act bI key b w):=by
 obtain⟨bo,bl,cf,cl,cM,cN,cP,cJ⟩:=jg h (And.intro h.hl h.hf) ha hk (show(bI.map Y).length=16 by rw[length_map,ha]) (show(key.map Y).length=16 by rw[length_map,hk]) (show(S.last.map Y).length=32 by rw[length_map,h.hl]) (ay.len hb);obtain⟨bc,b2⟩:=aB (fun z=>Qs (Ed (act:=act) (b:=b) z) hb.hm hb.hcm hb.rl hb.hl hb.h16) (fun I (a_:X w I)=>adw act b I (hb.ext a_));obtain⟨c4,bx⟩:=jE (Nl S an act bI key b w:Ending->World->Prop);rw[<-bx];have bm:=O bx;clear h hb ha hk bx;go_enter func46,ntmps46;go_upto_region 1 with fail;generalize bd:World.alloc w _=ap;generalize be:World.alloc ap _=aq;generalize bh:World.alloc aq _=ar;generalize b4:World.alloc ar _=ae;have b5:ap.heap.size=w.heap.size+1:=by rw[<-bd];exact gU _ _
 have b6:aq.heap.size=w.heap.size+1+1:=by rw[<-be,gU,b5]
 have cE:ar.heap.size=w.heap.size+1+1+1:=by rw[<-bh,gU,b6]
 have cn:ah ap w.heap.size (bI.map Y) 29:=by rw[<-bd];exact ah.aI F F
 have co:ah aq (w.heap.size+1) (key.map Y) 29:=by rw[<-be];exact ah.aI b5.symm rfl
 have cp:ah ar (w.heap.size+1+1) b.v 101:=by rw[<-bh];exact ah.aI b6.symm rfl
 have cq:ah ae (w.heap.size+1+1+1) dS.v 34:=by rw[<-b4];exact ah.aI cE.symm rfl
 have cs:X w ap:=by rw[<-bd];exact(X.refl w).alloc _
 have bt:X ap aq:=by rw[<-be];exact(X.refl ap).alloc _
 have a9:X aq ar:=by rw[<-bh];exact(X.refl aq).alloc _
 have a0:X ar ae:=by rw[<-b4];exact(X.refl ar).alloc _
 obtain⟨a2,a3,a4,af,ai⟩:=dM (((cn.ext bt).ext a9).ext a0) ((co.ext a9).ext a0) (cp.ext a0) cq (((cs.ext bt).ext a9).ext a0);clear bd be bh b4 cn co cp cq cs bt a9 a0 b5 b6 cE;obtain⟨ce,cw⟩:=aC (w.heap.size+1+1+1);have b0:w.heap.size<=ce:=J;rw[cw]at af⊢;clear cw;obtain⟨c1,cv⟩:=aC (w.heap.size+1+1);rw[cv]at a4⊢;clear cv;obtain⟨c0,ct⟩:=aC (w.heap.size+1);rw[ct]at a3⊢;clear ct;obtain⟨cY,bw⟩:=aC w.heap.size;rw[bw]at a2
 conv=>rw[bw]
 clear bw;go_wp2_with (refine bV F 101 _ F F a4 eP cJ ?_);refine(b2 ae ai).mono ?_;rintro cU ao ⟨u,⟨ad,v,rfl,own⟩|⟨ad,rfl⟩⟩
 case inr=>
  have cX:(jS act b != 0)=true:=by simp;exact ad
  have n2:decide (jS act b=0)=false:=aP ad;obtain⟨a8,a5,al⟩:=aW ad (af.ext u) (ai.ext u);clear ad u a2 a3 a4 af ai b2;generalize aa:jS act b=E at*;have cL:=O aa;clear aa;go_wp2_with (refine bg F _ _ _ F F F a5 cZ dZ (xs:=dS.v) dZ (i_ dS) ?_);intro cG aE ac;go_wp2_with fail;refine iy F F aE cZ dZ F ?_;rw[bm.out];unfold Nl;rw[cL.out];exact⟨ac.ext al b0,.inl ⟨a8,F⟩⟩
 have am:=O own;obtain⟨a,c,rfl,ba,cW,cC,hcl⟩:=own.slice;have a8:=O ad;have cX:(jS act b != 0)=false:=by simp;exact ad
 have bc:=bc.out ad;obtain⟨B,bv⟩:=aC (fG (gy act) b.p);rw[bv]at hcl ba am bc⊢;obtain⟨n,hn⟩:=aC B.length;rw[hn]at ba am⊢;obtain⟨c3,cI,b8,b9,a5,al⟩:=iq hn bv (a2.ext u) (a3.ext u) (af.ext u) (ai.ext u);have a7:Hid (aG.Ok ao ⟨(S.cnt:Int),an,act,bI,key,S.last,a,n,c,B⟩):=O ⟨cf,cl,bl.1,hn,ba,(by show n<=140737488355328;omega),fun cV=>(by have a_:=cC cV;show n=0/\c=0;omega),hcl⟩;have ci:Hid (bJ ao ae.heap.size a (B.map Y)):=O (L8 hcl (fun A R _=>am.pK A.block (by rw[R];rfl)));have a6:=O (show∀A,a=some A->ae.heap.size<=A.block from fun A R=>am.pK A.block (by rw[R];rfl));have cR:=O am.gP;have cz:ce<ae.heap.size:=af.lt;have cA:w.heap.size<=ae.heap.size:=ai.size;generalize ae.heap.size=c5 at*;clear hcl ba cW cC hn bv ad bc u own am a2 a3 a4 af ai b2;go_upto_region 4 with fail;obtain⟨C,ab,aJ,bP⟩:=iw (show bT ao ao [] [] ao from bT.jA (X.refl _) (dV.none _));have cr:∀I,C I->I.cell? ⟨p,0,none⟩=some (.int .i64 (S.cnt:Int)):=fun I a_=>((bo.ext (al.ext ((ab I).1 a_).base)).blk).cell' (aV.aL S);refine fJ fun Z=> ?_;refine aA 0 ?_;refine aA 1 ?_;refine aA 2 ?_;refine dA 3 (cr) ?_;refine aA 4 ?_;refine aA 5 ?_;refine bD 6 F (oC F 29 _ F F (fun I h=>b8.ext ((ab I).1 h).base) dh cM) ?_;refine bD 7 F (oC F 29 _ F F (fun I h=>b9.ext ((ab I).1 h).base) dh cN) ?_;refine aA 8 ?_;refine aA 9 ?_;refine aA 10 ?_;refine bD 11 F (bf F (fun I h=>bQ F F (dF (bo.ext (al.ext ((ab I).1 h).base)).blk (aV.last_at bl.1)) bY cP)) ?_;refine aA 12 ?_;refine bD 13 F (bf F (fun I h=>QH B F F F F F F F F cf cl bl.1 I)) ?_;generalize World.drew ao=aw at Z⊢
 obtain⟨e,bz⟩:=aC ((⟨(S.cnt:Int),an,act,bI,key,S.last,a,n,c,B⟩:aG):aG);rw[bz]at a7⊢;obtain⟨ch,ax⟩:=aB bz (aG.len a7);clear bz;refine aZ 14 ?_;intro br a1;go_wp2_with fail;refine a1 _ _ (aJ _ _ Z ((X.refl aw).alloc _)) ?_;clear a1 br;generalize b3:World.alloc aw _=b7;have az:ah b7 aw.heap.size (dS.v) 34:=by rw[<-b3];exact ah.aI F F
 have cy:C b7:=by rw[<-b3];exact aJ _ _ Z ((X.refl aw).alloc _)
 have cx:=((ab aw).1 Z).kept.1;have cb:=O az;clear Z b3 az;have Z:=cy;clear cy;generalize aw.heap.size=c2 at*;refine aH ?_;refine aZ 15 ?_;intro br a1;go_wp2_with (refine bg F _ _ _ F F F cb cZ dZ ax (i_ _) ?_);intro bi az cF;replace Z:C bi:=(ab bi).2 (((ab b7).1 Z).upd cF cx (by first|exact Nat.le_refl _|omega));go_wp2_with fail;refine a1 _ _ Z ?_;have bj:=O az;clear a1 br az cF cb;refine aH ?_;refine dH ?_;have ag:=O ((ab bi).1 Z).base;obtain⟨b',cc,bk,cj,cS⟩:=dM (a5.ext ag) (al.ext ag) (a7.ext ag) (ci.ext' ag) (cR.ext ag);clear Z aJ ab cr bP cx a7 ci a5 b8 b9 al ag bo;go_wp2_with (refine bV F 34 _ F F bj cZ ax ?_);refine(Ei e bi bk).mono ?_;rintro cU c8 ⟨rfl,u⟩;obtain⟨cH,ca,cd,cg,ck,cm⟩:=iq (bj.ext u) (b'.ext u) (cc.ext u) (bk.ext u) (cj.ext' u) (cS.ext u);clear u bj b' cc bk cj;have j:Hid (e.num=(S.cnt:Int)/\e.time=an/\e.act=act/\e.bI=bI/\e.key=key/\e.prev=S.last/\e.body=fG (gy act) b.p/\e.ba=a/\e.body=B):=O (by rw[<-ch.out,cI.out];exact⟨F,F,F,F,F,F,F,F,F⟩);clear ch;by_cases aa:dN e=0
 ·have cT:=O aa;have bp:=O (show e=(if dN e=0 then e else dS) by rw[if_pos aa]);rw[aa];clear aa;go_wp2_with (first|(refine bV F 34 _ F F cH cZ ax ?_)|(refine bg F _ _ _ F F F ca cZ dZ ax (i_ e) ?_));intro cG aE ac;go_wp2_with fail;refine iy F F aE cZ ax F ?_;rw[bm.out];have bu:=ac.ext cd b0;have b1:=ck.QN ac (.inl cz);refine⟨bu,.inr ⟨a8,e,?_,j.1,j.2.1,j.2.2.1,j.2.2.2.1,j.2.2.2.2.1,j.2.2.2.2.2.1,j.2.2.2.2.2.2.1,?_,?_,by rw[<-bp.out,cT.out];rfl⟩⟩
  ·exact{cg with hcl:=by rw[j.2.2.2.2.2.2.2.1,j.2.2.2.2.2.2.2.2];exact b1.cells}
  ·rw[j.2.2.2.2.2.2.2.1];exact fun A R=>Nat.le_trans cA (a6 A R)
  ·rw[j.2.2.2.2.2.2.2.1];exact cm.upd ac (fun A R=>by have:=a6.out A R;omega)
 ·have c6:(dN e != 0)=true:=by simp;exact aa
  have bp:=O (show dS=(if dN e=0 then e else dS) by rw[if_neg aa]);have c7:decide (dN e=0)=false:=aP aa;generalize cD:dN e=E at*;have cQ:=O cD;clear aa cD;go_wp2_with (refine bg F _ _ _ F F F ca cZ dZ (xs:=dS.v) dZ (i_ dS) ?_);intro cG aE ac;go_wp2_with fail;refine iy F F aE cZ dZ F ?_;rw[bm.out];have bu:=ac.ext cd b0;have b1:=ck.QN ac (.inl cz);refine⟨bu,.inr ⟨a8,e,?_,j.1,j.2.1,j.2.2.1,j.2.2.2.1,j.2.2.2.2.1,j.2.2.2.2.2.1,j.2.2.2.2.2.2.1,?_,?_,by rw[cQ.out,<-bp.out];rfl⟩⟩
  ·exact{cg with hcl:=by rw[j.2.2.2.2.2.2.2.1,j.2.2.2.2.2.2.2.2];exact b1.cells}
  ·rw[j.2.2.2.2.2.2.2.1];exact fun A R=>Nat.le_trans cA (a6 A R)
  ·rw[j.2.2.2.2.2.2.2.1];exact cm.upd ac (fun A R=>by have:=a6.out A R;omega)
def qP:aT:=[⟨#[97,100,109,105,110]⟩,⟨#[117,115,101,114]⟩]
def nO(g:Nat):ay:={dI with member:=kQ 0,ra:=some ⟨g,0,none⟩,rn:=2,rc:=2,roles:=qP}
theorem E_:kP 0=0:=aX
theorem IZ(g:Nat):jS 2 (nO g)=0:=by
 have j:(!iI 2)=false:=aX;have u:nX (nO g) (lT 2)=false:=au;have E:(decide (32768<(nO g).text.size)||(decide (16<(nO g).rn)||decide (32<(nO g).hn)))=false:=au;have I:(vV (nO g).roles != 0)=false:=au;have R:(dK 2 3&& !jK (nO g).label.data.toList)=false:=au;have aa:pJ 2 (nO g)=false:=au;have ab:(!tZ (nO g).bH)=false:=by
  have:tZ (nO g).bH=true:=Gi.2 (q_.one _ (show(0:Nat)<=1 by omega));rw[this];rfl
 unfold jS;rw[j,u,E,I,R,aa,ab];rfl
theorem ady(g:Nat):kE kF 2 (fG (gy 2) (nO g).p)=((nO g).p,0):=by
 rw[<-Qx];exact Yi (IZ g) (qN 0) F F F (fun _ h=>by cases h)
theorem I4{e:aG}{g:Nat}(hn:e.num=0)(ht:e.time=1000)(ha:e.act=2)(hb:e.body=fG (gy 2) (nO g).p):dN e=0/\mO e=(nO g).p:=by
 have j:kE kF e.act e.body=((nO g).p,0):=by rw[ha,hb];exact ady g
 refine⟨?_,by unfold mO;rw[j]⟩;unfold dN;rw[j,hn,ht];rfl
theorem Np{e:aG}{g:Nat}(hn:e.num=0)(ht:e.time=1000)(ha:e.act=2)(hc:e.bI=kQ 0)(hk:e.key=fO)(I:e.prev=kN)(hb:e.body=fG (gy 2) (nO g).p):dw.zero.ref e=0:=by
 obtain⟨u,E⟩:=I4 hn ht ha hb;have j:(mO e).member=kQ 0:=by rw[E];rfl
 unfold dw.ref;rw[if_neg (by simp[u]),if_neg (by simp[hn,dw.zero]),if_neg (by simp[I,dw.zero]),if_neg (by rw[ht];decide),if_neg (by simp[ha]),if_neg (by rw[j,hc];simp[dw.zero]),if_neg (by simp[ha]),if_neg (by rw[ha];decide),
  if_pos (by rw[ha];decide),if_neg (by simp[hk])]
 unfold dw.EG;rw[if_pos ha,j,if_neg (by simp[dw.zero,bW,jq]),if_neg aX]
theorem vK{α:Type}{o:Option α}{g:α->bZ×aj}(h:∀q,o=some q->(g q).1.label.size<=255):∀p,o.map g=some p->p.1.label.size<=255:=by
 intro p j;cases o with
 |none=>cases j
 |some q=>
  injection j with j;rw[<-j];exact h q F
theorem adz{l:aj}{p:ByteArray×aj}(h:rD l=some p):p.1.size<=255:=by
 unfold rD at h;cases j:kV l with
 |none=>rw[j]at h;cases h
 |some q=>
  rw[j]at h;have I:q.1<=255:=by
   unfold kV at j;cases ht:fK 1 l with
   |none=>rw[ht]at j;cases j
   |some u=>
    rw[ht]at j;injection j with j;rw[<-j];have:=(u.1.headD 0).toNat_lt;show(u.1.headD 0).toNat<=255;omega
  have E:(fK q.1 q.2).map (fun u=>((⟨u.1.toArray⟩:ByteArray),u.2))=some p:=h;cases ht:fK q.1 q.2 with
  |none=>rw[ht]at E;cases E
  |some u=>
   rw[ht]at E;injection E with E;rw[<-E];show u.1.toArray.size<=255;rw[size_toArray,Qw ht];exact I
theorem adA{f:aj->Int}{i:Nat}{x:bZ}{l:aj}(j:x.label.size<=255):∀p,iP f i x l=some p->p.1.label.size<=255:=by
 intro p h;unfold iP at h;by_cases E:i=0
 ·rw[if_pos E]at h;injection h with h;rw[<-h];exact j
 rw[if_neg E]at h;by_cases I:i=1
 ·rw[if_pos I]at h;exact vK (fun _ _=>j) p h
 rw[if_neg I]at h;by_cases aa:i=2
 ·rw[if_pos aa]at h;cases u:kV l with
  |none=>rw[u]at h;cases h
  |some q=>rw[u]at h;exact vK (fun _ _=>j) p h
 rw[if_neg aa]at h;by_cases ab:i=3
 ·rw[if_pos ab]at h;exact vK (fun q al=>adz al) p h
 rw[if_neg ab]at h;by_cases ac:i=4
 ·rw[if_pos ac]at h;exact vK (fun _ _=>j) p h
 rw[if_neg ac]at h;by_cases ad:i=5
 ·rw[if_pos ad]at h;exact vK (fun _ _=>j) p h
 rw[if_neg ad]at h;by_cases ae:i=6
 ·rw[if_pos ae]at h;exact vK (fun _ _=>j) p h
 rw[if_neg ae]at h;by_cases af:i=7
 ·rw[if_pos af]at h;exact vK (fun _ _=>j) p h
 rw[if_neg af]at h;by_cases ag:i=8
 ·rw[if_pos ag]at h;exact vK (fun _ _=>j) p h
 rw[if_neg ag]at h;by_cases ai:i=9
 ·rw[if_pos ai]at h;cases u:kV l with
  |none=>rw[u]at h;cases h
  |some q=>rw[u]at h;exact vK (fun _ _=>j) p h
 rw[if_neg ai]at h;by_cases R:i=10
 ·rw[if_pos R]at h;exact vK (fun _ _=>j) p h
 rw[if_neg R]at h;exact vK (fun _ _=>j) p h
theorem UG{f:aj->Int}:∀(s:List Nat) (x:bZ) (l:aj),x.label.size<=255->∀p,jC f s x l=some p->p.1.label.size<=255
 |[],x,l,hx,p,h=>by injection h with h;rw[<-h];exact hx
 |i::s,x,l,hx,p,h=>by
  rw[jC]at h;cases hf:iP f i x l with
  |none=>rw[hf]at h;cases h
  |some q=>
   rw[hf]at h;exact UG s q.1 q.2 (adA hx q hf) p h
theorem Nq(e:aG):(mO e).label.size<=140737488355328:=by
 have j:kD.label.size<=255:=aX;have h:(kE kF e.act e.body).1.label.size<=255:=by
  unfold kE;split
  ·exact j
  split
  ·exact j
  split
  ·exact j
  ·rename_i x rest u;split
   ·exact j
   split
   ·exact UG _ _ _ j _ u
   ·exact j
 unfold mO;omega
theorem Fa(p:Nat)(S:aV)(u act:Int)(bI key:aj)(b:ay)(w:World)(h:dJ w p S)(hb:b.Ok w)(ha:bI.length=16)(hk:key.length=16):
 Calls prog 46 #[.pointer (some ⟨p,0,none⟩),.int .i64 u,.int .i64 act,.agg (bI.map Y).toArray,.agg (key.map Y).toArray,.agg b.v.toArray] w fun x w'=>
  ∃(r:aG) (E:Int),x= .returned (.tuple #[.agg r.v.toArray,.int .i64 E])/\r.Ok w'/\(∀A,r.ba=some A->w.heap.size<=A.block)/\nN w' r.ba/\(E=0->dN r=0)/\
   (jS act b=0->(∀e:aG,e.num=(S.cnt:Int)->e.time=u->e.act=act->e.body=fG (gy act) b.p->dN e=0)->E=0/\r.num=(S.cnt:Int)/\r.time=u/\r.act=act/\r.bI=bI/\r.key=key/\r.prev=S.last/\r.body=fG (gy act) b.p)/\X w w':=by
 refine(adx p S u act bI key b w h hb ha hk).mono ?_;rintro x w' ⟨I,⟨R,rfl⟩|⟨R,e,ai,ab,ac,ad,al,am,an,ae,af,ag,rfl⟩⟩
 ·exact⟨dS,_,F,EJ w',fun A aa=>(by cases aa),nN.none _,fun h=>absurd h R,fun h=>absurd h R,I⟩
 ·by_cases j:dN e=0
  ·rw[if_pos j];exact⟨e,_,F,ai,af,ag,fun h=>h,fun _ _=>⟨j,ab,ac,ad,al,am,an,ae⟩,I⟩
  ·rw[if_neg j];exact⟨dS,_,F,EJ w',fun A aa=>(by cases aa),nN.none _,fun h=>absurd h j,fun _ ao=>absurd (ao e ab ac ad ae) j,I⟩
theorem adB(p:Nat)(S:aV)(e:aG)(w:World)(h:dJ w p S)(E:e.Ok w)(I:dN e=0):
 Calls prog 52 #[.pointer (some ⟨p,0,none⟩),.agg e.v.toArray] w fun x w'=>x= .returned (.tuple #[.agg (S.oq e (S.lab e)).v.toArray,.int .i64 0])/\(S.oq e (S.lab e)).Ok w'/\X w w':=by
 obtain⟨a3,a4,a5,ao,al⟩:=dM E h I (aG.len E) (fun u (j:X w u)=>aV.EP (h.ext j) (E.ext j) (aV.IC h (Nq e)));obtain⟨an,am,az⟩:=aW (show(S.oq e (S.lab e)).v.length=68 from eu.len (al w (X.refl _))) (fun u (j:X w u)=>Ei e u (E.ext j)) (fun u (j:X w u)=>SS p S e u (h.ext j) (E.ext j) I);rw[I]at am;generalize S.oq e (S.lab e)=a2 at*;clear h E I;go_enter func52,ntmps52;go_upto_region 1 with fail;generalize R:World.alloc (World.alloc w _) _=aa;have ap:ah aa w.heap.size e.v 34:=by rw[<-R];exact(ah.aI F F).alloc _
 have aq:ah aa (w.heap.size+1) yR.v 108:=by rw[<-R];exact ah.aI (gU _ _).symm rfl
 have ar:X w aa:=by rw[<-R];exact((X.refl w).alloc _).alloc _
 obtain⟨ab,af,ad⟩:=aW ap aq ar;clear R ap aq ar;go_wp2_with (refine bV F 34 _ F F ab cZ ao ?_);refine(am aa ad).mono ?_;rintro x u ⟨rfl,j⟩;obtain⟨ae,ag,ac⟩:=aW (ab.ext j) (af.ext j) (ad.ext j);clear j ab af ad;go_wp2_with (refine bV F 34 _ F F ae cZ ao ?_);refine(az u ac).mono ?_;rintro x w2 ⟨rfl,e2⟩;obtain⟨aw,ax⟩:=aB (ag.ext e2) (ac.ext e2);clear e2 ae ag ac;go_wp2_with (refine bg F _ _ _ F F F aw vI F an (ER _) ?_);intro a1 aE a0;have ai:=O (a0.ext ax J);go_wp2_with fail;refine iy F F aE vI an F ⟨F,al a1 ai,ai⟩
theorem adC:∀k:Fin 16,zF.extract k.val (k.val+1)=aY [pF k.val]:=aX
theorem adD(k:Nat)(h:k<16)(w:World):(Instr.sliceAt 9 (.string zF) (some (.int .u8 (k:Int))) (some (.int .u8 ((k:Int)+1))) none).run prog w= .ok (.string (aY [pF k])) w:=by
 rw[run_sliceAt_string w 9 _ _ _ _ underlying9,run_slice_string w 9 zF .u8 .u8 (k:Int) ((k:Int)+1) underlying9 J J (by show(k:Int)+1<=16;omega)];have e:((k:Int)+1).toNat=k+1:=J;rw[Int.toNat_natCast,e,adC ⟨k,h⟩]
theorem UH{o:Oper}{a:Act}{x y z:Operand}{k:Nat}(j:o.op= .slice 9 x (some y) (some z) none)(u:a.eval x= .string zF)(E:a.eval y= .int .u8 (k:Int))(I:a.eval z= .int .u8 ((k:Int)+1))(h:k<16)(w:World):
 (execOp a.eval o).run prog w= .ok (.value (.string (aY [pF k]))) w:=by
 unfold execOp;simp only[j,u,E,I,Option.map,Sem.run_bind];rw[adD k h w];simp only[Result.andThen_ok,Sem.run_pure]
theorem yh(l:aj)(a:aN)(n c:Nat)(w:World)(ad:l.length=n)(az:n<=140737488351232)(hc:aK w a (l.map Y)):
 Calls prog 142 #[.slice a n c] w fun e w'=>e= .returned (.string (aY (aD l)))/\X w w':=by
 obtain⟨ai,E⟩:=aB hc ad;clear hc ad;have ar:({data:= #[]}:ByteArray)=aY []:=F;go_enter func142,ntmps142;go_wp2;go_loopw [8,3] (fun x v wr=>∃k:Nat,k<=n/\x= .int .i64 k/\v= .string (aY (aD (l.take k)))/\X w wr)
  (fun x _ _=>n - (intOf x).toNat)
 case atStart=>exact⟨0,J,F,F,X.refl _⟩
 case round=>
  obtain⟨k,hk,rfl,rfl,bb⟩:=hrel;by_cases ac:k<n
  ·obtain⟨b,off,rfl,ab⟩:=(ai.ext bb).gQ (by rw[length_map,E.out];omega);obtain⟨B,I⟩:∃B,l[k]? =some B:=⟨l[k]'(by rw[E.out];exact ac),aF⟩;have ax:wr.cell? ⟨b,off+k,none⟩=some (.int .u8 (B.toNat:Int)):=ab k _ (by rw[List.getElem?_map,I];rfl);clear ab;have hs:=OE l k (by rw[E.out];exact ac);rw[I,Option.getD_some]at hs;obtain⟨al,aa⟩:=aB hs bb;clear hs I bb;have aw:=zl B;have ap:bits .and .u8 (B.toNat:Int) 15=((B.toNat%16:Nat):Int):=by rw[OH];omega
   have R:=O (show DK B=[pF (B.toNat / 16),pF (B.toNat%16)]from F);have ao:(B.toNat:Int) / 16=((B.toNat / 16:Nat):Int):=J;obtain⟨p,ae⟩:=aC (B.toNat / 16);obtain⟨q,af⟩:=aC (B.toNat%16);have am:p<16:=by have:=B.toNat_lt;omega
   have an:q<16:=J;rw[ae]at ao R;rw[af]at ap R;clear ae af;have j:IntKind.u8.wrap ((p:Int)+1)=(p:Int)+1:=by simp[IntKind.wrap,IntKind.bits,IntKind.signed];omega
   have w2:IntKind.u8.wrap ((q:Int)+1)=(q:Int)+1:=by simp[IntKind.wrap,IntKind.bits,IntKind.signed];omega
   have aE:IntKind.u8.wrap (p:Int)=(p:Int):=by simp[IntKind.wrap,IntKind.bits,IntKind.signed];omega
   go_wp2_with fail;obtain⟨C,aq,aJ,bP⟩:=iw (show bT w wr [] [] wr from bT.jA aa (dV.none _));refine fJ fun Z=> ?_;refine aA 0 ?_;refine aA 1 ?_;refine aA 2 ?_;refine aA 3 ?_;refine aA 4 ?_;refine aA 5 ?_;refine bD 6 F (bf F (fun j _=>UH (k:=p) F F F F am j)) ?_;refine aA 7 ?_;refine aA 8 ?_;refine aA 9 ?_;refine aA 10 ?_;refine aA 11 ?_;refine bD 12 F (bf F (fun j _=>UH (k:=q) F F F F an j)) ?_;refine bD 13 F (bf F (fun j _=>K_ (u:=[pF p]) (v:=[pF q]) F F F aF j)) ?_;refine bD 14 F (bf F (fun j _=>K_ (u:=aD (l.take k)) (v:=[pF p]++[pF q]) F F F (by rw[tX,length_take];simp;omega) j)) ?_;refine aA 15 ?_;refine dH ?_;have ag:=O aa.drew;generalize wr.drew=a0 at*;go_wp2;go_roundw
   case rel=>exact⟨k+1,J,by go_num,by rw[al.out,R.out],ag⟩
   case measure=>simp[intOf];omega
  ·obtain rfl:k=n:=J;have ht:l.take k=l:=take_of_length_le (by rw[E.out];exact Nat.le_refl _);rw[ht];clear ht;go_wp2;go_ret;exact⟨F,bb⟩
theorem adE{rs:List aS}{u:Nat}(h:lH rs u=0):lI rs u=iR rs/\jH (iR rs)=0/\jY rs (mM (iR rs))=true/\(iR rs).length<=65536/\wM (iR rs)=0:=by
 have R:lI rs u=iR rs:=by unfold lI;rw[if_pos h]
 by_cases E:jG rs u=0
 ·by_cases j:jH (iR rs)=0/\jY rs (mM (iR rs))=true
  ·refine⟨R,j.1,j.2,?_⟩;by_cases I:65536<(iR rs).length
   ·have:=(RI I).1;rw[this]at j;exact absurd j.1 aX
   ·refine⟨J,?_⟩;cases hb:uD (lU (iR rs))with
    |some k=>
     have:=(RJ I hb).1;rw[this]at j;exact absurd j.1 aX
    |none=>exact(RN I hb).2
  ·rw[(Sz E j).1]at h;exact absurd h aX
 ·rw[(Sv E).1]at h;exact absurd h E
section
open Go Go.RowKit
section
variable {P:Program} {t e:TypeId} {z y:Nat}
theorem adF(T:pO P t e z y)(ty:TypeId)(w:World)(B:Nat){v:Value}{n c:Nat}{xs:aO}(E:w.ownsRow B e z v n xs):
 (Builtin.append_ #[t,t] ty #[v,.slice none 0 c]).run P w= .ok v w:=by
 obtain⟨i,ad,j,ab,aa,R,ac⟩:=T.info;have ht:=T.hu;rcases E.2 with⟨rfl,rfl⟩|⟨g,I,cu,rfl,_,_,u,_⟩
 ·simp[Builtin.append_,run_underlying ht,sizeOf,typeInfo,j,Builtin.lenOf,Builtin.firstCells]
 ·simp[Builtin.append_,run_underlying ht,sizeOf,typeInfo,j,Builtin.lenOf,Builtin.firstCells,u,storeCells]
theorem adG(T:pO P t e z y)(ty:TypeId)(w:World)(B:Nat){v:Value}{n m c:Nat}{xs news:aO}{j:aN}(E:w.ownsRow B e z v n xs)(R:news.length=m*z)(hc:aK w j news)(aa:∀u∈news,u.oneCell'=true)
 (ab:n+m<=140737488355328)(hb:(n+m)*y<=140737488355328)(ac:B<=w.heap.size):
 ∃v' w',(Builtin.append_ #[t,t] ty #[v,.slice j m c]).run P w= .ok v' w'/\w'.ownsRow B e z v' (n+m) (xs++news)/\w.grownBy w' v.ownBlock/\
  (v'.ownBlock=v.ownBlock∨v'.ownBlock=some w.heap.size):=by
 cases j with
 |some j=>exact QI T ty w B E R (wX hc) aa ab hb ac
 |none=>
  have hn:news=[]:=by
   rcases hc with h|⟨_,_,h,_⟩
   ·exact h
   ·cases h
  subst hn;obtain rfl:m=0:=by
   have:=T.pos;rcases Nat.eq_zero_or_pos m with h|h
   ·exact h
   ·have I:=Nat.mul_pos h this;rw[<-R]at I;exact absurd I aF
  refine⟨v,w,adF T ty w B E,by simpa using E,⟨F,F,F,Nat.le_refl _,fun _ _ _=>rfl⟩,.inl F⟩
variable {ops:Array Oper} {rest:List Oper} {o:Oper} {a:Act} {w:World} {Q:Exit->Act->World->Prop}
theorem adH(T:pO P t e z y)(ae:o.guard=none)(s x:Operand)(ag:o.op= .call {callee:= .builtin .append,args:= #[s,x],argTypes:= #[t,t]})(B:Nat){v:Value}{n m c:Nat}{xs news:aO}{j:aN}
 (hs:a.eval s=v)(am:a.eval x= .slice j m c)(ai:w.ownsRow B e z v n xs)(af:news.length=m*z)(hc:aK w j news)(E:∀u∈news,u.oneCell'=true)
 (ab:n+m<=140737488355328)(hb:(n+m)*y<=140737488355328)(ad:B<=w.heap.size)
 (h:∀v' w',w'.ownsRow B e z v' (n+m) (xs++news)->w.grownBy w' v.ownBlock->(v'.ownBlock=v.ownBlock∨v'.ownBlock=some w.heap.size)->wpList P ops Q rest (a.put o.dst v') w'):wpList P ops Q (o::rest) a w:=by
 obtain⟨v',w',al,I,R,aa⟩:=adG T o.type w B ai af hc E ab hb ad;exact wpList_plain ae fun K ac=>Lib.wp_append_run w s x _ _ ag v _ hs am v' w' al (ac _ _ (h v' w' I R aa))
end
end
end Go.Proofs.YtjlhhnkhcbpnjaaGreatDoor
