/- Laws that the row leans on; no condition. -/
import Derived.Test.YtjlhhnkhcbpnjaaGreatDoorJ19
namespace Go.Proofs.YtjlhhnkhcbpnjaaGreatDoor
open Go Go.RowKit List Tryz
set_option linter.unusedVariables false
set_option linter.unusedSectionVars false
set_option linter.unusedSimpArgs false
set_option maxHeartbeats 40000000
set_option maxRecDepth 100000
theorem Cj:iH prog 152 1:=⟨⟨_,underlying152,F⟩,au⟩
theorem Lc(w:World):lG w none 0 0 []:=⟨F,Nat.le_refl _,J,.inl F,fun _ h=>by cases h⟩
theorem aag{rs:List aS}{k:Nat}{r:aS}(h:rs[k]? =some r):iR (rs.take (k+1))=iR (rs.take k)++Ap r++[10]:=by
 unfold iR;rw[take_add_one,h,flatMap_append];simp
theorem Sr{rs:List aS}{W:World}(j:∀r∈rs,r.Ok W)(E:∀r∈rs,jd r=0):(iR rs).length<=rs.length*4001:=by
 induction rs with
 |nil=>simp[iR]
 |cons r rs I=>
  have R:=RX (j r aF) (RU (j r aF) (E r aF));have aa:=I (fun x u=>j x (mem_cons_of_mem _ u)) (fun x u=>E x (mem_cons_of_mem _ u));have e:iR (r::rs)=(Ap r++[10])++iR rs:=by unfold iR;rw[flatMap_cons]
  rw[e];simp only[length_append,length_cons,length_nil];omega
noncomputable def lH(rs:List aS)(j:Nat):Int:=if jG rs j≠0 then jG rs j else if jH (iR rs)=0/\jY rs (mM (iR rs))=true then 0 else 2
noncomputable def lI(rs:List aS)(j:Nat):aj:=if lH rs j=0 then iR rs else[]
theorem Sv{rs:List aS}{j:Nat}(h:jG rs j≠0):lH rs j=jG rs j/\lI rs j=[]:=by
 have u:lH rs j=jG rs j:=by unfold lH;rw[if_pos h]
 exact⟨u,by unfold lI;rw[if_neg (by rw[u];exact h)]⟩
theorem Sz{rs:List aS}{j:Nat}(E:jG rs j=0)(h:¬(jH (iR rs)=0/\jY rs (mM (iR rs))=true)):lH rs j=2/\lI rs j=[]:=by
 have u:lH rs j=2:=by unfold lH;rw[if_neg (by rw[E];simp),if_neg h]
 exact⟨u,by unfold lI;rw[if_neg (by rw[u];decide)]⟩
theorem aah{rs:List aS}{j:Nat}(E:jG rs j=0)(h:jH (iR rs)=0/\jY rs (mM (iR rs))=true):lH rs j=0/\lI rs j=iR rs:=by
 have u:lH rs j=0:=by unfold lH;rw[if_neg (by rw[E];simp),if_pos h]
 exact⟨u,by unfold lI;rw[if_pos u]⟩
theorem aai{rs:List aS}{j:Nat}(h:jG rs j=0):j<=100/\∀r∈rs,jd r=0:=by
 unfold jG at h;split at h
 ·cases h
 ·exact⟨J,Ze h⟩
structure dw where
 cnt:Nat
 tm:Int
 last:aj
 ji:aj
 pol:Option (List aS)
 ms:List (aj×aT)
 ks:List (aj×bC)
 av:List (aj×List (aj×(aT×Int)))
def kM(l:List (aj×dX)):List (aj×(aT×Int)):=l.map fun y=>(y.1,(y.2.r.l,y.2.t))
def aV.p(S:aV):dw:=⟨S.cnt,S.tm,S.last,S.ji,S.pol.map fun P=>P.rs.map aS.bare,S.ms.map fun x=>(x.1,x.2.l),S.ks,S.av.map fun x=>(x.1,kM x.2.2)⟩
def fO:aj:=List.replicate 16 0
def kN:aj:=List.replicate 32 0
def dw.zero:dw:=⟨0,0,kN,fO,none,[],[],[]⟩
noncomputable def mO(e:aG):bZ:=(kE kF e.act e.body).1
noncomputable def Ih(t:aj):Bool:=decide (jH t=0)&&decide (lH (mM t) (mM t).length=0)&&decide (lI (mM t) (mM t).length=t)
def EF(a:Int):Bool:=decide (a=1)||decide (a=2)||decide (a=3)||decide (a=8)||decide (a=11)||decide (a=12)
noncomputable def dw.EG(S:dw)(e:aG)(x:bZ):Int:=
 if e.act=2 then(if(bW S.ms x.member).isSome then 8 else if x.member=fO then 2 else 0)
 else if e.act=3 then(if(bW S.ms x.member).isNone then 7 else if S.ms.length=1 then 15 else 0)
 else if e.act=12 then(if(S.cnt:Int)<x.count then 4 else 0)else 0
noncomputable def dw.EH(S:dw)(e:aG)(x:bZ)(k:bC):Int:=
 if e.act=5 then(if x.epoch≠k.epoch+1 then 4 else 0)
 else if e.act=6 then(if k.epoch<x.epoch then 4 else if x.purpose≠2/\x.epoch≠k.epoch then 15 else 0)
 else if e.act=9 then(if x.epoch≠k.epoch∨(x.bH.length:Int)<x.need then 4 else if x.bH.any (fun h=>(bW S.ms h).isNone)then 6 else if x.commit≠k.commit then 17 else 0)
 else if e.act=10 then(if k.esc≠x.epoch then 15 else if x.commit≠k.shared then 17 else 0)else 0
noncomputable def dw.ref(S:dw)(e:aG):Int:=
 if dN e≠0 then dN e else
 if e.num≠(S.cnt:Int)then 9 else if e.prev≠S.last then 13 else if e.time<S.tm then 16
 else if S.cnt=0/\e.act≠2 then 3
 else if(S.cnt=0/\(mO e).member≠e.bI)∨(0<S.cnt/\(bW S.ms e.bI).isNone)then 6
 else if e.act=1/\Ih (mO e).text.data.toList=false then 2
 else if e.act=4 then(if e.key=fO then 2 else if(bW S.ks e.key).isSome then 8 else 0)
 else if EF e.act then(if e.key≠fO then 2 else S.EG e (mO e))
 else match bW S.ks e.key with
  |none=>7
  |some k=>if k.rev then 15 else S.EH e (mO e) k
noncomputable def lV(e:aG):aj:=dY 5 (e.bI++[UInt8.ofNat e.act.toNat]++e.key++dY 0 e.body)
def Aq(t:Int)(l:List (aj×(aT×Int))):List (aj×(aT×Int)):=l.filter fun y=>decide (t - y.2.2<=86400)
noncomputable def dw.act(S:dw)(e:aG)(x:bZ):dw:=
 let k:=(bW S.ks e.key).getD bC.zero
 if e.act=1 then{S with pol:=some (mM x.text.data.toList)}
 else if e.act=2 then{S with ms:=dU S.ms x.member x.roles}
 else if e.act=3 then{S with ms:=iQ S.ms x.member,av:=S.av.map fun y=>(y.1,iQ y.2 x.member)}
 else if e.act=4 then{S with ks:=dU S.ks e.key ⟨e.key,x.label,0,x.commit,false, -1,kN⟩}
 else if e.act=5 then{S with ks:=dU S.ks e.key {k with epoch:=x.epoch,commit:=x.commit}}
 else if e.act=7 then{S with ks:=dU S.ks e.key {k with rev:=true}}
 else if e.act=9 then{S with ks:=dU S.ks e.key {k with esc:=x.epoch,shared:=x.commit}}
 else if e.act=8 then{S with av:=dU S.av x.commit (dU ((bW S.av x.commit).getD []) e.bI ((bW S.ms e.bI).getD [],e.time))}
 else S
noncomputable def dw.next(S:dw)(e:aG):dw:=
 let T:={S with ji:=if S.cnt=0 then e.bI else S.ji}.act e (mO e);let A:=if e.act≠8 then iQ T.av (lV e)else T.av
 {T with av:=A.map fun y=>(y.1,Aq e.time y.2),cnt:=S.cnt+1,tm:=e.time,last:=ig e}
noncomputable def dw.apply(S:dw)(e:aG):dw:=if S.ref e=0 then S.next e else S
def nH(l:aj)(p:Nat):Nat:=(iW l (p+85)).toNat
def qI(l:aj)(at_:Int):Int:=
 if at_<0 then 4 else if(l.length:Int)<89∨(l.length:Int) - 89<at_ then 1 else if(l.drop at_.toNat).take 4≠[75,87,69,49]then 2 else if 32768<nH l at_.toNat then 5 else 0
theorem aaj{l:aj}{at_:Int}(h:qI l at_=0):∃p:Nat,at_=(p:Int)/\p+89<=l.length/\(l.drop p).take 4=[75,87,69,49]/\nH l p<=32768:=by
 unfold qI at h;split at h
 ·cases h
 split at h
 ·cases h
 split at h
 ·cases h
 split at h
 ·cases h
 rename_i E I j u;obtain⟨p,rfl⟩:=Int.eq_ofNat_of_zero_le (show 0<=at_ by omega);rw[Int.toNat_natCast]at j u;exact⟨p,F,J,by simpa using j,J⟩
theorem aak(l:aj)(a:aN)(n c:Nat)(at_:Int)(w:World)(ai:l.length=n)(a7:n<=c)(hn:n<=140737488355328)(ap:aK w a (l.map Y)):
 Calls prog 93 #[.slice a n c,.int .i64 at_] w fun e w'=>e= .returned (.tuple #[.int .i64 (if qI l at_=0 then((121+nH l at_.toNat:Nat):Int)else 0),.int .i64 (qI l at_)])/\X w w':=by
 obtain⟨an,am⟩:=aB ai ap;obtain⟨a8,u⟩:=aC ((if qI l at_=0 then((121+nH l at_.toNat:Nat):Int)else 0));rw[u];obtain⟨E,j⟩:=aC (qI l at_);rw[j]at u⊢;unfold qI at j;rw[ai]at j;clear ap ai;by_cases aa:at_<0
 ·rw[if_pos aa]at j;subst j;rw[if_neg aX]at u;subst u;have a0:decide (at_<0)=true:=aQ aa;go_enter func93,ntmps93;go_wp2
  go_ret2
  exact⟨F,X.refl w⟩
 rw[if_neg aa]at j;obtain⟨p,rfl⟩:=Int.eq_ofNat_of_zero_le (show 0<=at_ by omega);rw[Int.toNat_natCast]at j u;have a0:decide ((p:Int)<0)=false:=aP J;have a9:decide (p<0)=false:=aP J;clear aa;by_cases aE:n<89
 ·rw[if_pos J]at j;subst j;rw[if_neg aX]at u;subst u;have a1:decide ((n:Int)<89)=true:=aQ J;have a2:decide (n<89)=true:=aQ J;go_enter func93,ntmps93;go_wp2
  go_ret2
  exact⟨F,X.refl w⟩
 have a1:decide ((n:Int)<89)=false:=aP J;have a2:decide (n<89)=false:=aP J;have bc:IntKind.i64.wrap ((n:Int) - 89)=(n:Int) - 89:=IntWalk.i64_in _ J;by_cases af:(n:Int) - 89<p
 ·rw[if_pos J]at j;subst j;rw[if_neg aX]at u;subst u;have a3:decide ((n:Int) - 89<p)=true:=aQ af;go_enter func93,ntmps93;go_wp2
  go_ret2
  exact⟨F,X.refl w⟩
 have a3:decide ((n:Int) - 89<p)=false:=aP af;rw[if_neg J]at j;have ba:p+89<=n:=J;have bd:IntKind.i64.wrap ((p:Int)+4)=(p:Int)+4:=IntWalk.i64_in _ J;have aq:((l.drop p).take 4).length=4:=by rw[length_take,length_drop,an.out];omega
 have az:aK w (dL a c p) (((l.drop p).take 4).map Y):=by rw[map_take,map_drop];exact am.shift c p 4 J
 have ax:=Ba w (dL a c p) ((l.drop p).take 4) 4 (c - p) az aq.symm;have ac:(aY ((l.drop p).take 4)).toList=(l.drop p).take 4:=by unfold aY;rw[ByteArray.toList_mk]
 have ag:p+4<=c:=J;clear aE af az aq;by_cases I:(l.drop p).take 4=[75,87,69,49]
 rotate_left
 ·rw[if_pos I]at j;subst j;rw[if_neg aX]at u;subst u;have a6:((aY ((l.drop p).take 4)).toList==[75,87,69,49])=false:=by rw[ac];simpa using I
  clear I ac;go_enter func93,ntmps93;go_wp2_with (refine bF F (oV (k:=p) (h:=p+4) F F F F underlying32 gu J ag F _) ?_)
  go_ret2
  exact⟨F,X.refl w⟩
 rw[if_neg (by simpa using I)]at j;have a6:(aY ((l.drop p).take 4)).toList=[75,87,69,49]:=ac.trans I;have aw:g_ n ((p+85:Nat):Int) 4=0:=by unfold g_;rw[if_neg J,if_neg J]
 have al:=OJ l a n c ((p+85:Nat):Int) w an hn a7 am;have ar:yE l n ((p+85:Nat):Int)= .tuple #[.int .u32 ((iW l (p+85)).toNat:Nat),.int .i64 0]:=by rw[yE,if_pos aw];rfl
 rw[ar]at al;have ae:=O al;unfold nH at j u;obtain⟨W,ao⟩:=aC (iW l (p+85));rw[ao]at j u ae;have a_:=W.toNat_lt;have be:IntKind.i64.wrap ((p:Int)+89)=(p:Int)+89:=IntWalk.i64_in _ J;have bh:IntKind.i64.wrap ((p:Int)+89 - 4)=((p+85:Nat):Int):=by rw[IntWalk.i64_in _ J];omega
 clear I ac aw ar al ao;by_cases ab:32768<W.toNat
 ·rw[if_pos ab]at j;subst j;rw[if_neg aX]at u;subst u;have a4:decide (32768<W.toNat)=true:=aQ ab;have a5:decide ((32768:Int)<(W.toNat:Int))=true:=aQ J;go_enter func93,ntmps93;go_wp2_with (refine bF F (oV (k:=p) (h:=p+4) F F F F underlying32 gu J ag F _) ?_);refine ae.mono ?_;rintro e w' ⟨rfl,R⟩;have ad:=O R;clear R ax;go_wp2_with fail
  go_ret2
  exact⟨F,ad⟩
 ·rw[if_neg ab]at j;subst j;rw[if_pos F]at u;subst u;have a4:decide (32768<W.toNat)=false:=aP ab;have a5:decide ((32768:Int)<(W.toNat:Int))=false:=aP J;have bi:IntKind.i64.wrap (W.toNat:Int)=(W.toNat:Int):=IntWalk.i64_in _ J;have bj:IntKind.i64.wrap (89+(W.toNat:Int))=89+(W.toNat:Int):=IntWalk.i64_in _ J;have bk:IntKind.i64.wrap (89+(W.toNat:Int)+32)=((121+W.toNat:Nat):Int):=by rw[IntWalk.i64_in _ J];omega
  go_enter func93,ntmps93;go_wp2_with (refine bF F (oV (k:=p) (h:=p+4) F F F F underlying32 gu J ag F _) ?_);refine ae.mono ?_;rintro e w' ⟨rfl,R⟩;have ad:=O R;clear R ax;go_wp2_with fail
  go_ret2
  exact⟨F,ad⟩
theorem qJ{P:Program}{E:Func}{j:Ending->World->Prop}{a:Act}{w:World}{p u q:Tmp}{ty:TypeId}{g:Nat}{vs:aO}{T:TypeId}
 (ad:E.results= #[.cell p ty,.tmp u,.tmp q])(R:a.tmps.getD p undef= .pointer (some ⟨g,0,none⟩))(hb:ah w g vs T)
 {n:Nat}(ht:iH P ty n)(hn:vs.length=n)
 (ac:a.defers=[])(ab:j (.returned (.tuple #[.agg vs.toArray,a.tmps.getD u undef,a.tmps.getD q undef])) w):bodyPost P E j .ret a w:=by
 have I:=AV (P:=P) (off:=0) hb ht J;have aa:(vs.drop 0).take n=vs:=by simp[<-hn]
 rw[aa]at I;refine bodyPost_ret (v:= .tuple #[.agg vs.toArray,a.tmps.getD u undef,a.tmps.getD q undef]) ?_ ac ab;simp only[Array.getD_eq_getD_getElem?]at R;simp[results,ad,R,asAddr,I]
theorem EI:prog.eqGuardType prog.depth 31=false:=au
theorem xU{w:World}{b off:Nat}{l:aj}(h:∀(i:Nat) (u:Value),(l.map Y)[i]? =some u->w.cell? ⟨b,off+i,none⟩=some u)(k m:Nat):dP w ⟨b,off+k,none⟩ (((l.drop k).take m).map Y):=by
 intro j u E;rw[dn];have I:j<m:=by have:=(List.getElem?_eq_some_iff.1 E).1;simp at this;omega
 rw[Nat.add_assoc];refine h (k+j) u ?_;rw[map_take,map_drop,List.getElem?_take_of_lt I,List.getElem?_drop]at E;exact E
theorem xW{w:World}{b off:Nat}{l:aj}(h:∀(i:Nat) (u:Value),(l.map Y)[i]? =some u->w.cell? ⟨b,off+i,none⟩=some u)(k m:Nat):aK w (some ⟨b,off+k,none⟩) (((l.drop k).take m).map Y):=
 .inr ⟨b,off+k,F,fun i u j=>by have:=xU h k m i u j;rwa[dn]at this⟩
def wQ(l:aj)(p N:Nat):dW:=⟨kK (fE l (p+4)),kK (fE l (p+12)),(l[p+20]?.getD 0).toNat,(l.drop (p+21)).take 16,(l.drop (p+37)).take 16,(l.drop (p+53)).take 32,(l.drop (p+89)).take N⟩
def Cm(l:aj)(p N:Nat):Bool:=dY 3 ((l.drop p).take (89+N))==(l.drop (p+89+N)).take 32
noncomputable def fQ(l:aj)(at_:Int):dW×Int×Int:=
 if qI l at_≠0 then(u_,0,qI l at_)else
 if l.length<at_.toNat+121+nH l at_.toNat then(u_,0,1)else
 if Cm l at_.toNat (nH l at_.toNat)=false then(u_,0,13)else
 if jX (wQ l at_.toNat (nH l at_.toNat))=0 then(wQ l at_.toNat (nH l at_.toNat),((at_.toNat+121+nH l at_.toNat:Nat):Int),0)
 else(u_,0,jX (wQ l at_.toNat (nH l at_.toNat)))
theorem SA{w:World}{B B':Nat}{e:TypeId}{z n c:Nat}{a:aN}{xs:aO}(h:w.ownsRow B e z (.slice a n c) n xs)(hc:aK w a xs)(hb:B'<=B):bJ w B' a xs:=by
 rcases hc with j|⟨b,off,ha,j⟩
 ·exact .inl j
 ·exact .inr ⟨b,off,ha,Nat.le_trans hb (h.lt b (by rw[ha];rfl)).1,j⟩
def aG.Ld(w:World)(B:Nat)(r:aG):Prop:=r.Ok w/\bJ w B r.ba (r.body.map Y)
def Le(l:aj)(at_:Int)(w:World)(x:Ending)(w':World):Prop:=
 ∃r:aG,x= .returned (.tuple #[.agg r.v.toArray,.int .i64 (fQ l at_).2.1,.int .i64 (fQ l at_).2.2])/\r.Ld w' w.heap.size/\r.p=(fQ l at_).1/\X w w'
theorem EJ(w:World):dS.Ok w:=⟨F,F,F,F,Nat.le_refl _,aX,fun _=>⟨F,F⟩,.inl F⟩
theorem SB{l:aj}{at_:Int}{w w':World}{E:Int}(h:fQ l at_=(u_,0,E))(e:X w w'):Le l at_ w (.returned (.tuple #[.agg dS.v.toArray,.int .i64 0,.int .i64 E])) w':=
 ⟨dS,by rw[h],⟨EJ w',.inl F⟩,by rw[h];rfl,e⟩
section
open Go Go.RowKit
noncomputable def lq(es:List dW):aj:=match es.getLast? with|none=>kN|some e=>ig e.r
theorem SC(es:List dW)(e:dW):lq (es++[e])=ig e.r:=by
 unfold lq;rw[List.getLast?_append];rfl
theorem Ii(e:aG)(h:e.body.length=e.bn):ig e.p.r=ig e:=by
 have j:dN e.p.r=dN e:=F;have u:ny e.p.r=ny e:=by
  unfold ny aG.p dW.r;dsimp only;rw[h]
 unfold ig;rw[j,u]
theorem CB(e:aG)(h:e.body.length=e.bn):iZ e.p.r=iZ e:=by
 have j:ny e.p.r=ny e:=by
  unfold ny aG.p dW.r;dsimp only;rw[h]
 unfold iZ;rw[Ii e h,j]
theorem Lh(es:List dW):(lq es).length=32:=by
 unfold lq;split
 ·unfold kN;rw[length_replicate]
 ·exact nZ _
noncomputable def wR(l:aj):Nat->Nat->List dW->List dW×Int
 |0,_,es=>(es,0)
 |f+1,p,es=>
  if l.length<=p then(es,0)
  else if(fQ l p).2.2≠0 then(es,(fQ l p).2.2)
  else if(fQ l p).1.num≠(es.length:Int)then(es,9)
  else if(fQ l p).1.prev≠lq es then(es,13)
  else wR l f (fQ l p).2.1.toNat (es++[(fQ l p).1])
noncomputable def nI(l:aj):List dW×Int:=wR l (l.length+1) 0 []
theorem Lj{l:aj}{p:Nat}(h:(fQ l p).2.2=0):∃q:Nat,(fQ l p).2.1=(q:Int)/\q=p+121+(fQ l p).1.body.length/\q<=l.length/\jX (fQ l p).1=0:=by
 unfold fQ at h⊢;by_cases u:qI l p≠0
 ·rw[if_pos u]at h;exact absurd h u
 rw[if_neg u]at h⊢;rw[show((p:Int)).toNat=p from F]at*;by_cases E:l.length<p+121+nH l p
 ·rw[if_pos E]at h;cases h
 rw[if_neg E]at h⊢;by_cases I:Cm l p (nH l p)=false
 ·rw[if_pos I]at h;cases h
 rw[if_neg I]at h⊢;by_cases j:jX (wQ l p (nH l p))=0
 ·rw[if_pos j];refine⟨_,F,?_,J,j⟩;show _=p+121+((l.drop (p+89)).take (nH l p)).length;rw[length_take,length_drop];omega
 ·rw[if_neg j]at h;exact absurd h j
structure lW(l:aj)(p:Nat)(es:List dW):Prop where
 f:∃f,l.length<p+f/\wR l f p es=nI l
 pl:p<=l.length
 good:∀e∈es,jX e=0
 sz:(es.map fun e=>121+e.body.length).sum=p
theorem lW.start(l:aj):lW l 0 []:=⟨⟨l.length+1,J,F⟩,Nat.zero_le _,aF,F⟩
section
variable {l:aj} {p:Nat} {es:List dW}
theorem lW.many(h:lW l p es):121*es.length<=p:=by
 have j:∀es:List dW,121*es.length<=(es.map fun e=>121+e.body.length).sum:=by
  intro es;induction es with
  |nil=>exact Nat.le_refl _
  |cons e es u=>rw[map_cons,sum_cons,length_cons];omega
 rw[<-h.sz];exact j es
theorem lW.fin(h:lW l p es)(u:¬p<l.length):nI l=(es,0):=by
 obtain⟨f,hf,j⟩:=h.f;rw[<-j];cases f with
 |zero=>rfl
 |succ f=>unfold wR;rw[if_pos J]
theorem lW.bad(h:lW l p es)(E:p<l.length)(j:(fQ l p).2.2≠0):nI l=(es,(fQ l p).2.2):=by
 obtain⟨f,hf,u⟩:=h.f;rw[<-u];cases f with
 |zero=>omega
 |succ f=>unfold wR;rw[if_neg J,if_pos j]
theorem lW.order(h:lW l p es)(E:p<l.length)(j:(fQ l p).2.2=0)(hn:(fQ l p).1.num≠(es.length:Int)):nI l=(es,9):=by
 obtain⟨f,hf,u⟩:=h.f;rw[<-u];cases f with
 |zero=>omega
 |succ f=>unfold wR;rw[if_neg J,if_neg (by simp[j]),if_pos hn]
theorem lW.seal(h:lW l p es)(E:p<l.length)(j:(fQ l p).2.2=0)(hn:(fQ l p).1.num=(es.length:Int))(hs:(fQ l p).1.prev≠lq es):nI l=(es,13):=by
 obtain⟨f,hf,u⟩:=h.f;rw[<-u];cases f with
 |zero=>omega
 |succ f=>unfold wR;rw[if_neg J,if_neg (by simp[j]),if_neg (by simp[hn]),if_pos hs]
theorem lW.step(h:lW l p es)(ac:p<l.length)(u:(fQ l p).2.2=0)(hn:(fQ l p).1.num=(es.length:Int))(hs:(fQ l p).1.prev=lq es):∃q:Nat,(fQ l p).2.1=(q:Int)/\p<q/\lW l q (es++[(fQ l p).1]):=by
 obtain⟨q,E,R,aa,I⟩:=Lj u;refine⟨q,E,J,?_,aa,?_,?_⟩
 ·obtain⟨f,hf,ab⟩:=h.f;cases f with
  |zero=>omega
  |succ f=>
   refine⟨f,J,?_⟩;rw[<-ab]
   conv=>rhs;unfold wR
   rw[if_neg J,if_neg (by simp[u]),if_neg (by simp[hn]),if_neg (by simp[hs]),E];rfl
 ·intro e j;rcases mem_append.1 j with j|j
  ·exact h.good e j
  ·rw[mem_singleton.1 j];exact I
 ·rw[map_append,sum_append,h.sz,R];simp[Nat.add_assoc]
end
end
theorem gU(w:World)(o:Obj):(w.alloc o).heap.size=w.heap.size+1:=by show(w.heap.push o).size=_;simp
theorem aal(w:World):Calls prog 42 #[] w fun e w'=>∃p S,e= .returned (.pointer (some ⟨p,0,none⟩))/\dJ w' p S/\S.p=dw.zero/\X w w'/\(∀g,S.M p g->w.heap.size<=g)/\p+1=w'.heap.size:=by
 have ar:=fun w=>He (P:=prog) 142 w;have aw:=fun w=>He (P:=prog) 143 w;have ax:=fun w=>He (P:=prog) 144 w;go_enter func42,ntmps42;go_wp2_with fail;go_ret;generalize R:World.alloc w _=j;generalize aa:World.alloc j _=w2;generalize ab:World.alloc w2 _=u;generalize ac:World.alloc u _=ad;have ag:j.heap.size=w.heap.size+1:=by rw[<-R,gU]
 have ai:w2.heap.size=w.heap.size+2:=by rw[<-aa,gU,ag]
 have al:u.heap.size=w.heap.size+3:=by rw[<-ab,gU,ai]
 have az:ad.heap.size=w.heap.size+4:=by rw[<-ac,gU,al]
 have an:X w j:=by rw[<-R];exact(X.refl w).alloc _
 have e2:X j w2:=by rw[<-aa];exact(X.refl j).alloc _
 have I:X w2 u:=by rw[<-ab];exact(X.refl w2).alloc _
 have E:X u ad:=by rw[<-ac];exact(X.refl u).alloc _
 have aq:f_ eX iF.v j w.heap.size []:=by rw[<-R];exact f_.new w
 have ae:f_ eX bC.va w2 j.heap.size []:=by rw[<-aa];exact f_.new j
 have af:f_ eX oH u w2.heap.size []:=by rw[<-ab];exact f_.new w2
 rw[ag]at ae;rw[ai]at af;have am:ah ad u.heap.size (aV.v ⟨0,0,kN,fO,none,w.heap.size,w.heap.size+1,w.heap.size+2,[],[],[]⟩) 147:=by rw[<-ac];exact ah.aI F F
 refine⟨u.heap.size,⟨0,0,kN,fO,none,w.heap.size,w.heap.size+1,w.heap.size+2,[],[],[]⟩,?_,?_,F,((an.ext e2).ext I).ext E,?_,J⟩
 ·first|rfl|(rw[al];rfl)
 ·exact⟨am,F,F,aF,aF,aF,((aq.ext e2).ext I).ext E,(ae.ext I).ext E,af.ext E,jc.nil,jc.nil,jc.nil,aF,by simp only[map_nil,nodup_cons,mem_cons,not_mem_nil,or_false,not_or];exact⟨J,J,aF,aF⟩,aF,aF,aF⟩
 ·intro g ao;rcases ao with h|h|h|h|⟨x,ap,_⟩
  ·omega
  ·simp at h;omega
  ·simp at h;omega
  ·simp at h;omega
  ·simp at ap
theorem SE(p:Nat)(S:aV)(w:World)(h:dJ w p S):
 Calls prog 51 #[.pointer (some ⟨p,0,none⟩)] w fun e w'=>e= .returned (.int .i64 S.tm)/\X w w':=by
 have j:=h.blk.cell' (i:=1) (v:= .int .i64 S.tm) F;clear h;go_enter func51,ntmps51;go_wp2_with fail;go_ret;exact⟨F,X.refl _⟩
structure Ij where
 al:Bool
 ru:Int
 nd:Int
 ow:ByteArray
def Ij.v(d:Ij):aO:=[.bool d.al,.int .i64 d.ru,.int .i64 d.nd,.string d.ow]
theorem Ij.len(d:Ij):d.v.length=4:=F
theorem eu.aam{w:World}{a:eu}(h:a.Ok w):(a.v.drop 0).take 16=a.bI.map Y:=by
 unfold eu.v;rw[drop_zero,take_left' (by simp[h.ha])]
theorem eu.aan(a:eu):a.v=(a.bI.map Y++[.slice a.sa a.sn a.sc,.int .i64 a.act,.string a.label])++(a.key.map Y++(.int .i64 a.time::a.detail.map Y)):=by
 unfold eu.v;simp
theorem eu.aao{w:World}{a:eu}(h:a.Ok w):(a.v.drop 19).take 16=a.key.map Y:=by
 rw[eu.aan,drop_left' (by simp[h.ha]),take_left' (by simp[h.hk])]
theorem eu.aap{w:World}{a:eu}(h:a.Ok w):(a.v.drop 36).take 32=a.detail.map Y:=by
 have:a.v=(a.bI.map Y++[.slice a.sa a.sn a.sc,.int .i64 a.act,.string a.label]++a.key.map Y++[.int .i64 a.time])++a.detail.map Y:=by unfold eu.v;simp
 rw[this,drop_left' (by simp[h.ha,h.hk]),take_of_length_le (by simp[h.hd])]
def sW(a:eu):aj:=a.bI++[UInt8.ofNat a.act.toNat]++a.key++a.detail
theorem SG{w:World}{a:eu}(h:a.Ok w):(sW a).length=65:=by unfold sW;simp[h.ha,h.hk,h.hd]
theorem SH(a:eu)(w:World)(ha:a.Ok w)(b6:∃A:Nat,a.act=(A:Int)/\A<=12):
 Calls prog 53 #[.agg a.v.toArray] w fun e w'=>e= .returned (.agg ((dY 5 (sW a)).map Y).toArray)/\X w w':=by
 obtain⟨cc,a2,b0,b1,b2⟩:=dM (eu.len ha) (eu.pI ha) (eu.aam ha) (eu.aao ha) (eu.aap ha);have bv:=O ha.ha;have bw:=O ha.hk;have bx:=O ha.hd;obtain⟨bk,a4,a3⟩:=aW (fun(b:aN) (c:Nat) w' h=>uV 5 (sW a) 65 c b w' J J (SG ha) J h) (SG ha) (show((dY 5 (sW a)).map Y).length=32 by rw[length_map,j_]);have b9:=b_ (dY 5 (sW a));obtain⟨A,ao,cd⟩:=b6;obtain⟨aa,aw⟩:=jE (UInt8.ofNat A);have bi:a.bI++[aa]++a.key++a.detail=sW a:=by unfold sW;rw[ao,aw];rfl
 obtain⟨b3,bz⟩:=aB bi aw;rw[ao]at a2;clear aw bi ao ha;generalize b7:dY 5 (sW a)=S at*;clear b7;generalize sW a=b' at*;generalize a.v=av at*;generalize a.bI=l0 at*;generalize a.key=ax at*;generalize a.detail=az at*;go_enter func53,ntmps53;go_upto_region 1 with(fail);generalize an:World.alloc (World.alloc w _) _=af;have bh:ah af w.heap.size av 108:=by rw[<-an];exact(ah.aI F F).alloc _
 have br:ah af (w.heap.size+1) (List.replicate 32 (.int .u8 0)) 31:=by rw[<-an];exact ah.aI aF F
 have bc:X w af:=by rw[<-an];exact((X.refl w).alloc _).alloc _
 obtain⟨ae,am,a0⟩:=aW bh br bc;clear an bh br bc;obtain⟨C,ab,aJ,bP⟩:=iw (show bT w af [w.heap.size,w.heap.size+1] [] af from bT.jA a0 (dV.two ae.lt am.lt));have a9:∀u,C u->u.cell? ⟨w.heap.size,17,none⟩=some (.int .i64 (A:Int)):=fun u ad=>(((ab u).1 ad).blk ae aF).cell' a2;have a8:∀u,C u->aK u (some ⟨w.heap.size,0,none⟩) (l0.map Y):=fun u ad=>by
  have:=aK.vP (((ab u).1 ad).blk ae aF) 0 16;rwa[b0.out]at this
 have a_:∀u,C u->aK u (some ⟨w.heap.size,19,none⟩) (ax.map Y):=fun u ad=>by
  have:=aK.vP (((ab u).1 ad).blk ae aF) 19 16;rwa[b1.out]at this
 have ba:∀u,C u->aK u (some ⟨w.heap.size,36,none⟩) (az.map Y):=fun u ad=>by
  have:=aK.vP (((ab u).1 ad).blk ae aF) 36 32;rwa[b2.out]at this
 refine jQ (W:=[13]) fun Z=> ?_;refine bK 0 ?_;refine bK 1 ?_;refine bK 2 ?_;refine eY 3 (a9) ?_;refine bK 4 ?_;refine bK 6 ?_;refine bK 7 ?_;refine bK 8 ?_;refine bK 9 ?_;have bl:IntKind.u8.wrap (A:Int)=(aa.toNat:Int):=by
  rw[bz.out,UInt8.toNat_ofNat',IntWalk.u8_in _ J];omega
 rw[bl];clear bl;have ce:=O am.lt;generalize af.drew=ag at*;refine fC 5 ?_;intro I E;go_wp2_with fail;have aE:=O (show ah (ag.alloc (.cells #[.int .u8 (aa.toNat:Int)] 5)) ag.heap.size ([aa].map Y) 5 from ah.aI F F);have hF:=aJ _ _ Z ((X.refl ag).alloc (.cells #[.int .u8 (aa.toNat:Int)] 5));refine E _ _ hF ?_;clear E I Z;have Z:=hF;clear hF;generalize ag.alloc (.cells #[.int .u8 (aa.toNat:Int)] 5)=R at*;generalize ag.heap.size=ac at*;refine aH ?_;obtain⟨k1,b8,k4,k6⟩:=bU (aK.eG aE) (a8 R Z) (a_ R Z) (ba R Z);clear aE a8 a_ ba a9;refine fC 10 ?_;intro I E;go_wp2_with fail;have ap:=aJ _ _ Z ((X.refl R).alloc (.cells #[.slice (some ⟨w.heap.size,0,none⟩) 16 16,.slice (some ⟨ac,0,none⟩) 1 1,.slice (some ⟨w.heap.size,19,none⟩) 16 16,.slice (some ⟨w.heap.size,36,none⟩) 32 32] 32));obtain⟨ai,al⟩:=aB (show ah (R.alloc (.cells #[.slice (some ⟨w.heap.size,0,none⟩) 16 16,.slice (some ⟨ac,0,none⟩) 1 1,.slice (some ⟨w.heap.size,19,none⟩) 16 16,.slice (some ⟨w.heap.size,36,none⟩) 32 32] 32)) R.heap.size [.slice (some ⟨w.heap.size,0,none⟩) 16 16,.slice (some ⟨ac,0,none⟩) 1 1,.slice (some ⟨w.heap.size,19,none⟩) 16 16,.slice (some ⟨w.heap.size,36,none⟩) 32 32] 32 from ah.aI F F) ((X.refl R).alloc (.cells #[.slice (some ⟨w.heap.size,0,none⟩) 16 16,.slice (some ⟨ac,0,none⟩) 1 1,.slice (some ⟨w.heap.size,19,none⟩) 16 16,.slice (some ⟨w.heap.size,36,none⟩) 32 32] 32));refine E _ _ ap ?_;clear E I Z;have Z:=ap;clear ap;generalize R.alloc (.cells #[.slice (some ⟨w.heap.size,0,none⟩) 16 16,.slice (some ⟨ac,0,none⟩) 1 1,.slice (some ⟨w.heap.size,19,none⟩) 16 16,.slice (some ⟨w.heap.size,36,none⟩) 32 32] 32)=ca at*
 generalize R.heap.size=b5 at*;refine aH ?_;refine fC 11 ?_;intro I E;go_wp2_with fail;have ar:fZ [(some ⟨w.heap.size,0,none⟩,16,l0),(some ⟨ac,0,none⟩,1,[aa]),(some ⟨w.heap.size,19,none⟩,16,ax),(some ⟨w.heap.size,36,none⟩,32,az)]=b':=by rw[<-b3.out];simp[fZ]
 refine(zG [(some ⟨w.heap.size,0,none⟩,16,l0),(some ⟨ac,0,none⟩,1,[aa]),(some ⟨w.heap.size,19,none⟩,16,ax),(some ⟨w.heap.size,36,none⟩,32,az)] b5 4 4 ca F J J ?hg ?hc ?hn ?hl).mono ?_
 case hg=>
  intro j bm hit
  match j,hit with
  |0,hit=>cases hit;unfold nS;simp only;rw[bv.out];exact ai.cell' F
  |1,hit=>cases hit;exact ai.cell' F
  |2,hit=>cases hit;unfold nS;simp only;rw[bw.out];exact ai.cell' F
  |3,hit=>cases hit;unfold nS;simp only;rw[bx.out];exact ai.cell' F
 case hc=>
  intro bm hit;simp only[mem_cons,not_mem_nil,or_false]at hit;rcases hit with rfl|rfl|rfl|rfl
  ·exact b8.ext al
  ·exact k1.ext al
  ·exact k4.ext al
  ·exact k6.ext al
 case hn=>
  intro bm hit;simp only[mem_cons,not_mem_nil,or_false]at hit;rcases hit with rfl|rfl|rfl|rfl<;>(intro h;cases h)
 case hl=>rw[ar,a4.out];omega
 rw[ar,a4.out];rintro e cb ⟨v,rfl,own,bd⟩;have aq:=aJ _ _ Z bd;obtain⟨b4,k5,rfl,cf,cg,ch,bj⟩:=nT own;have a5:=O bj;clear own ar bj;go_wp2_with fail;refine E _ _ aq ?_;clear E I Z bd;have Z:=aq;clear aq;refine aH ?_;refine fC 12 ?_;intro I E;go_wp2_with fail;refine(bk b4 k5 cb a5).mono ?_;rintro e bp ⟨rfl,be⟩;replace Z:=aJ _ _ Z be;go_wp2_with fail;refine E _ _ Z ?_;clear E I be;refine aH ?_;have a6:=O (((ab bp).1 Z).blk am aF);have a1:=O ((ab bp).1 Z).base;clear Z ab aJ bP ae am a0 bk a5;refine iU 13 ?_;intro I E;go_wp2_with (refine bg F _ _ _ F F F a6 bY aF a3 b9 ?_);intro ci a7 bo;go_wp2_with fail;refine E _ _ trivial ?_;clear E I;obtain⟨bt,bu⟩:=aB a7 (bo.ext a1 J);clear a7 bo a6 a1;refine aH ?_;refine jR ?_;go_wp2;exact gG F F bt bY a3 F ⟨F,bu⟩
section
open Go Go.RowKit
theorem dF{w:World}{g:Nat}{vs xs:aO}{T:TypeId}{off n:Nat}(h:ah w g vs T)(I:(vs.drop off).take n=xs):dP w ⟨g,off,none⟩ xs:=by
 intro j u E;rw[dn];refine h.cell' ?_;rw[<-I,List.getElem?_take]at E;split at E
 ·rwa[List.getElem?_drop]at E
 ·cases E
theorem vH{P:Program}{o:Oper}{a:Act}{t:TypeId}{y z:Operand}{c:Bool}{j u v:Value}{w:World}(E:o.op= .lookup t y z c)(I:a.eval y=j)(R:a.eval z=u)
 (h:(Instr.lookup t j u c).run P w= .ok v w):(execOp a.eval o).run P w= .ok (.value v) w:=by
 unfold execOp;simp only[E,I,R,Sem.run_bind];rw[h];simp only[Result.andThen_ok,Sem.run_pure]
theorem SI{V:Type}(vv:V->Value)(d:V)(o:Option V):Eo vv (vv d) o=vv (o.getD d):=by cases o<;>rfl
theorem aV.aL(S:aV):S.v[0]? =some (.int .i64 (S.cnt:Int)):=F
theorem aV.rH(S:aV):S.v[1]? =some (.int .i64 S.tm):=F
theorem aV.tail(S:aV):S.v.drop 2=S.last.map Y++(S.ji.map Y++[.pointer (S.pol.map fun p=>⟨p.q,0,none⟩),.map (some S.gm),.map (some S.gk),.map (some S.ga)]):=F
theorem aV.last_at{S:aV}(h:S.last.length=32):(S.v.drop 2).take 32=S.last.map Y:=by
 rw[aV.tail,take_left' (by rw[length_map,h])]
theorem aV.aaq{S:aV}(h:S.last.length=32)(hf:S.ji.length=16):(S.v.drop 34).take 16=S.ji.map Y:=by
 have:S.v.drop 34=(S.v.drop 2).drop 32:=by rw[drop_drop]
 rw[this,aV.tail,drop_left' (by rw[length_map,h]),take_left' (by rw[length_map,hf])]
theorem aV.Ik{S:aV}(h:S.last.length=32)(hf:S.ji.length=16):S.v.drop 50=[.pointer (S.pol.map fun p=>⟨p.q,0,none⟩),.map (some S.gm),.map (some S.gk),.map (some S.ga)]:=by
 have:S.v.drop 50=((S.v.drop 2).drop 32).drop 16:=by rw[drop_drop,drop_drop]
 rw[this,aV.tail,drop_left' (by rw[length_map,h]),drop_left' (by rw[length_map,hf])]
theorem aV.CG{S:aV}(h:S.last.length=32)(hf:S.ji.length=16):S.v[50]? =some (.pointer (S.pol.map fun p=>⟨p.q,0,none⟩)):=by
 have:=congrArg (fun l=>l[0]?) (aV.Ik h hf);simpa using this
theorem aV.mD{S:aV}(h:S.last.length=32)(hf:S.ji.length=16):S.v[51]? =some (.map (some S.gm)):=by
 have:=congrArg (fun l=>l[1]?) (aV.Ik h hf);simpa using this
theorem aV.nV{S:aV}(h:S.last.length=32)(hf:S.ji.length=16):S.v[52]? =some (.map (some S.gk)):=by
 have:=congrArg (fun l=>l[2]?) (aV.Ik h hf);simpa using this
theorem aV.oQ{S:aV}(h:S.last.length=32)(hf:S.ji.length=16):S.v[53]? =some (.map (some S.ga)):=by
 have:=congrArg (fun l=>l[3]?) (aV.Ik h hf);simpa using this
theorem aV.len{S:aV}(h:S.last.length=32)(hf:S.ji.length=16):S.v.length=54:=by unfold aV.v;simp[h,hf]
theorem iF.Hi.ext{w w':World}{B:Nat}{r:iF}(h:r.Hi w B)(e:X w w'):r.Hi w' B:=⟨h.hl,h.nc,h.n16,h.sz,h.cell.ext' e⟩
theorem oG.Hi.ext{w w':World}{B:Nat}{r:oG}(h:r.Hi w B)(e:X w w'):r.Hi w' B:=
 ⟨h.blk.ext e,h.ge,h.hl,h.nc,h.n100,h.cell.ext' e,fun r j=>(h.rM r j).ext e,fun r j=>⟨(h.jF r j).1.ext' e,(h.jF r j).2.1.ext' e,(h.jF r j).2.2.ext' e⟩⟩
theorem dJ.ext{w w':World}{p:Nat}{S:aV}(h:dJ w p S)(e:X w w'):dJ w' p S:=
 {h with blk:=h.blk.ext e,mem:=h.mem.ext e,key:=h.key.ext e,app:=h.app.ext e,inn:=fun x j=>⟨(h.inn x j).1.ext e,(h.inn x j).2.1,fun y u=>⟨((h.inn x j).2.2 y u).1.ext e,((h.inn x j).2.2 y u).2⟩⟩,mr:=fun x j=>(h.mr x j).ext e,po:=fun P E=>(h.po P E).ext e}
theorem aar(w:World):(zeroValue 98).run prog w= .ok (iF.v iF.nil) w:=au
theorem aas(w:World):(zeroValue 159).run prog w= .ok (bC.va bC.zero) w:=au
section
variable {K V U:Type} [DecidableEq K] (f:V->U)
theorem Ll(hs:List (K×V))(k:K):jq k (hs.map fun x=>(x.1,f x.2))=jq k hs:=by
 unfold jq;rw[List.findIdx?_map];rfl
theorem EK(hs:List (K×V))(k:K):bW (hs.map fun x=>(x.1,f x.2)) k=(bW hs k).map f:=by
 unfold bW;rw[Ll];cases jq k hs with
 |none=>rfl
 |some i=>simp only[List.getElem?_map,Option.map_map];rfl
theorem Lm(hs:List (K×V))(k:K)(v:V):dU (hs.map fun x=>(x.1,f x.2)) k (f v)=(dU hs k v).map fun x=>(x.1,f x.2):=by
 unfold dU;rw[Ll];cases jq k hs with
 |none=>simp
 |some i=>simp[map_set]
theorem Lp(hs:List (K×V))(k:K):iQ (hs.map fun x=>(x.1,f x.2)) k=(iQ hs k).map fun x=>(x.1,f x.2):=by
 unfold iQ;rw[Ll];cases jq k hs with
 |none=>rfl
 |some i=>simp[KA]
end
noncomputable def aV.jO(S:aV)(id:aj):iF:=(bW S.ms id).getD .nil
noncomputable def aV.uI(S:aV)(id:aj):bC:=(bW S.ks id).getD .zero
theorem dJ.EL{w:World}{p:Nat}{S:aV}(h:dJ w p S){id:aj}(j:id.length=16)(c:Bool):
 (Instr.lookup 142 (.map (some S.gm)) (eX id) c).run prog w= .ok (if c then .tuple #[(S.jO id).v,.bool (bW S.ms id).isSome]else(S.jO id).v) w:=by
 have:=G9 vg underlying142 (aar w) h.mem h.em (show og id from j) c;rwa[SI]at this
theorem dJ.Lr{w:World}{p:Nat}{S:aV}(h:dJ w p S){id:aj}(j:id.length=16)(c:Bool):
 (Instr.lookup 143 (.map (some S.gk)) (eX id) c).run prog w= .ok (if c then .tuple #[(S.uI id).va,.bool (bW S.ks id).isSome]else(S.uI id).va) w:=by
 have:=G9 vg underlying143 (aas w) h.key h.ek (show og id from j) c;rwa[SI]at this
theorem dJ.SK{w:World}{p:Nat}{S:aV}(h:dJ w p S)(id:aj):(S.jO id).Hi w (p+1):=by
 unfold aV.jO;cases j:bW S.ms id with
 |none=>exact⟨F,Nat.le_refl _,aX,by simp[iF.nil],.inl F⟩
 |some r=>exact h.mr _ (BO j)
theorem dJ.Il{w:World}{p:Nat}{S:aV}(h:dJ w p S)(id:aj):(S.uI id).Ok:=by
 unfold aV.uI;cases j:bW S.ks id with
 |none=>exact bC.vk
 |some r=>exact h.kr _ (BO j)
end
def zb(n:Nat):aO:=(List.replicate n (0:UInt8)).map Y
def yR:eu:=⟨fO,none,0,0,[],0,⟨#[]⟩,fO,0,kN⟩
theorem aat:(prog.info? 108).map (fun i=>(i.zero,i.size,i.bytes))=some (some (.agg yR.v.toArray),68,120):=au
theorem aau:(prog.underlying 108).bind (fun d=>match d with| .struct j=>j.toList.mapM (fun f=>(prog.info? f.type).map fun i=>(f.offset,i.size))|_=>none)=some [(0,16),(16,1),(17,1),(18,1),(19,16),(35,1),(36,32)]:=au
theorem EM:(prog.info? 159).map (fun i=>(i.zero,i.size,i.bytes))=some (some (.agg bC.zero.v.toArray),84,120):=au
theorem aav:(prog.underlying 159).bind (fun d=>match d with| .struct j=>j.toList.mapM (fun f=>(prog.info? f.type).map fun i=>(f.offset,i.size))|_=>none)=some [(0,16),(16,1),(17,1),(18,32),(50,1),(51,1),(52,32)]:=au
theorem aaw(x:aj)(sa:aN)(sn sc:Nat)(l:aT)(act:Int)(y:aj)(t:Int)(z:aj)(j:x.length=16)(u:y.length=16)(E:z.length=32):prog.built 108 [(0,Value.agg (x.map Y).toArray),(1,Value.slice sa sn sc),(2,Value.int .i64 act),(4,Value.agg (y.map Y).toArray),(5,Value.int .i64 t),(6,Value.agg (z.map Y).toArray)]=some (eu.v ⟨x,sa,sn,sc,l,act,⟨#[]⟩,y,t,z⟩).toArray:=by
 obtain⟨ad,R,aa,ac,ab⟩:=info_parts aat;have hf:=aau;rw[underlying108]at hf;simp only[Option.bind_some]at hf;unfold Program.built;rw[R,underlying108];simp only[aa,hf];have g0:(Value.agg yR.v.toArray).cells=((([]:aO))++(zb 16)++([Value.slice none 0 0]++[Value.int .i64 0]++[Value.string ⟨#[]⟩]++(zb 16)++[Value.int .i64 0]++(zb 32))).toArray:=F;rw[g0,jh (([]:aO)) (zb 16) ([Value.slice none 0 0]++[Value.int .i64 0]++[Value.string ⟨#[]⟩]++(zb 16)++[Value.int .i64 0]++(zb 32)) F (by simp[zb,j,u,E]) (by simp[Value.cells,j,u,E]) (by simp[zb])];have g1:(([]:aO))++(Value.agg (x.map Y).toArray).cells.toList++([Value.slice none 0 0]++[Value.int .i64 0]++[Value.string ⟨#[]⟩]++(zb 16)++[Value.int .i64 0]++(zb 32))=((x.map Y))++[Value.slice none 0 0]++([Value.int .i64 0]++[Value.string ⟨#[]⟩]++(zb 16)++[Value.int .i64 0]++(zb 32)):=by simp[Value.cells,zb]
 rw[g1,jh ((x.map Y)) [Value.slice none 0 0] ([Value.int .i64 0]++[Value.string ⟨#[]⟩]++(zb 16)++[Value.int .i64 0]++(zb 32)) F (by simp[zb,j,u,E]) (by simp[Value.cells,j,u,E]) (by simp[zb])];have I:((x.map Y))++(Value.slice sa sn sc).cells.toList++([Value.int .i64 0]++[Value.string ⟨#[]⟩]++(zb 16)++[Value.int .i64 0]++(zb 32))=((x.map Y)++[Value.slice sa sn sc])++[Value.int .i64 0]++([Value.string ⟨#[]⟩]++(zb 16)++[Value.int .i64 0]++(zb 32)):=by simp[Value.cells,zb]
 rw[I,jh ((x.map Y)++[Value.slice sa sn sc]) [Value.int .i64 0] ([Value.string ⟨#[]⟩]++(zb 16)++[Value.int .i64 0]++(zb 32)) F (by simp[zb,j,u,E]) (by simp[Value.cells,j,u,E]) (by simp[zb])];have g3:((x.map Y)++[Value.slice sa sn sc])++(Value.int .i64 act).cells.toList++([Value.string ⟨#[]⟩]++(zb 16)++[Value.int .i64 0]++(zb 32))=((x.map Y)++[Value.slice sa sn sc]++[Value.int .i64 act]++[Value.string ⟨#[]⟩])++(zb 16)++([Value.int .i64 0]++(zb 32)):=by simp[Value.cells,zb]
 rw[g3,jh ((x.map Y)++[Value.slice sa sn sc]++[Value.int .i64 act]++[Value.string ⟨#[]⟩]) (zb 16) ([Value.int .i64 0]++(zb 32)) F (by simp[zb,j,u,E]) (by simp[Value.cells,j,u,E]) (by simp[zb])];have g4:((x.map Y)++[Value.slice sa sn sc]++[Value.int .i64 act]++[Value.string ⟨#[]⟩])++(Value.agg (y.map Y).toArray).cells.toList++([Value.int .i64 0]++(zb 32))=((x.map Y)++[Value.slice sa sn sc]++[Value.int .i64 act]++[Value.string ⟨#[]⟩]++(y.map Y))++[Value.int .i64 0]++((zb 32)):=by simp[Value.cells,zb]
 rw[g4,jh ((x.map Y)++[Value.slice sa sn sc]++[Value.int .i64 act]++[Value.string ⟨#[]⟩]++(y.map Y)) [Value.int .i64 0] ((zb 32)) F (by simp[zb,j,u,E]) (by simp[Value.cells,j,u,E]) (by simp[zb])];have g5:((x.map Y)++[Value.slice sa sn sc]++[Value.int .i64 act]++[Value.string ⟨#[]⟩]++(y.map Y))++(Value.int .i64 t).cells.toList++((zb 32))=((x.map Y)++[Value.slice sa sn sc]++[Value.int .i64 act]++[Value.string ⟨#[]⟩]++(y.map Y)++[Value.int .i64 t])++(zb 32)++(([]:aO)):=by simp[Value.cells,zb]
 rw[g5,jh ((x.map Y)++[Value.slice sa sn sc]++[Value.int .i64 act]++[Value.string ⟨#[]⟩]++(y.map Y)++[Value.int .i64 t]) (zb 32) (([]:aO)) F (by simp[zb,j,u,E]) (by simp[Value.cells,j,u,E]) (by simp[zb])];rw[Instr.fill];simp[Value.cells,zb,eu.v]
theorem aax{o:Oper}{a:Act}{j u E I R aa:Operand}{x:aj}{sa:aN}{sn sc:Nat}{l:aT}{act:Int}{y:aj}{t:Int}{z:aj}(al:o.op= .build 108 #[(0,j),(1,u),(2,E),(4,I),(5,R),(6,aa)])(ab:a.eval j=Value.agg (x.map Y).toArray)(ac:a.eval u=Value.slice sa sn sc)(e2:a.eval E=Value.int .i64 act)(ad:a.eval I=Value.agg (y.map Y).toArray)(ae:a.eval R=Value.int .i64 t)(af:a.eval aa=Value.agg (z.map Y).toArray)(am:x.length=16)(an:y.length=16)(ao:z.length=32)(w:World):(execOp a.eval o).run prog w= .ok (.value (.agg (eu.v ⟨x,sa,sn,sc,l,act,⟨#[]⟩,y,t,z⟩).toArray)) w:=by
 have h:=run_build (P:=prog) w 108 #[(0,Value.agg (x.map Y).toArray),(1,Value.slice sa sn sc),(2,Value.int .i64 act),(4,Value.agg (y.map Y).toArray),(5,Value.int .i64 t),(6,Value.agg (z.map Y).toArray)] _ (aaw x sa sn sc l act y t z am an ao);have ai:(#[(0,j),(1,u),(2,E),(4,I),(5,R),(6,aa)].map fun(r:Nat×Operand)=>(r.1,a.eval r.2))= #[(0,Value.agg (x.map Y).toArray),(1,Value.slice sa sn sc),(2,Value.int .i64 act),(4,Value.agg (y.map Y).toArray),(5,Value.int .i64 t),(6,Value.agg (z.map Y).toArray)]:=by simp[ab,ac,e2,ad,ae,af]
 unfold execOp;simp only[al,Sem.run_bind];have ag:(Instr.build 108 (#[(0,j),(1,u),(2,E),(4,I),(5,R),(6,aa)].map fun(r:Nat×Operand)=>(r.1,a.eval r.2))).run prog w= .ok (.agg (eu.v ⟨x,sa,sn,sc,l,act,⟨#[]⟩,y,t,z⟩).toArray) w:=by rw[ai];exact h
 rw[ag];rfl
theorem aay(x:aj)(E:ByteArray)(y:aj)(es:Int)(j:x.length=16)(u:y.length=32):prog.built 159 [(0,Value.agg (x.map Y).toArray),(1,Value.string E),(3,Value.agg (y.map Y).toArray),(5,Value.int .i64 es)]=some (bC.v ⟨x,E,0,y,false,es,kN⟩).toArray:=by
 obtain⟨ad,R,aa,ac,ab⟩:=info_parts EM;have hf:=aav;rw[underlying159]at hf;simp only[Option.bind_some]at hf;unfold Program.built;rw[R,underlying159];simp only[aa,hf];have g0:(Value.agg bC.zero.v.toArray).cells=((([]:aO))++(zb 16)++([Value.string ⟨#[]⟩]++[Value.int .i64 0]++(zb 32)++[Value.bool false]++[Value.int .i64 0]++(zb 32))).toArray:=F;rw[g0,jh (([]:aO)) (zb 16) ([Value.string ⟨#[]⟩]++[Value.int .i64 0]++(zb 32)++[Value.bool false]++[Value.int .i64 0]++(zb 32)) F (by simp[zb,j,u]) (by simp[Value.cells,j,u]) (by simp[zb])];have g1:(([]:aO))++(Value.agg (x.map Y).toArray).cells.toList++([Value.string ⟨#[]⟩]++[Value.int .i64 0]++(zb 32)++[Value.bool false]++[Value.int .i64 0]++(zb 32))=((x.map Y))++[Value.string ⟨#[]⟩]++([Value.int .i64 0]++(zb 32)++[Value.bool false]++[Value.int .i64 0]++(zb 32)):=by simp[Value.cells,zb]
 rw[g1,jh ((x.map Y)) [Value.string ⟨#[]⟩] ([Value.int .i64 0]++(zb 32)++[Value.bool false]++[Value.int .i64 0]++(zb 32)) F (by simp[zb,j,u]) (by simp[Value.cells,j,u]) (by simp[zb])];have I:((x.map Y))++(Value.string E).cells.toList++([Value.int .i64 0]++(zb 32)++[Value.bool false]++[Value.int .i64 0]++(zb 32))=((x.map Y)++[Value.string E]++[Value.int .i64 0])++(zb 32)++([Value.bool false]++[Value.int .i64 0]++(zb 32)):=by simp[Value.cells,zb]
 rw[I,jh ((x.map Y)++[Value.string E]++[Value.int .i64 0]) (zb 32) ([Value.bool false]++[Value.int .i64 0]++(zb 32)) F (by simp[zb,j,u]) (by simp[Value.cells,j,u]) (by simp[zb])];have g3:((x.map Y)++[Value.string E]++[Value.int .i64 0])++(Value.agg (y.map Y).toArray).cells.toList++([Value.bool false]++[Value.int .i64 0]++(zb 32))=((x.map Y)++[Value.string E]++[Value.int .i64 0]++(y.map Y)++[Value.bool false])++[Value.int .i64 0]++((zb 32)):=by simp[Value.cells,zb]
 rw[g3,jh ((x.map Y)++[Value.string E]++[Value.int .i64 0]++(y.map Y)++[Value.bool false]) [Value.int .i64 0] ((zb 32)) F (by simp[zb,j,u]) (by simp[Value.cells,j,u]) (by simp[zb])];rw[Instr.fill];simp[Value.cells,zb,bC.v,kN]
theorem aaz{o:Oper}{a:Act}{u E I R:Operand}{x:aj}{j:ByteArray}{y:aj}{es:Int}(ag:o.op= .build 159 #[(0,u),(1,E),(3,I),(5,R)])(aa:a.eval u=Value.agg (x.map Y).toArray)(ab:a.eval E=Value.string j)(ac:a.eval I=Value.agg (y.map Y).toArray)(ad:a.eval R=Value.int .i64 es)(ai:x.length=16)(al:y.length=32)(w:World):(execOp a.eval o).run prog w= .ok (.value (.agg (bC.v ⟨x,j,0,y,false,es,kN⟩).toArray)) w:=by
 have h:=run_build (P:=prog) w 159 #[(0,Value.agg (x.map Y).toArray),(1,Value.string j),(3,Value.agg (y.map Y).toArray),(5,Value.int .i64 es)] _ (aay x j y es ai al);have af:(#[(0,u),(1,E),(3,I),(5,R)].map fun(r:Nat×Operand)=>(r.1,a.eval r.2))= #[(0,Value.agg (x.map Y).toArray),(1,Value.string j),(3,Value.agg (y.map Y).toArray),(5,Value.int .i64 es)]:=by simp[aa,ab,ac,ad]
 unfold execOp;simp only[ag,Sem.run_bind];have ae:(Instr.build 159 (#[(0,u),(1,E),(3,I),(5,R)].map fun(r:Nat×Operand)=>(r.1,a.eval r.2))).run prog w= .ok (.agg (bC.v ⟨x,j,0,y,false,es,kN⟩).toArray) w:=by rw[af];exact h
 rw[ae];rfl
theorem SL{x:aj}(h:x.length=16)(w:World):(binOp .eql 29 (.agg (x.map Y).toArray) (.agg (List.replicate 16 (.int .u8 0)).toArray)).run prog w= .ok (.bool (decide (x=fO))) w:=by
 have u:(List.replicate 16 (Value.int .u8 0))=fO.map Y:=by simp[fO,Y]
 rw[u,O4 underlying29 x fO h (by simp[fO]) w]
 congr 1
 by_cases j:x=fO<;>simp[j]
theorem ay.Ls{b:ay}(h:b.member.length=16):(b.v.drop 1).take 16=b.member.map Y:=by
 unfold ay.v;rw[drop_succ_cons,drop_zero,take_left' (by rw[length_map,h])]
theorem Lu(p:Nat)(S:aV)(e:aG)(b:ay)(w:World)(h:dJ w p S)(ac:b.member.length=16)(hc:b.commit.length=32):
 Calls prog 124 #[.pointer (some ⟨p,0,none⟩),.agg e.v.toArray,.agg b.v.toArray] w fun x w'=>x= .returned (.int .i64 (S.p.EG e b.p))/\X w w':=by
 obtain⟨bz,ax,aw,br,a3,be⟩:=iq h (show(b.member.map Y).length=16 by rw[length_map,ac]) (ay.Ls ac) (fun j (bk:X w j)=>(h.ext bk).EL (id:=b.member) ac true) (fun j=>SL ac j) (ay.J_ (b:=b) ac hc);have a9:bW S.p.ms b.member=(bW S.ms b.member).map iF.l:=EK iF.l S.ms b.member;have a_:S.p.ms.length=S.ms.length:=by show(S.ms.map _).length=_;rw[length_map]
 obtain⟨V,af⟩:=aC (S.p.EG e b.p);rw[af];unfold dw.EG at af;rw[show b.p.member=b.member from F,a9,a_,show S.p.cnt=S.cnt from F,show b.p.count=b.count from F,Option.isSome_map,Option.isNone_map,show(bW S.ms b.member).isNone= !(bW S.ms b.member).isSome by cases bW S.ms b.member<;>rfl]at af;obtain⟨R,bt⟩:=aB af (aG.at2 e);have bm:=O h.blk;have ai:=O (And.intro h.hl h.hf);have bo:=O h.mem;clear af h ac hc a9 a_;generalize e.v=bl at*;generalize b.v=bj at*;go_enter func124,ntmps124;go_upto_region 1 with fail;generalize ap:World.alloc (World.alloc w _) _=ad;have a7:ah ad w.heap.size bl 34:=by rw[<-ap];exact(ah.aI F F).alloc _
 have a6:ah ad (w.heap.size+1) bj 101:=by rw[<-ap];exact ah.aI (gU _ _).symm rfl
 have aE:X w ad:=by rw[<-ap];exact((X.refl w).alloc _).alloc _
 obtain⟨a2,aq,ar,az⟩:=bU a7 a6 aE (bm.ext aE);clear ap a7 a6 aE;generalize w.heap.size+1=G5 at*;generalize w.heap.size=G4 at*;obtain⟨C,u,aJ⟩:=jJ ad;have a8:∀j,C j->j.cell? ⟨p,51,none⟩=some (.map (some S.gm)):=fun j ae=>(az.ext ((u j).1 ae)).cell' (aV.mD ai.1 ai.2);refine wp_region_held_drew (S:=C) au ((u _).2 (X.refl ad).drew) (fun Z=> ?_);refine aA 0 ?_;refine aA 1 ?_;refine aA 2 ?_;refine dA 3 (a8) ?_;refine aA 4 ?_;refine bD 5 F (bf F (fun j h=>bQ F F (dF (aq.ext ((u j).1 h)) aw) dh ax)) ?_;refine bD 6 F (bf F (fun j h=>vH F F F (br j (ar.ext ((u j).1 h))))) ?_;simp only[if_true];generalize (bW S.ms b.member).isSome=ba at*;generalize (S.jO b.member).v=b8 at*;refine aA 7 ?_;refine aA 8 ?_;refine aA 9 ?_;refine aA 10 ?_;refine aA 11 ?_;refine dH ?_;have aa:=(u _).1 Z;generalize bu:World.drew ad=bh at aa⊢;obtain⟨bi,ag,a5,I⟩:=bU (a2.ext aa) (aq.ext aa) (az.ext aa) (ar.ext aa);have b9:=bi.cell' bt;have b0:=fun ty=>YN (ty:=ty) underlying142 (bo.ext I);have b':=a5.cell' (aV.mD ai.1 ai.2);have bx:=a5.cell' (aV.aL S);have ca:=ag.cell' be;clear bu aa a2 ar az aq Z aJ u a8;generalize e.act=act at*;by_cases am:act=2
 ·subst am;cases ba with
  |true=>
   go_wp2_with fail;go_ret;exact⟨by rw[<-R.out];rfl,I⟩
  |false=>
   have a0:=a3.out;obtain⟨zb,a1⟩:=aC (decide (b.member=fO));rw[a1]at a0;have a4:=O a0;have E:=O (show(if zb=true then(2:Int)else 0)=V by
    rw[<-R.out,<-a1];by_cases bp:b.member=fO<;>simp[bp])
   clear a0 a1 R a3;cases zb with
   |true=>
    go_wp2_with (first|(refine bF F (bQ F F (dF ag aw) dh ax) ?_)|(refine bF F (jm F F F oD a4 _) ?_));go_ret;exact⟨by rw[<-E.out];rfl,I⟩
   |false=>
    go_wp2_with (first|(refine bF F (bQ F F (dF ag aw) dh ax) ?_)|(refine bF F (jm F F F oD a4 _) ?_));go_ret;exact⟨by rw[<-E.out];rfl,I⟩
 have b1:(act==2)=false:=by simp;exact am
 have b2:decide (act=2)=false:=aP am;by_cases an:act=3
 ·subst an;cases ba with
  |false=>
   go_wp2_with fail;go_ret;exact⟨by rw[<-R.out];rfl,I⟩
  |true=>
   generalize S.ms.length=N at*;by_cases ao:N=1
   ·subst ao;go_wp2_with fail;go_ret;exact⟨by rw[<-R.out];rfl,I⟩
   ·have bc:((N:Int)==1)=false:=by simp;omega
    have bd:decide ((N:Int)=1)=false:=aP J;have b7:decide (N=1)=false:=aP ao;have E:=O (show(0:Int)=V by rw[<-R.out];simp[ao]);clear R ao;go_wp2_with fail;go_ret;exact⟨by rw[<-E.out];rfl,I⟩
 have b3:(act==3)=false:=by simp;exact an
 have b4:decide (act=3)=false:=aP an;by_cases al:act=12
 ·subst al;have E:=O (show(if(S.cnt:Int)<b.count then(4:Int)else 0)=V by rw[<-R.out];simp);clear R;generalize S.cnt=N at*;generalize b.count=M at*;obtain⟨C,u,aJ⟩:=jJ bh;have bw:∀j,C j->j.cell? ⟨G5,56,none⟩=some (.int .i64 M):=fun j ae=>(ag.ext ((u j).1 ae)).cell' be;have bv:∀j,C j->j.cell? ⟨p,0,none⟩=some (.int .i64 (N:Int)):=fun j ae=>gW bx ((u j).1 ae);go_upto_region 14 with fail;refine wp_region_held_drew (S:=C) au ((u _).2 (X.refl bh).drew) (fun Z=> ?_);refine aA 0 ?_;refine dA 1 (bw) ?_;refine aA 2 ?_;refine aA 3 ?_;refine aA 4 ?_;refine dA 5 (bv) ?_;refine aA 6 ?_;refine dH ?_;have aa:=(u _).1 Z;by_cases ab:(N:Int)<M
  ·have bc:decide (M>(N:Int))=true:=aQ ab;have bd:decide ((N:Int)<M)=true:=aQ ab;rw[if_pos ab]at E;go_wp2_with fail;go_ret;exact⟨by rw[<-E.out];rfl,I.ext aa⟩
  ·have bc:decide (M>(N:Int))=false:=aP ab;have bd:decide ((N:Int)<M)=false:=aP ab;rw[if_neg ab]at E;go_wp2_with fail;go_ret;exact⟨by rw[<-E.out];rfl,I.ext aa⟩
 have b5:(act==12)=false:=by simp;exact al
 have b6:decide (act=12)=false:=aP al;have E:=O (show(0:Int)=V by rw[<-R.out];simp[am,an,al]);go_wp2_with fail;go_ret;exact⟨by rw[<-E.out];rfl,I⟩
section
open Go Go.RowKit
theorem aaA(p:aj->Bool)(g:Nat)(a0:Array Value)(j:List (aj))(a:aN)(n c:Nat)(w:World)(a5:∀an w,(callFunc g an).run prog w= .ok (.enter g an) w)(hn:j.length=n)(a6:n<=140737488355328)(ap:oP j)(az:aK w a (dB j))
 (aq:∀y∈j,∀w',X w w'->Calls prog g (#[.agg (y.map Y).toArray]++a0) w' fun e a4=>e= .returned (.bool (p y))/\X w' a4):
 Calls prog 231 #[.slice a n c,.func (.func g) #[] a0] w fun e w'=>∃z:Int,e= .returned (.int .i64 z)/\decide (0<=z)=j.any p/\X w w':=by
 obtain⟨ai,a3,a2,af⟩:=bU hn az aq ap;clear hn az aq ap;go_enter func231,ntmps231;go_wp2;go_loopw [8] (fun i wr=>∃k:Nat,k<=n/\i= .int .i64 (k:Int)/\(j.take k).any p=false/\X w wr) (fun i _=>n - (intOf i).toNat)
 case atStart=>exact⟨0,J,F,aF,X.refl _⟩
 case round=>
  obtain⟨k,hk,rfl,ar,ao⟩:=hrel;obtain⟨E,al⟩:=aB ao ar;clear ao ar;by_cases ad:k<n
  ·obtain⟨x,u⟩:∃x,j[k]? =some x:=⟨j[k]'(by rw[ai.out];exact ad),aF⟩;have aE:x.length=16:=af.out x (mem_of_getElem? u);obtain⟨A,rfl,aw⟩:=Gm a3 af u;have ag:=O ((aw k x u).ext E);have am:Hid ((x.map Y).length=16):=O (by rw[length_map,aE]);have R:=O (a2 x (mem_of_getElem? u) wr E);have ax:(j.take (k+1)).any p=p x:=by rw[take_add_one,u,any_append,al.out];simp
   have ab:=O ax;have ac:p x=true->j.any p=true:=fun h=>any_eq_true.2 ⟨x,mem_of_getElem? u,h⟩;clear aw u ax aE;cases I:p x with
   |true=>
    rw[I]at R;have aa:=O (ac I);clear ac I ab;go_wp2_with (first|(refine bF F (fP (i:=k) F F F underlying99 zO ad _) ?_)|(refine bF F (bQ F F ag dh am) ?_));refine R.mono ?_;rintro e w' ⟨rfl,e2⟩;go_wp2_with fail;go_ret;exact⟨_,F,by rw[aa.out];exact aQ J,E.ext e2⟩
   |false=>
    rw[I]at R ab;clear ac I;go_wp2_with (first|(refine bF F (fP (i:=k) F F F underlying99 zO ad _) ?_)|(refine bF F (bQ F F ag dh am) ?_));refine R.mono ?_;rintro e w' ⟨rfl,e2⟩;go_wp2_with fail;have a1:=O (E.ext e2);clear e2;go_roundw
    case rel=>exact⟨k+1,J,by go_num,ab,a1⟩
    case measure=>simp[intOf];omega
  ·obtain rfl:k=n:=J;have ae:=al.out;rw[take_of_length_le (by rw[ai.out];exact Nat.le_refl _)]at ae;have aa:=O ae;clear ae;go_wp2;go_ret;exact⟨-1,F,by rw[aa.out];rfl,E⟩
theorem aaB(p:aj->Bool)(g:Nat)(u:Array Value)(j:List (aj))(a:aN)(n c:Nat)(w:World)(R:∀E w,(callFunc g E).run prog w= .ok (.enter g E) w)(hn:j.length=n)(af:n<=140737488355328)(aa:oP j)(ad:aK w a (dB j))
 (ac:∀y∈j,∀w',X w w'->Calls prog g (#[.agg (y.map Y).toArray]++u) w' fun e ai=>e= .returned (.bool (p y))/\X w' ai):
 Calls prog 180 #[.slice a n c,.func (.func g) #[] u] w fun e w'=>e= .returned (.bool (j.any p))/\X w w':=by
 have ab:=O (aaA p g u j a n c w R hn af aa ad ac);clear ac ad hn R aa;generalize j.any p=b at*;generalize Value.func (.func g) #[] u=al at*;go_enter func180,ntmps180;go_wp2_with fail;refine ab.mono ?_;rintro e am ⟨z,rfl,ag,I⟩;have ae:=O I;clear I ab;go_wp2_with fail;go_ret;exact⟨by first|rfl|rw[ag],ae⟩
theorem aaC(p g:Nat)(S:aV)(id:aj)(w:World)(h:dJ w p S)(aa:id.length=16)(hb:w.cell? ⟨g,0,none⟩=some (.pointer (some ⟨p,0,none⟩))):
 Calls prog 181 #[.agg (id.map Y).toArray,.pointer (some ⟨g,0,none⟩)] w fun e w'=>e= .returned (.bool (bW S.ms id).isNone)/\X w w':=by
 obtain⟨am,ax⟩:=aB (show(id.map Y).length=16 by rw[length_map,aa]) (fun j (aq:X w j)=>(h.ext aq).EL (id:=id) aa true);have aw:=O h.blk;obtain⟨ad,al⟩:=aB (And.intro h.hl h.hf) hb;have af:(bW S.ms id).isNone= !(bW S.ms id).isSome:=by cases bW S.ms id<;>rfl
 rw[af];clear h aa hb af;generalize (bW S.ms id).isSome=az at*;generalize (S.jO id).v=aE at*;go_enter func181,ntmps181;go_upto_region 1 with fail;generalize ab:World.alloc w _=I;have ae:ah I w.heap.size (id.map Y) 29:=by rw[<-ab];exact ah.aI F F
 have E:X w I:=by rw[<-ab];exact(X.refl w).alloc _
 obtain⟨ag,ac,an,ai⟩:=bU ae E (aw.ext E) (gW al E);clear ab ae E;generalize w.heap.size=G2 at*;obtain⟨C,u,aJ⟩:=jJ I;have ao:∀j,C j->j.cell? ⟨p,51,none⟩=some (.map (some S.gm)):=fun j R=>(an.ext ((u j).1 R)).cell' (aV.mD ad.1 ad.2);have ap:∀j,C j->j.cell? ⟨g,0,none⟩=some (.pointer (some ⟨p,0,none⟩)):=fun j R=>gW ai ((u j).1 R);refine wp_region_held_drew (S:=C) au ((u _).2 (X.refl I).drew) (fun Z=> ?_);refine dA 0 (ap) ?_;refine aA 1 ?_;refine aA 2 ?_;refine dA 3 (ao) ?_;refine bD 4 F (oC F 29 _ F F (fun j h=>ag.ext ((u j).1 h)) dh am) ?_;refine bD 5 F (bf F (fun j h=>vH F F F (ax j (ac.ext ((u j).1 h))))) ?_;simp only[if_true];refine aA 6 ?_;refine aA 7 ?_;refine aA 8 ?_;refine aA 9 ?_;refine aA 10 ?_;refine dH ?_;have ar:=(u _).1 Z;go_wp2_with fail;go_ret;exact⟨F,ac.ext ar⟩
section
variable {k:bC} (h:k.Ok)
include h
theorem bC.Io:k.v.drop 16= .string k.label:: .int .i64 k.epoch::(k.commit.map Y++(.bool k.rev:: .int .i64 k.esc::k.shared.map Y)):=by
 unfold bC.v;rw[drop_left' (by rw[length_map,h.hk])]
theorem bC.LC:k.v.drop 50= .bool k.rev:: .int .i64 k.esc::k.shared.map Y:=by
 have:k.v.drop 50=(k.v.drop 16).drop 34:=by rw[drop_drop]
 rw[this,bC.Io h,drop_succ_cons,drop_succ_cons,drop_left' (by rw[length_map,h.hc])]
theorem bC.KI:k.v[16]? =some (.string k.label):=by
 have:=congrArg (fun l=>l[0]?) (bC.Io h);simpa using this
theorem bC.pI:k.v[17]? =some (.int .i64 k.epoch):=by
 have:=congrArg (fun l=>l[1]?) (bC.Io h);simpa using this
theorem bC.CG:k.v[50]? =some (.bool k.rev):=by
 have:=congrArg (fun l=>l[0]?) (bC.LC h);simpa using this
theorem bC.mD:k.v[51]? =some (.int .i64 k.esc):=by
 have:=congrArg (fun l=>l[1]?) (bC.LC h);simpa using this
theorem bC.wB:(k.v.drop 0).take 16=k.key.map Y:=by
 unfold bC.v;rw[drop_zero,take_left' (by rw[length_map,h.hk])]
theorem bC.CJ:(k.v.drop 18).take 32=k.commit.map Y:=by
 have:k.v.drop 18=(k.v.drop 16).drop 2:=by rw[drop_drop]
 rw[this,bC.Io h,drop_succ_cons,drop_succ_cons,drop_zero,take_left' (by rw[length_map,h.hc])]
theorem bC.LD:(k.v.drop 52).take 32=k.shared.map Y:=by
 have:k.v.drop 52=(k.v.drop 50).drop 2:=by rw[drop_drop]
 rw[this,bC.LC h,drop_succ_cons,drop_succ_cons,drop_zero,take_of_length_le (by rw[length_map,h.hs];exact Nat.le_refl _)]
end
theorem ay.CJ{b:ay}(h:b.member.length=16)(hc:b.commit.length=32):(b.v.drop 19).take 32=b.commit.map Y:=by
 unfold ay.v;rw[drop_succ_cons,show 18=16+2 by rfl,<-drop_drop,drop_left' (by rw[length_map,h]),drop_succ_cons,drop_succ_cons,drop_zero,take_left' (by rw[length_map,hc])]
theorem LG{x y:aj}(j:x.length=32)(u:y.length=32)(w:World):(binOp .neq 31 (.agg (x.map Y).toArray) (.agg (y.map Y).toArray)).run prog w= .ok (.bool (decide (x≠y))) w:=by
 rw[vY underlying31 x y j u w]
 congr 1
 by_cases h:x=y<;>simp[h]
theorem pX:iH prog 159 84:=⟨⟨_,underlying159,F⟩,au⟩
theorem CO:prog.eqGuardType prog.depth 31=false:=au
theorem aaD(p:Nat)(S:aV)(e:aG)(b:ay)(k:bC)(w:World)(h:dJ w p S)(hf:b.Fit)(bz:aK w b.ha (dB b.bH))(hk:k.Ok):
 Calls prog 125 #[.pointer (some ⟨p,0,none⟩),.agg e.v.toArray,.agg b.v.toArray,.agg k.v.toArray] w fun x w'=>x= .returned (.int .i64 (S.p.EH e b.p k))/\X w w':=by
 obtain⟨b4,a7,b3,a8,a9,a0,bk,bl⟩:=jg h hf bz (fun bd=>LG hf.hcm hk.hc bd) (fun bd=>LG hf.hcm hk.hs bd) (show(b.commit.map Y).length=32 by rw[length_map,hf.hcm]) (show(k.commit.map Y).length=32 by rw[length_map,hk.hc]) (show(k.shared.map Y).length=32 by rw[length_map,hk.hs]);obtain⟨aE,bi,bj,cf,cg,ch,ci,b1⟩:=jg (ay.CJ hf.hm hf.hcm) (bC.CJ hk) (bC.LD hk) (ay.Bv (b:=b) hf.hm hf.hcm) (ay.J8 (b:=b) hf.hm hf.hcm) (ay.J9 (b:=b) hf.hm hf.hcm) (ay.Ko (b:=b) hf.hm hf.hcm) (bC.pI hk);obtain⟨cd,cb⟩:=aB (bC.mD hk) (aG.at2 e);have bv:b.bH.any (fun h=>(bW S.p.ms h).isNone)=b.bH.any (fun h=>(bW S.ms h).isNone):=by
  congr 1;funext h;rw[show bW S.p.ms h=(bW S.ms h).map iF.l from EK iF.l S.ms h,Option.isNone_map]
 have b0:(b.bH.length:Int)=(b.hn:Int):=by rw[hf.hl]
 have ck:b.hn<=256:=hf.vZ;obtain⟨V,ao⟩:=aC (S.p.EH e b.p k);rw[ao];unfold dw.EH at ao;rw[show b.p.epoch=b.epoch from F,show b.p.purpose=b.purpose from F,show b.p.need=b.need from F,show b.p.bH=b.bH from F,show b.p.commit=b.commit from F,bv,b0]at ao;obtain⟨u,bx⟩:=Int.eq_ofNat_of_zero_le hk.e0;have cj:u<=4294967295:=by have:=hk.e1;omega
 rw[bx]at ao b1;have ab:=O ao;clear ao h hf bz hk bv b0 bx;generalize e.v=b7 at*;generalize b.v=b6 at*;generalize k.v=kv at*;generalize b.epoch=j at*;generalize b.purpose=ag at*;generalize b.need=bn at*;generalize k.esc=al at*;generalize e.act=act at*;go_enter func125,ntmps125;go_upto_region 1 with fail;generalize ap:World.alloc (World.alloc (World.alloc (World.alloc w _) _) _) _=aq;have br:ah aq w.heap.size [.pointer (some ⟨p,0,none⟩)] 25:=by rw[<-ap];exact(((ah.aI F F).alloc _).alloc _).alloc _
 have bo:ah aq (w.heap.size+1) b7 34:=by rw[<-ap];exact((ah.aI (gU _ _).symm rfl).alloc _).alloc _
 have bm:ah aq (w.heap.size+2) b6 101:=by rw[<-ap];exact(ah.aI (by rw[gU,gU]) F).alloc _
 have bp:ah aq (w.heap.size+3) kv 159:=by rw[<-ap];exact ah.aI (by rw[gU,gU,gU]) F
 have bu:X w aq:=by rw[<-ap];exact((((X.refl w).alloc _).alloc _).alloc _).alloc _
 obtain⟨b2,am,ar,ac⟩:=bU br bm bp bu;have cx:=bo.cell' cb;clear ap br bm bp bo bu;generalize w.heap.size+3=G7 at*;generalize w.heap.size+2=G6 at*;generalize w.heap.size+1=G5 at*;generalize w.heap.size=G4 at*;have cy:=am.cell' cf;have cz:=am.cell' cg;have cA:=am.cell' ch;have cC:=am.cell' ci;have cD:=ar.cell' b1;have cE:=ar.cell' cd;by_cases a2:act=5
 ·subst a2;have cl:IntKind.i64.wrap ((u:Int)+1)=(u:Int)+1:=IntWalk.i64_in _ J;have I:=O (show(if j≠(u:Int)+1 then(4:Int)else 0)=V by rw[<-ab.out];simp);by_cases aa:j=(u:Int)+1
  ·have ce:(j != (u:Int)+1)=false:=by simp[aa]
   have E:=O (show(0:Int)=V by rw[<-I.out];simp[aa]);clear ab I aa;go_wp2_with fail;go_ret;exact⟨by rw[<-E.out];rfl,ac⟩
  ·have ce:(j != (u:Int)+1)=true:=by simp;exact aa
   have cv:decide (j=(u:Int)+1)=false:=aP aa;have E:=O (show(4:Int)=V by rw[<-I.out];simp[aa]);clear ab I aa;go_wp2_with fail;go_ret;exact⟨by rw[<-E.out];rfl,ac⟩
 have co:(act==5)=false:=by simp;exact a2
 have cp:decide (act=5)=false:=aP a2;by_cases a3:act=6
 ·subst a3;have I:=O (show(if(u:Int)<j then(4:Int)else if ag≠2/\j≠(u:Int)then 15 else 0)=V by rw[<-ab.out];simp);by_cases R:(u:Int)<j
  ·skip
   have ax:decide ((u:Int)<j)=true:=by simp;omega
   have az:decide (j>(u:Int))=true:=by simp;omega
   have E:=O (show(4:Int)=V by rw[<-I.out];simp[R]);clear ab I;go_wp2_with fail;go_ret;exact⟨by rw[<-E.out];rfl,ac⟩
  have ax:decide ((u:Int)<j)=false:=by simp;omega
  have az:decide (j>(u:Int))=false:=by simp;omega
  by_cases ae:ag=2
  ·skip
   have ba:(ag==2)=true:=by simp[ae]
   have bc:(ag != 2)=false:=by simp[ae]
   have b8:decide (ag=2)=true:=by simp[ae]
   have E:=O (show(0:Int)=V by rw[<-I.out];simp[R,ae]);clear ab I;go_wp2_with fail;go_ret;exact⟨by rw[<-E.out];rfl,ac⟩
  have ba:(ag==2)=false:=by simp[ae]
  have bc:(ag != 2)=true:=by simp[ae]
  have b8:decide (ag=2)=false:=by simp[ae]
  by_cases ai:j=(u:Int)
  ·skip
   have b9:(j==(u:Int))=true:=by simp[ai]
   have b':(j != (u:Int))=false:=by simp[ai]
   have ca:decide (j=(u:Int))=true:=by simp[ai]
   have E:=O (show(0:Int)=V by rw[<-I.out];simp[R,ai]);clear ab I;go_wp2_with fail;go_ret;exact⟨by rw[<-E.out];rfl,ac⟩
  have b9:(j==(u:Int))=false:=by simp[ai]
  have b':(j != (u:Int))=true:=by simp[ai]
  have ca:decide (j=(u:Int))=false:=by simp[ai]
  have E:=O (show(15:Int)=V by rw[<-I.out];simp[R,ae,ai]);clear ab I;go_wp2_with fail;go_ret;exact⟨by rw[<-E.out];rfl,ac⟩
 have cq:(act==6)=false:=by simp;exact a3
 have cr:decide (act=6)=false:=aP a3;by_cases a4:act=9
 ·subst a4;have I:=O (show(if j≠(u:Int)∨(b.hn:Int)<bn then(4:Int)else if b.bH.any (fun h=>(bW S.ms h).isNone)then 6 else if b.commit≠k.commit then 17 else 0)=V by rw[<-ab.out];simp);by_cases R:j=(u:Int)
  case neg=>
   have ax:(j==(u:Int))=false:=by simp[R]
   have az:(j != (u:Int))=true:=by simp[R]
   have a_:decide (j=(u:Int))=false:=by simp[R]
   have E:=O (show(4:Int)=V by rw[<-I.out];simp[R]);clear ab I;go_wp2_with fail;go_ret;exact⟨by rw[<-E.out];rfl,ac⟩
  have ax:(j==(u:Int))=true:=by simp[R]
  have az:(j != (u:Int))=false:=by simp[R]
  have a_:decide (j=(u:Int))=true:=by simp[R]
  by_cases ae:(b.hn:Int)<bn
  ·skip
   have ba:decide ((b.hn:Int)<bn)=true:=by simp;omega
   have bc:decide (bn>(b.hn:Int))=true:=by simp;omega
   have E:=O (show(4:Int)=V by rw[<-I.out];simp[ae]);clear ab I;go_wp2_with fail;go_ret;exact⟨by rw[<-E.out];rfl,ac⟩
  have ba:decide ((b.hn:Int)<bn)=false:=by simp;omega
  have bc:decide (bn>(b.hn:Int))=false:=by simp;omega
  have aw:=O (show(if b.bH.any (fun h=>(bW S.ms h).isNone)then(6:Int)else if b.commit≠k.commit then 17 else 0)=V by rw[<-I.out];simp[R,ae]);clear ab I;have bw:=O (aaB (fun h=>(bW S.ms h).isNone) 181 #[.pointer (some ⟨G4,0,none⟩)] b.bH b.ha b.hn b.hc aq (Et func181 au F) a7.hl J a7.h16 (b3.ext ac) (fun y cc w' bt=>aaC p G4 S y w' ((b4.ext ac).ext bt) (a7.h16 y cc) ((b2.ext bt).cell' F)));generalize b.bH.any _=b5 at*;go_wp2_with fail;refine bw.mono ?_;rintro e cw ⟨rfl,a5⟩;obtain⟨be,bh,a6⟩:=aW (am.ext a5) (ar.ext a5) (ac.ext a5);clear a5 bw;cases b5 with
  |true=>
   go_wp2_with fail;go_ret;exact⟨by rw[<-aw.out];rfl,a6⟩
  |false=>
   have ad:=a8.out;by_cases aa:b.commit=k.commit
   ·have af:decide (b.commit≠k.commit)=false:=by simp[aa]
    rw[af]at ad;obtain⟨an,E⟩:=aB ad (show(0:Int)=V by rw[<-aw.out];simp[aa]);clear ad af aa aw a8;go_wp2_with (first|(refine bF F (bQ F F (dF be aE) bY a0) ?_)|(refine bF F (bQ F F (dF bh bi) bY bk) ?_)|(refine bF F (jm F F F CO an _) ?_));go_ret;exact⟨by rw[<-E.out];rfl,a6⟩
   ·have af:decide (b.commit≠k.commit)=true:=by simp[aa]
    rw[af]at ad;obtain⟨an,E⟩:=aB ad (show(17:Int)=V by rw[<-aw.out];simp[aa]);clear ad af aa aw a8;go_wp2_with (first|(refine bF F (bQ F F (dF be aE) bY a0) ?_)|(refine bF F (bQ F F (dF bh bi) bY bk) ?_)|(refine bF F (jm F F F CO an _) ?_));go_ret;exact⟨by rw[<-E.out];rfl,a6⟩
 have cs:(act==9)=false:=by simp;exact a4
 have ct:decide (act=9)=false:=aP a4;by_cases a1:act=10
 ·subst a1;have I:=O (show(if al≠j then(15:Int)else if b.commit≠k.shared then 17 else 0)=V by rw[<-ab.out];simp);by_cases R:al=j
  case neg=>
   have ax:(al==j)=false:=by simp[R]
   have az:(al != j)=true:=by simp[R]
   have a_:decide (al=j)=false:=by simp[R]
   have E:=O (show(15:Int)=V by rw[<-I.out];simp[R]);clear ab I;go_wp2_with fail;go_ret;exact⟨by rw[<-E.out];rfl,ac⟩
  have ax:(al==j)=true:=by simp[R]
  have az:(al != j)=false:=by simp[R]
  have a_:decide (al=j)=true:=by simp[R]
  have ad:=a9.out;by_cases aa:b.commit=k.shared
  ·have af:decide (b.commit≠k.shared)=false:=by simp[aa]
   rw[af]at ad;obtain⟨an,E⟩:=aB ad (show(0:Int)=V by rw[<-I.out];simp[R,aa]);clear ad af aa I a9 ab;go_wp2_with (first|(refine bF F (bQ F F (dF am aE) bY a0) ?_)|(refine bF F (bQ F F (dF ar bj) bY bl) ?_)|(refine bF F (jm F F F CO an _) ?_));go_ret;exact⟨by rw[<-E.out];rfl,ac⟩
  ·have af:decide (b.commit≠k.shared)=true:=by simp[aa]
   rw[af]at ad;obtain⟨an,E⟩:=aB ad (show(17:Int)=V by rw[<-I.out];simp[R,aa]);clear ad af aa I a9 ab;go_wp2_with (first|(refine bF F (bQ F F (dF am aE) bY a0) ?_)|(refine bF F (bQ F F (dF ar bj) bY bl) ?_)|(refine bF F (jm F F F CO an _) ?_));go_ret;exact⟨by rw[<-E.out];rfl,ac⟩
 have cm:(act==10)=false:=by simp;exact a1
 have cn:decide (act=10)=false:=aP a1;have E:=O (show(0:Int)=V by rw[<-ab.out];simp[a2,a3,a4,a1]);go_wp2_with fail;go_ret;exact⟨by rw[<-E.out];rfl,ac⟩
end
section
open Go Go.RowKit
section
variable {w w':World} {B p g:Nat} {S:aV}
theorem jr.ne{vs:aO}{T:TypeId}(h:jr w g){k:Nat}(hb:ah w k vs T):k≠g:=by
 rintro rfl;obtain⟨o,j,hn⟩:=h;obtain⟨z,u⟩:∃z,w.heap[k]? =some (.cells vs.toArray T z):=by
  unfold ah at hb;first|exact⟨_,hb⟩|exact hb
 rw[u]at j;injection j with j;exact hn _ _ _ j.symm
abbrev mP(g:Nat):World->World->Prop:=gB (fun x=>x=g)
theorem aU.fF(u:aU w g w'):mP g w w':=gB.QM u F
theorem bJ.fF{a:aN}{xs:aO}(h:bJ w B a xs)(u:mP g w w')(j:g<B∨jr w g):bJ w' B a xs:=
 h.mut u (fun x E hb=>by
  subst E;rcases j with j|j
  ·omega
  ·exact j)
theorem iF.Hi.fF{r:iF}(h:r.Hi w B)(u:mP g w w')(j:g<B∨jr w g):r.Hi w' B:=⟨h.hl,h.nc,h.n16,h.sz,h.cell.fF u j⟩
theorem oG.Hi.fF{P:oG}(h:P.Hi w B)(u:mP g w w')(j:g<B∨jr w g):P.Hi w' B:=by
 have R:P.q≠g:=by
  rcases j with j|j
  ·have:=h.ge;omega
  ·exact j.ne h.blk
 have E:∀r∈P.rs,bJ w' B r.ra (r.roles.map bM)/\bJ w' B r.aa (r.acts.map lN)/\bJ w' B r.la (r.labels.map bM):=fun r E=>
  ⟨(h.jF r E).1.fF u j,(h.jF r E).2.1.fF u j,(h.jF r E).2.2.fF u j⟩
 exact⟨h.blk.mut u R,h.ge,h.hl,h.nc,h.n100,h.cell.fF u j,fun r I=>{h.rM r I with nU:=(E r I).1.cells,mF:=(E r I).2.1.cells,sN:=(E r I).2.2.cells},E⟩
theorem dJ.Ar(h:dJ w p S):jr w S.gm:=jr.map h.mem
theorem dJ.Ip(h:dJ w p S):jr w S.gk:=jr.map h.key
theorem dJ.EN(h:dJ w p S):jr w S.ga:=jr.map h.app
theorem dJ.EO(h:dJ w p S){x:aj×(Nat×List (aj×dX))}(j:x∈S.av):jr w x.2.1:=jr.map (h.inn x j).1
theorem dJ.CP(h:dJ w p S):S.gm≠S.gk/\S.gm≠S.ga/\S.gk≠S.ga/\(∀x∈S.av,x.2.1≠S.gm/\x.2.1≠S.gk/\x.2.1≠S.ga)/\(S.av.map fun x=>x.2.1).Nodup:=by
 have hn:=h.nd;simp only[nodup_cons,mem_cons,not_or]at hn;obtain⟨⟨u,E,I⟩,⟨R,aa⟩,ab,ac⟩:=hn;exact⟨u,E,R,fun x j=>⟨fun e=>I (e▸mem_map_of_mem j),fun e=>aa (e▸mem_map_of_mem j),fun e=>ab (e▸mem_map_of_mem j)⟩,ac⟩
theorem dJ.rest(h:dJ w p S)(u:mP g w w')(j:jr w g):
 ah w' p S.v 147/\(∀x∈S.av,∀y∈x.2.2,y.2.r.Hi w' (p+1)/\0<=y.2.t/\y.2.t<=1099511627776)/\(∀x∈S.ms,x.2.Hi w' (p+1))/\∀P,S.pol=some P->P.Hi w' (p+1):=
 ⟨h.blk.mut u (j.ne h.blk),fun x E y I=>⟨((h.inn x E).2.2 y I).1.fF u (.inr j),((h.inn x E).2.2 y I).2⟩,fun x E=>(h.mr x E).fF u (.inr j),fun P R=>(h.po P R).fF u (.inr j)⟩
theorem dJ.SN(h:dJ w p S)(u:mP S.gm w w'){ms:List (aj×iF)}(m:f_ eX iF.v w' S.gm ms)(em:jc og ms)(mr:∀x∈ms,x.2.Hi w' (p+1)):dJ w' p {S with ms:=ms}:=by
 obtain⟨E,n2,ac,I,ad⟩:=h.CP;obtain⟨R,aa,ae,ab⟩:=h.rest u h.Ar;exact{blk:=R,hl:=h.hl,hf:=h.hf,c1:=h.c1,t0:=h.t0,t1:=h.t1,mem:=m,key:=h.key.mut u E.symm,app:=h.app.mut u n2.symm,em:=em,ek:=h.ek,ea:=h.ea,inn:=fun x j=>⟨(h.inn x j).1.mut u (I x j).1,(h.inn x j).2.1,aa x j⟩,nd:=h.nd,mr:=mr,kr:=h.kr,po:=ab}
theorem dJ.Iq(h:dJ w p S)(u:mP S.gk w w'){ks:List (aj×bC)}(m:f_ eX bC.va w' S.gk ks)(ek:jc og ks)(kr:∀x∈ks,x.2.Ok):dJ w' p {S with ks:=ks}:=by
 obtain⟨E,n2,I,R,ae⟩:=h.CP;obtain⟨aa,ab,ac,ad⟩:=h.rest u h.Ip;exact{blk:=aa,hl:=h.hl,hf:=h.hf,c1:=h.c1,t0:=h.t0,t1:=h.t1,mem:=h.mem.mut u E,key:=m,app:=h.app.mut u I.symm,em:=h.em,ek:=ek,ea:=h.ea,inn:=fun x j=>⟨(h.inn x j).1.mut u (R x j).2.1,(h.inn x j).2.1,ab x j⟩,nd:=h.nd,mr:=ac,kr:=kr,po:=ad}
theorem dJ.SQ(h:dJ w p S)(u:mP S.ga w w'){av:List (aj×(Nat×List (aj×dX)))}(m:f_ eX oH w' S.ga av)(ea:jc wE av)
 (E:∀x∈av,(f_ eX dX.v w x.2.1 x.2.2/\jc og x.2.2/\∀y∈x.2.2,y.2.r.Hi w (p+1)/\0<=y.2.t/\y.2.t<=1099511627776))(nd:(S.gm::S.gk::S.ga::av.map (fun x=>x.2.1)).Nodup):dJ w' p {S with av:=av}:=by
 obtain⟨ae,n2,aa,af,ag⟩:=h.CP;obtain⟨ab,ai,ac,ad⟩:=h.rest u h.EN;have hn:=nd;simp only[nodup_cons,mem_cons,not_or]at hn;obtain⟨⟨_,_,_⟩,⟨_,_⟩,R,_⟩:=hn;exact{blk:=ab,hl:=h.hl,hf:=h.hf,c1:=h.c1,t0:=h.t0,t1:=h.t1,mem:=h.mem.mut u n2,key:=h.key.mut u aa,app:=m,em:=h.em,ek:=h.ek,ea:=ea,inn:=fun x j=>⟨(E x j).1.mut u (fun e=>R (e▸mem_map_of_mem j)),(E x j).2.1,fun y I=>⟨((E x j).2.2 y I).1.fF u (.inr h.EN),((E x j).2.2 y I).2⟩⟩,nd:=nd,mr:=ac,kr:=h.kr,po:=ad}
theorem dJ.LH(h:dJ w p S){i:Nat}{x:aj×(Nat×List (aj×dX))}(aa:S.av[i]? =some x)(u:mP x.2.1 w w'){l:List (aj×dX)}(m:f_ eX dX.v w' x.2.1 l)(ai:jc og l)
 (hl:∀y∈l,y.2.r.Hi w (p+1)/\0<=y.2.t/\y.2.t<=1099511627776):dJ w' p {S with av:=S.av.set i (x.1,(x.2.1,l))}:=by
 obtain⟨a0,n2,a1,ac,ar⟩:=h.CP;have I:=mem_of_getElem? aa;obtain⟨aw,ax,az,aE⟩:=h.rest u (h.EO I);have ao:(S.av.set i (x.1,(x.2.1,l))).map (fun x=>x.2.1)=S.av.map (fun x=>x.2.1):=BN aa F;have an:(S.av.set i (x.1,(x.2.1,l))).map Prod.fst=S.av.map Prod.fst:=BN aa F;have ap:(S.av.set i (x.1,(x.2.1,l))).map (fun q=>(eX q.1,oH q.2))=S.av.map (fun q=>(eX q.1,oH q.2)):=BN aa F;refine{blk:=aw,hl:=h.hl,hf:=h.hf,c1:=h.c1,t0:=h.t0,t1:=h.t1,mem:=h.mem.mut u (ac x I).1.symm,key:=h.key.mut u (ac x I).2.1.symm,app:= ?_,em:=h.em,ek:=h.ek,ea:= ?_,inn:= ?_,nd:=by show(S.gm::S.gk::S.ga::_).Nodup;rw[ao];exact h.nd,mr:=az,kr:=h.kr,po:=aE}
 ·obtain⟨es,c,ae,af,ag⟩:=h.app.mut u (ac x I).2.2.symm;exact⟨es,c,ae,by rw[ap];exact af,ag⟩
 ·refine⟨fun q R=> ?_,by rw[an];exact h.ea.nodup⟩;rcases mem_or_eq_of_mem_set R with R|rfl
  ·exact h.ea.good q R
  ·exact h.ea.good x I
 ·intro q R;obtain⟨j,E⟩:=List.getElem?_of_mem R;rw[List.getElem?_set]at E;split at E
  ·split at E
   ·injection E with E;subst E;exact⟨m,ai,fun y ad=>⟨(hl y ad).1.fF u (.inr (h.EO I)),(hl y ad).2⟩⟩
   ·cases E
  ·rename_i am;have ab:=mem_of_getElem? E;have aq:q.2.1≠x.2.1:=by
    intro e;have al:((S.av.map fun x=>(x.2.1,x.1)).map Prod.fst).Nodup:=by rw[map_map];exact ar
    exact am (Em al (k:=x.2.1) (v:=x.1) (u:=q.1) (by rw[List.getElem?_map,aa];rfl) (by rw[List.getElem?_map,E,<-e];rfl))
   exact⟨(h.inn q ab).1.mut u aq,(h.inn q ab).2.1,ax q ab⟩
theorem dJ.LJ(h:dJ w p S)(u:mP p w w'){T:aV}(hb:ah w' p T.v 147)(hl:T.last.length=32)(hf:T.ji.length=16)(c1:T.cnt<=65536)(t0:0<=T.tm)(t1:T.tm<=1099511627776)
 (ab:T.gm=S.gm)(e2:T.gk=S.gk)(ac:T.ga=S.ga)(R:T.ms=S.ms)(aa:T.ks=S.ks)(E:T.av=S.av)(po:∀P,T.pol=some P->P.Hi w (p+1)):dJ w' p T:=by
 have I:∀g,jr w g->g≠p:=fun g af=>(af.ne h.blk).symm;exact{blk:=hb,hl:=hl,hf:=hf,c1:=c1,t0:=t0,t1:=t1,mem:=by rw[ab,R];exact h.mem.mut u (I _ h.Ar),key:=by rw[e2,aa];exact h.key.mut u (I _ h.Ip),app:=by rw[ac,E];exact h.app.mut u (I _ h.EN),em:=by rw[R];exact h.em,ek:=by rw[aa];exact h.ek,ea:=by rw[E];exact h.ea,inn:=by rw[E];exact fun x j=>⟨(h.inn x j).1.mut u (I _ (h.EO j)),(h.inn x j).2.1,fun y ad=>⟨((h.inn x j).2.2 y ad).1.fF u (.inl J),((h.inn x j).2.2 y ad).2⟩⟩,nd:=by rw[ab,e2,ac,E];exact h.nd,mr:=by rw[R];exact fun x j=>(h.mr x j).fF u (.inl J),kr:=by rw[aa];exact h.kr,po:=fun P ae=>(po P ae).fF u (.inl J)}
end
end
noncomputable def aV.lab(S:aV)(e:aG):ByteArray:=if e.act=4 then(mO e).label else(S.uI e.key).label
noncomputable def aV.oq(S:aV)(e:aG)(l:ByteArray):eu:=⟨e.bI,(S.jO e.bI).a,(S.jO e.bI).n,(S.jO e.bI).c,(S.jO e.bI).l,e.act,l,e.key,e.time,dY 0 e.body⟩
theorem aV.EP{w:World}{p:Nat}{S:aV}{e:aG}(h:dJ w p S)(u:e.Ok w){l:ByteArray}(E:l.size<=140737488355328):(S.oq e l).Ok w:=by
 have j:=h.SK e.bI;exact⟨u.ha,u.hk,j_ _ _,j.hl,j.nc,by show(S.jO e.bI).n<=_;have:=j.n16;omega,j.cell.cells,fun s hs=>by have:=j.sz s hs;omega,E⟩
theorem ER(a:eu):∀v∈a.v,v.oneCell'=true:=by
 intro v j;unfold eu.v at j;simp only[mem_append,mem_cons,mem_map]at j;rcases j with⟨a,_,rfl⟩|rfl|rfl|rfl|⟨a,_,rfl⟩|rfl|⟨a,_,rfl⟩<;>rfl
theorem eu.D5{a:eu}(h:a.bI.length=16)(l:ByteArray):a.v.set 18 (.string l)={a with label:=l}.v:=by
 unfold eu.v;rw[set_append_right _ _ (by rw[length_map,h];decide),length_map,h];rfl
theorem aaE{o:Oper}{a:Act}{x:Operand}{xs:Array Value}{s:ByteArray}(j:o.op= .field 159 x 1)(E:a.eval x= .agg xs)(u:xs[16]? =some (.string s))(w:World):(execOp a.eval o).run prog w= .ok (.value (.string s)) w:=by
 have h:(Instr.field 159 (.agg xs) 1).run prog w= .ok (.string s) w:=by
  simp[Instr.field,run_underlying underlying159,asAgg,part,isAgg,run_underlying underlying9,u]
 unfold execOp;simp only[j,E,Sem.run_bind,h,Result.andThen_ok,Sem.run_pure]
theorem vI:iH prog 108 68:=⟨⟨_,underlying108,F⟩,au⟩
theorem SS(p:Nat)(S:aV)(e:aG)(w:World)(h:dJ w p S)(E:e.Ok w)(aw:dN e=0):
 Calls prog 79 #[.pointer (some ⟨p,0,none⟩),.agg e.v.toArray] w fun x w'=>x= .returned (.agg (S.oq e (S.lab e)).v.toArray)/\X w w':=by
 obtain⟨cR,cS,cT,cU,cV,cW,cX⟩:=qy E aw;have cJ:=O (show(kE kF e.act e.body).2=0 by
  unfold dN at aw;rw[if_neg (by unfold dR;simp;omega)]at aw;exact aw)
 obtain⟨a1,a3⟩:=aB E (And.intro h.hl h.hf);have b9:=O h.blk;obtain⟨b6,b8,b2,b3,cv,cI,cG,cD⟩:=jg (show(e.bI.map Y).length=16 by rw[length_map,E.ha]) (show(e.key.map Y).length=16 by rw[length_map,E.hk]) (aG.Eh E) (aG.wB E) (aG.zV E) (fun j (am:X w j)=>(show(Instr.lookup 142 (.map (some S.gm)) (eX e.bI) false).run prog j= .ok (S.jO e.bI).v j from(h.ext am).EL (id:=e.bI) E.ha false)) (fun j (am:X w j)=>(show(Instr.lookup 143 (.map (some S.gk)) (eX e.key) false).run prog j= .ok (S.uI e.key).va j from(h.ext am).Lr (id:=e.key) E.hk false)) (h.Il e.key);obtain⟨cN,cF,c3⟩:=aW (fun j (I:X w j)=>uV 0 e.body e.bn e.bc e.ba j J J E.hb J (E.hcl.ext I)) (j_ 0 e.body) (show(S.jO e.bI).v= .slice (S.jO e.bI).a (S.jO e.bI).n (S.jO e.bI).c from F);have bi:=O E.ha;have cA:=O E.hk;obtain⟨a4,a8⟩:=aC (S.lab e);rw[a8];unfold aV.lab at a8;have a2:=O a8;obtain⟨az,a7⟩:=aC (S.oq e ⟨#[]⟩);obtain⟨b7,bk⟩:=aB (show az.v.length=68 by rw[<-a7];exact eu.len (aV.EP h E aX)) (fun l=>show az.v.set 18 (.string l)=(S.oq e l).v by rw[<-a7];exact eu.D5 E.ha l);obtain⟨al,b1,c2⟩:=aW (fun l=>show(S.oq e l).v.length=68 by rw[<-bk.out l,length_set];exact b7) a7 (aG.len E);clear a8 h E aw cR cS cT cU cV cW cX a7;go_enter func79,ntmps79;go_upto_region 1 with fail;generalize ax:World.alloc (World.alloc w _) _=ad;have cd:ah ad w.heap.size e.v 34:=by rw[<-ax];exact(ah.aI F F).alloc _
 have ce:ah ad (w.heap.size+1) yR.v 108:=by rw[<-ax];exact ah.aI (gU _ _).symm rfl
 have bp:X w ad:=by rw[<-ax];exact((X.refl w).alloc _).alloc _
 have cP:ad.heap.size=w.heap.size+2:=by rw[<-ax,gU,gU]
 obtain⟨aa,bc,a0,bl⟩:=bU cd ce bp (b9.ext bp);clear ax cd ce bp b9;obtain⟨G4,cn⟩:=aC (w.heap.size+1);obtain⟨G3,cm⟩:=aC w.heap.size;rw[cn]at bc⊢;rw[cm]at aa⊢;have co:w.heap.size<=G4/\G4<ad.heap.size:=J;clear cn cm cP;obtain⟨C,u,aJ⟩:=jJ ad;have ch:∀j,C j->j.cell? ⟨p,51,none⟩=some (.map (some S.gm)):=fun j I=>(bl.ext ((u j).1 I)).cell' (aV.mD a3.1 a3.2);have cf:∀j,C j->j.cell? ⟨G3,1,none⟩=some (.int .i64 e.time):=fun j I=>(aa.ext ((u j).1 I)).cell' (aG.rH e);have cg:∀j,C j->j.cell? ⟨G3,2,none⟩=some (.int .i64 e.act):=fun j I=>(aa.ext ((u j).1 I)).cell' (aG.at2 e);have cj:∀j,C j->j.cell? ⟨G3,67,none⟩=some (.slice e.ba e.bn e.bc):=fun j I=>(aa.ext ((u j).1 I)).cell' cv;refine wp_region_held_drew (S:=C) au ((u _).2 (X.refl ad).drew) (fun Z=> ?_);refine aA 0 ?_;refine bD 1 F (bf F (fun j h=>bQ F F (dF (aa.ext ((u j).1 h)) b2) dh b6)) ?_;refine aA 2 ?_;refine aA 3 ?_;refine aA 4 ?_;refine dA 5 (ch) ?_;refine aA 6 ?_;refine bD 7 F (bf F (fun j h=>bQ F F (dF (aa.ext ((u j).1 h)) b2) dh b6)) ?_;refine bD 8 F (bf F (fun j h=>vH F F F (cI j (a0.ext ((u j).1 h))))) ?_;refine aA 9 ?_;refine dA 10 (cg) ?_;refine aA 11 ?_;refine bD 12 F (bf F (fun j h=>bQ F F (dF (aa.ext ((u j).1 h)) b3) dh b8)) ?_;refine aA 13 ?_;refine dA 14 (cf) ?_;refine aA 15 ?_;refine dA 16 (cj) ?_;refine zo (B:=World.heap ad |>.size) (A:=19) (d:=5) (T:=108) (vs:=yR.v) (D:=C) undef F aJ (fun _ h=>h) (fun _ h=>((u _).1 h).size) Z ?_;try dsimp only
 refine cO ?_;refine lZ 17 (β:=Unit) (fun _=> .agg ((dY 0 e.body).map Y).toArray) (fun _ _=>True) F F F F (fun _ _=>rfl) au au au F (fun _ _=>jw) ?phi17 ?step17 ?rest17
 case phi17=>exact fun _ _ _ _ _=>trivial
 case step17=>
  intro x j cl a5 af;have am:=(u j).1 cl;have cz:=O am;clear am cl;go_wp2_with fail;refine(cN j (a0.ext cz)).mono ?_;rintro cL w2 ⟨rfl,e2⟩;go_wp2_with fail;exact af () w2 e2 trivial
 case rest17=>
 rintro⟨⟩;refine aH ?_;refine AY 18 F (fun _=>bf F (fun j _=>aax (l:=(S.jO e.bI).l) F F F F F F F bi cA cF j)) ?_;rw[show(eu.mk e.bI (S.jO e.bI).a (S.jO e.bI).n (S.jO e.bI).c (S.jO e.bI).l e.act ⟨#[]⟩ e.key e.time (dY 0 e.body))=az from b1.out];refine wY F F F (fun _ _=>rfl) au (fun _ _=>jw) ?_;rintro b cY ⟨ck,_⟩ bv hb;obtain⟨b4,b5⟩:=aB hb ck;clear hb ck;refine aZ 20 ?_;intro a5 af;go_wp2_with (refine bg F _ _ _ F F F b4 vI F b7 (ER _) ?_);intro ao cb cs;have an:=cs.ext ((u cY).1 b5) bv;have c4:ad.heap.size<=b:=bv;refine af _ _ ((u ao).2 an) ?_;obtain⟨a_,aq,aE,bd,ca⟩:=dM cb (a0.ext an) (aa.ext an) (bc.ext an) (bl.ext an);clear af a5 cs cb an b4 bv b5 aa bc bl a0 ch cf cg cj aJ u Z;refine aH ?_;refine dH ?_;simp only[vS];have cx:=aE.cell' (aG.at2 e);have b':=O (show az.v[18]? =some (.string ⟨#[]⟩) by rw[<-b1.out];unfold aV.oq eu.v;rw[List.getElem?_append_right (by simp[bi.out])];simp[bi.out]);by_cases ae:e.act=4
 ·have g1:(e.act==4)=true:=by simp;exact ae
  have cM:decide (e.act=4)=true:=aQ ae;have ag:=a2.out;rw[if_pos ae]at ag;obtain⟨bj,bu⟩:=aB ag (fun j (I:X w j)=>GH e.act e.body e.ba e.bn e.bc j a1.hb a1.hbc a1.bE (a1.hcl.ext I));rw[cJ.out]at bu;have c1:=aE.cell' cv;clear ag a2 ae;go_wp2_with fail;refine(bu ao aq).mono ?_;rintro cL a9 ⟨r,rfl,bt,cq,cp,cr,ab⟩;obtain⟨cC,cH,cE,bx,bz,b0⟩:=iq bt (show r.label=a4 by rw[<-bj.out];show r.p.label=_;rw[cr];rfl) (ay.len (bt.ok cq cp)) (a_.ext ab) (bd.ext ab) (aq.ext ab);clear bt cq cp cr bu ab c1 cx a_ bd aq aE ca;go_wp2_with (refine bg F _ _ _ F F F (ah.aI (vs:=dI.v) F F) eP fM (xs:=r.v) cE (lD r) ?_);intro cw cc ct;have a6:X a9 cw:=ct.ext ((X.refl _).alloc _) bG;have cy:=cc.cell' (ay.Gt cC);rw[cH.out]at cy;obtain⟨R,ap,ar⟩:=aW (bx.ext a6) (bz.ext a6) (b0.ext a6);have bo:=R.cell' b';have br:=R.frozen 18;clear cc ct a6 bx bz b0;go_upto_region 6 with fail;generalize ac:World.setCell cw _ _=ai;have ba:Hid (ah ai b (S.oq e a4).v 108):=O (by rw[<-ac,<-bk.out];exact R.set 18 _);have be:Hid (ah ai G4 yR.v 108):=O (by rw[<-ac];exact ap.qm _ _ (by show G4≠b;omega));have bh:Hid (X w ai):=O (by rw[<-ac];exact ar.set _ (by show w.heap.size<=b;omega));clear ac cy bo br R ap ar;go_wp2_with (first|(refine bV F 108 _ F F ba vI (al _) ?_)|(refine bg F _ _ _ F F F be vI F (al _) (ER _) ?_));intro c0 bm bw;go_wp2;refine gG F F bm vI (al _) F ⟨F,bw.ext bh co.1⟩
 ·have g1:(e.act==4)=false:=by simp;exact ae
  have cM:decide (e.act=4)=false:=aP ae;have ag:=a2.out;rw[if_neg ae]at ag;have bj:=O (show(bC.v (S.uI e.key)).toArray[16]? =some (.string a4) by rw[<-ag];simpa using bC.KI cD);clear ag a2 ae;go_upto_region 5 with fail;obtain⟨C,u,aJ⟩:=jJ ao;have bP:C ao:=(u _).2 (X.refl _);have ci:∀j,C j->j.cell? ⟨p,52,none⟩=some (.map (some S.gk)):=fun j I=>(ca.ext ((u j).1 I)).cell' (aV.nV a3.1 a3.2);refine jQ (W:=[9]) fun Z=> ?_;refine bK 0 ?_;refine bK 1 ?_;refine bK 2 ?_;refine eY 3 (ci) ?_;refine bK 4 ?_;refine k_ 5 F (bf F (fun j h=>bQ F F (dF (aE.ext ((u j).1 h)) b3) dh b8)) ?_;refine k_ 6 F (bf F (fun j h=>vH F F F (cG j (aq.ext ((u j).1 h))))) ?_;refine k_ 7 F (bf F (fun j _=>aaE F F bj j)) ?_;refine bK 8 ?_;generalize cQ:World.drew ao=a9 at Z⊢;have ab:X ao a9:=(u _).1 Z;obtain⟨R,ap,ar⟩:=aW (a_.ext ab) (bd.ext ab) (aq.ext ab);have bo:=R.cell' b';have br:=R.frozen 18;clear ab cQ;refine iU 9 ?_;intro a5 af;go_wp2_with fail;refine af _ _ trivial ?_;clear af a5;refine aH ?_;refine jR ?_;generalize ac:World.setCell a9 _ _=ai;have ba:Hid (ah ai b (S.oq e a4).v 108):=O (by rw[<-ac,<-bk.out];exact R.set 18 _);have be:Hid (ah ai G4 yR.v 108):=O (by rw[<-ac];exact ap.qm _ _ (by show G4≠b;omega));have bh:Hid (X w ai):=O (by rw[<-ac];exact ar.set _ (by show w.heap.size<=b;omega));clear ac bo br R ap ar ci Z aJ u bP cx;go_wp2_with (first|(refine bV F 108 _ F F ba vI (al _) ?_)|(refine bg F _ _ _ F F F be vI F (al _) (ER _) ?_));intro c0 bm bw;go_wp2;refine gG F F bm vI (al _) F ⟨F,bw.ext bh co.1⟩
section
open Go Go.RowKit
def pY(nm:ByteArray)(j:aT):aT:=if j=[]then[]else nm::j
structure o8(w:World)(G5 G6 B:Nat)(r:aS)(ws:aT)(a:aN)(c:Nat)(wx:World):Prop where
 e:X w wx
 b5:ah wx G5 r.v 192
 b6:ah wx G6 [.slice a ws.length c] 98
 own:wx.ownsRow B 9 1 (.slice a ws.length c) ws.length (ws.map bM)
 sz:B<=wx.heap.size
section
variable {w wx wy wz:World} {G5 G6 B:Nat} {r:aS} {ws news:aT} {a a':aN} {c c':Nat}
theorem o8.ext(h:o8 w G5 G6 B r ws a c wx)(e:X wx wy):o8 w G5 G6 B r ws a c wy:=⟨h.e.ext e,h.b5.ext e,h.b6.ext e,uF h.own e,Nat.le_trans h.sz e.size⟩
end
theorem LK(w:World)(G5 G6 B:Nat)(r:aS)(ws:aT)(a:aN)(c:Nat)(nm:ByteArray)(ag:aN)(E ai:Nat)(j:aT)(wx:World)
 (h:o8 w G5 G6 B r ws a c wx)(a8:w.heap.size<=B)(bl:G5≠G6)(br:w.heap.size<=G6)(ab:j.length=E)(ar:E<=ai)(a2:aK wx ag (j.map bM))(a7:wO (Value.slice a ws.length c).ownBlock ag E)(hb:ws.length+E<=1000):
 Calls prog 226 #[.string nm,.slice ag E ai,.pointer (some ⟨G6,0,none⟩)] wx fun e w'=>e= .returned (.tuple #[])/\∃a' c',o8 w G5 G6 B r (ws++pY nm j) a' c' w':=by
 obtain⟨I,aE,am,be,bh,a0⟩:=iq h a2 ab ar a7 RQ;clear h a2 a7;by_cases ae:E=0
 ·have a5:j=[]:=length_eq_zero_iff.1 (ab.trans ae);have an:=O (show ws++pY nm j=ws by unfold pY;rw[if_pos a5,append_nil]);clear a5 ab ar;subst ae;go_enter func226,ntmps226;go_wp2
  go_end0
  exact⟨F,a,c,by rw[an.out];exact I⟩
 ·have a6:j≠[]:=fun e=>ae (by rw[<-ab,e];rfl);have an:=O (show ws++pY nm j=(ws++[nm])++j by unfold pY;rw[if_neg a6];simp);have bc:=O (show ag=none->ai=0 from fun h=>by
   obtain⟨b,o,e,_⟩:=aE.gQ (by rw[length_map,ab];omega);rw[e]at h;cases h)
  have g1:decide ((0:Int)<(E:Int))=true:=aQ J;have R:decide (0<E)=true:=aQ J;have g3:0<E:=J;have k6:=I.b6.cell' (i:=0) F;clear a6 ae ab ar;go_enter func226,ntmps226;go_upto_region 1 with fail;clear g1 R g3;go_wp2_with (refine qB (n:=ws.length) (m:=1) (c:=1) (xs:=ws.map bM) (news:=[bM nm]) a0 F _ _ F B F F (uF I.own ((X.refl _).alloc _)) F bG (fun h=>by cases h) (aK.eG (ah.aI F F)) (fun u af=>by simp at af;rw[af];rfl) J J (Nat.le_trans I.sz (by rw[rQ];omega)) ?_);intro b0 bz ax g1 bm;obtain⟨bj,bk,rfl,_,_,_⟩:=iJ ax;obtain⟨ac,a_,G1⟩:=aW ax (bh.cells (by rw[length_map,am.out]) (aE.ext ((X.refl _).alloc _)) g1) g1;have bp:=g1.size;rw[rQ]at bp;have bx:=I.sz;clear ax g1 bm;go_wp2_with (refine qB (n:=ws.length+1) (m:=E) (c:=ai) (xs:=ws.map bM++[bM nm]) (news:=j.map bM) a0 F _ _ F B F F ac (by rw[length_map,Nat.mul_one];exact am) be bc a_ (fun u af=>by obtain⟨s,_,rfl⟩:=mem_map.1 af;rfl) J J J ?_);intro b1 v2 al R bo;obtain⟨ao,ap,rfl,_,_,_⟩:=iJ al;have aq:((ws++[nm])++j).length=ws.length+1+E:=by simp only[length_append,length_cons,length_nil,am.out]
  have bi:Hid (v2.ownsRow B 9 1 (.slice ao ((ws++[nm])++j).length ap) ((ws++[nm])++j).length (((ws++[nm])++j).map bM)):=O (by rw[aq];first|exact al|simpa using al);have a4:∀q,(Value.slice bj (ws.length+1) bk).ownBlock=some q->B<=q:=fun q aa=>(ac.lt q aa).1;have ad:ah v2 G6 [.slice a ws.length c] 98:=((I.b6.alloc _).besides (uF I.own ((X.refl _).alloc _)) G1 aX).besides ac R aX;have bu:=ad.cell' (i:=0) F;have bv:=ad.frozen 0;obtain⟨az,bt,bd⟩:=aW ad R aq;have a3:∀q,(Value.slice a ws.length c).ownBlock=some q->B<=q:=fun q aa=>(I.own.lt q aa).1;have a1:ah v2 G5 r.v 192:=((I.b5.alloc _).besides (uF I.own ((X.refl _).alloc _)) G1 aX).besides ac R aX;have e2:X w v2:=((I.e.alloc _).grown G1 (fun q aa=>Nat.le_trans a8 (a3 q aa))).grown R (fun q aa=>Nat.le_trans a8 (a4 q aa));obtain⟨a9,ba⟩:=aB a1 e2;have bw:=R.size;clear al R bo aq a4 a3 ad a1 e2 k6;go_wp2_with fail;obtain⟨v3,aw⟩:=aC (World.setCell v2 ⟨G6,0,none⟩ (.slice ao (ws.length+1+E) ap));try rw[aw]
  go_end0
  refine⟨F,ao,ap,?_⟩;have u:aU v2 G6 v3:=by rw[<-aw];exact aU.setCell _
  rw[an.out];refine⟨u.ext ba br,a9.upd u bl,?_,n_ bi u az aX,by rw[u.size];omega⟩;rw[bd.out,<-aw];exact az.set 0 _
end
end Go.Proofs.YtjlhhnkhcbpnjaaGreatDoor
