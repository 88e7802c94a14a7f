/- Laws that the row leans on; no condition. -/
import Derived.Test.YtjlhhnkhcbpnjaaGreatDoorJM13
namespace Go.Proofs.YtjlhhnkhcbpnjaaGreatDoor
open Go Go.RowKit List Tryz
set_option linter.unusedVariables false
set_option linter.unusedSimpArgs false
set_option maxHeartbeats 40000000
set_option maxRecDepth 100000
theorem Cj:iH prog 152 1:=⟨⟨_,underlying152,F⟩,au⟩
theorem Lc(w:World):lG w none 0 0 []:=⟨F,Nat.le_refl _,J,.inl F,fun _ h=>by cases h⟩
theorem aag{rs:List aS}{k:Nat}{r:aS}(h:rs[k]? =some r):iR (rs.take (k+1))=iR (rs.take k)++Ap r++[10]:=by simp_all [iR,take_add_one,flatMap_append]
theorem Sr{rs:List aS}{W:World}(j:∀r∈rs,r.Ok W)(E:∀r∈rs,jd r=0):(iR rs).length<=rs.length*4001:=by
 induction rs with
 |nil=>simp[iR]
 |cons r rs I=>
  have R:=RX (j r aF) (RU (j r aF) (E r aF));have aa:=I (fun x u=>j x (mem_cons_of_mem _ u)) (fun x u=>E x (mem_cons_of_mem _ u));have e:iR (r::rs)=(Ap r++[10])++iR rs:=by unfold iR;rw[flatMap_cons]
  rw[e];simp only[length_append,length_cons,length_nil];omega
noncomputable def lH(rs:List aS)(j:Nat):Int:=if jG rs j≠0 then jG rs j else if jH (iR rs)=0/\jY rs (mM (iR rs))=true then 0 else 2
noncomputable def lI(rs:List aS)(j:Nat):aj:=if lH rs j=0 then iR rs else[]
theorem Sv{rs:List aS}{j:Nat}(h:jG rs j≠0):lH rs j=jG rs j/\lI rs j=[]:=by grind [lH,lI]
theorem Sz{rs:List aS}{j:Nat}(u:jG rs j=0)(h:¬(jH (iR rs)=0/\jY rs (mM (iR rs))=true)):lH rs j=2/\lI rs j=[]:=by grind [lH,lI]
theorem aah{rs:List aS}{j:Nat}(u:jG rs j=0)(h:jH (iR rs)=0/\jY rs (mM (iR rs))=true):lH rs j=0/\lI rs j=iR rs:=by grind [lH,lI]
theorem aai{rs:List aS}{j:Nat}(h:jG rs j=0):j<=100/\∀r∈rs,jd r=0:=by grind [jG,Ze]
structure dw where
 cnt:Nat
 tm:Int
 last:aj
 ji:aj
 pol:Option (List aS)
 ms:List (aj×aT)
 ks:List (aj×bC)
 av:List (aj×List (aj×(aT×Int)))
def kM(l:List (aj×dX)):List (aj×(aT×Int)):=l.map fun y=>(y.1,(y.2.r.l,y.2.t))
def aV.p(S:aV):dw:=⟨S.cnt,S.tm,S.last,S.ji,S.pol.map fun P=>P.rs.map aS.bare,S.ms.map fun x=>(x.1,x.2.l),S.ks,S.av.map fun x=>(x.1,kM x.2.2)⟩
def fO:aj:=List.replicate 16 0
def kN:aj:=List.replicate 32 0
def dw.zero:dw:=⟨0,0,kN,fO,none,[],[],[]⟩
noncomputable def mO(e:aG):bZ:=(kE kF e.act e.body).1
noncomputable def Ih(t:aj):Bool:=decide (jH t=0)&&decide (lH (mM t) (mM t).length=0)&&decide (lI (mM t) (mM t).length=t)
def EF(a:Int):Bool:=decide (a=1)||decide (a=2)||decide (a=3)||decide (a=8)||decide (a=11)||decide (a=12)
noncomputable def dw.EG(S:dw)(e:aG)(x:bZ):Int:=
 if e.act=2 then(if(bW S.ms x.member).isSome then 8 else if x.member=fO then 2 else 0)
 else if e.act=3 then(if(bW S.ms x.member).isNone then 7 else if S.ms.length=1 then 15 else 0)
 else if e.act=12 then(if(S.cnt:Int)<x.count then 4 else 0)else 0
noncomputable def dw.Ki(S:dw)(e:aG)(x:bZ)(k:bC):Int:=
 if e.act=5 then(if x.epoch≠k.epoch+1 then 4 else 0)
 else if e.act=6 then(if k.epoch<x.epoch then 4 else if x.purpose≠2/\x.epoch≠k.epoch then 15 else 0)
 else if e.act=9 then(if x.epoch≠k.epoch∨(x.mK.length:Int)<x.need then 4 else if x.mK.any (fun h=>(bW S.ms h).isNone)then 6 else if x.commit≠k.commit then 17 else 0)
 else if e.act=10 then(if k.esc≠x.epoch then 15 else if x.commit≠k.shared then 17 else 0)else 0
noncomputable def dw.ref(S:dw)(e:aG):Int:=
 if dN e≠0 then dN e else
 if e.num≠(S.cnt:Int)then 9 else if e.prev≠S.last then 13 else if e.time<S.tm then 16
 else if S.cnt=0/\e.act≠2 then 3
 else if(S.cnt=0/\(mO e).member≠e.bI)∨(0<S.cnt/\(bW S.ms e.bI).isNone)then 6
 else if e.act=1/\Ih (mO e).text.data.toList=false then 2
 else if e.act=4 then(if e.key=fO then 2 else if(bW S.ks e.key).isSome then 8 else 0)
 else if EF e.act then(if e.key≠fO then 2 else S.EG e (mO e))
 else match bW S.ks e.key with
  |none=>7
  |some k=>if k.rev then 15 else S.Ki e (mO e) k
noncomputable def lV(e:aG):aj:=dY 5 (e.bI++[UInt8.ofNat e.act.toNat]++e.key++dY 0 e.body)
def Aq(t:Int)(l:List (aj×(aT×Int))):List (aj×(aT×Int)):=l.filter fun y=>decide (t - y.2.2<=86400)
noncomputable def dw.act(S:dw)(e:aG)(x:bZ):dw:=
 let k:=(bW S.ks e.key).getD bC.zero
 if e.act=1 then{S with pol:=some (mM x.text.data.toList)}
 else if e.act=2 then{S with ms:=dU S.ms x.member x.roles}
 else if e.act=3 then{S with ms:=iQ S.ms x.member,av:=S.av.map fun y=>(y.1,iQ y.2 x.member)}
 else if e.act=4 then{S with ks:=dU S.ks e.key ⟨e.key,x.label,0,x.commit,false, -1,kN⟩}
 else if e.act=5 then{S with ks:=dU S.ks e.key {k with epoch:=x.epoch,commit:=x.commit}}
 else if e.act=7 then{S with ks:=dU S.ks e.key {k with rev:=true}}
 else if e.act=9 then{S with ks:=dU S.ks e.key {k with esc:=x.epoch,shared:=x.commit}}
 else if e.act=8 then{S with av:=dU S.av x.commit (dU ((bW S.av x.commit).getD []) e.bI ((bW S.ms e.bI).getD [],e.time))}
 else S
noncomputable def dw.next(S:dw)(e:aG):dw:=
 let T:={S with ji:=if S.cnt=0 then e.bI else S.ji}.act e (mO e);let A:=if e.act≠8 then iQ T.av (lV e)else T.av
 {T with av:=A.map fun y=>(y.1,Aq e.time y.2),cnt:=S.cnt+1,tm:=e.time,last:=ig e}
noncomputable def dw.apply(S:dw)(e:aG):dw:=if S.ref e=0 then S.next e else S
def nH(l:aj)(p:Nat):Nat:=(iW l (p+85)).toNat
def qI(l:aj)(at_:Int):Int:=
 if at_<0 then 4 else if(l.length:Int)<89∨(l.length:Int) - 89<at_ then 1 else if(l.drop at_.toNat).take 4≠[75,87,69,49]then 2 else if 32768<nH l at_.toNat then 5 else 0
theorem aaj{l:aj}{at_:Int}(h:qI l at_=0):∃p:Nat,at_=(p:Int)/\p+89<=l.length/\(l.drop p).take 4=[75,87,69,49]/\nH l p<=32768:=by
 unfold qI at h;split at h
 ·cases h
 split at h
 ·cases h
 split at h
 ·cases h
 split at h
 ·cases h
 rename_i E I j u;obtain⟨p,rfl⟩:=Int.eq_ofNat_of_zero_le (show 0<=at_ by omega);rw[Int.toNat_natCast]at j u;exact⟨p,F,J,by simpa using j,J⟩
theorem aak(l:aj)(a:aN)(n c:Nat)(at_:Int)(w:World)(ai:l.length=n)(a7:n<=c)(hn:n<=140737488355328)(ap:aK w a (l.map Y)):
 nW 93 #[.slice a n c,.int .i64 at_] w (.tuple #[.int .i64 (if qI l at_=0 then((121+nH l at_.toNat:Nat):Int)else 0),.int .i64 (qI l at_)]):=by
 obtain⟨an,am⟩:=aB ai ap;obtain⟨a8,u⟩:=aC ((if qI l at_=0 then((121+nH l at_.toNat:Nat):Int)else 0));rw[u];obtain⟨E,j⟩:=aC (qI l at_);rw[j]at u⊢;unfold qI at j;rw[ai]at j;clear ap ai;by_cases aa:at_<0
 ·rw[if_pos aa]at j;subst j;rw[if_neg aX]at u;subst u;have a0:decide (at_<0)=true:=aQ aa;go_enter func93,ntmps93;go_wp2
  go_ret2
  exact⟨F,X.refl w⟩
 rw[if_neg aa]at j;obtain⟨p,rfl⟩:=Int.eq_ofNat_of_zero_le (show 0<=at_ by omega);rw[Int.toNat_natCast]at j u;have a0:decide ((p:Int)<0)=false:=aP J;have a9:decide (p<0)=false:=aP J;clear aa;by_cases aE:n<89
 ·rw[if_pos J]at j;subst j;rw[if_neg aX]at u;subst u;have a1:decide ((n:Int)<89)=true:=aQ J;have a2:decide (n<89)=true:=aQ J;go_enter func93,ntmps93;go_wp2
  go_ret2
  exact⟨F,X.refl w⟩
 have a1:decide ((n:Int)<89)=false:=aP J;have a2:decide (n<89)=false:=aP J;have bc:IntKind.i64.wrap ((n:Int) - 89)=(n:Int) - 89:=IntWalk.i64_in _ J;by_cases af:(n:Int) - 89<p
 ·rw[if_pos J]at j;subst j;rw[if_neg aX]at u;subst u;have a3:decide ((n:Int) - 89<p)=true:=aQ af;go_enter func93,ntmps93;go_wp2
  go_ret2
  exact⟨F,X.refl w⟩
 have a3:decide ((n:Int) - 89<p)=false:=aP af;rw[if_neg J]at j;have ba:p+89<=n:=J;have bd:IntKind.i64.wrap ((p:Int)+4)=(p:Int)+4:=IntWalk.i64_in _ J;have aq:((l.drop p).take 4).length=4:=by rw[length_take,length_drop,an.out];omega
 have az:aK w (dL a c p) (((l.drop p).take 4).map Y):=by rw[map_take,map_drop];exact am.shift c p 4 J
 have ax:=Ba w (dL a c p) ((l.drop p).take 4) 4 (c - p) az aq.symm;have ac:(aY ((l.drop p).take 4)).toList=(l.drop p).take 4:=by unfold aY;rw[ByteArray.toList_mk]
 have ag:p+4<=c:=J;clear aE af az aq;by_cases I:(l.drop p).take 4=[75,87,69,49]
 rotate_left
 ·rw[if_pos I]at j;subst j;rw[if_neg aX]at u;subst u;have a6:((aY ((l.drop p).take 4)).toList==[75,87,69,49])=false:=by rw[ac];simpa using I
  clear I ac;go_enter func93,ntmps93;go_wp2_with (refine bF F (oV (k:=p) (h:=p+4) F F F F underlying32 gu J ag F _) ?_)
  go_ret2
  exact⟨F,X.refl w⟩
 rw[if_neg (by simpa using I)]at j;have a6:(aY ((l.drop p).take 4)).toList=[75,87,69,49]:=ac.trans I;have aw:g_ n ((p+85:Nat):Int) 4=0:=by unfold g_;rw[if_neg J,if_neg J]
 have al:=OJ l a n c ((p+85:Nat):Int) w an hn a7 am;have ar:yE l n ((p+85:Nat):Int)= .tuple #[.int .u32 ((iW l (p+85)).toNat:Nat),.int .i64 0]:=by rw[yE,if_pos aw];rfl
 rw[ar]at al;have ae:=O al;unfold nH at j u;obtain⟨W,ao⟩:=aC (iW l (p+85));rw[ao]at j u ae;have a_:=W.toNat_lt;have be:IntKind.i64.wrap ((p:Int)+89)=(p:Int)+89:=IntWalk.i64_in _ J;have bh:IntKind.i64.wrap ((p:Int)+89 - 4)=((p+85:Nat):Int):=by rw[IntWalk.i64_in _ J];omega
 clear I ac aw ar al ao;by_cases ab:32768<W.toNat
 ·rw[if_pos ab]at j;subst j;rw[if_neg aX]at u;subst u;have a4:decide (32768<W.toNat)=true:=aQ ab;have a5:decide ((32768:Int)<(W.toNat:Int))=true:=aQ J;go_enter func93,ntmps93;go_wp2_with (refine bF F (oV (k:=p) (h:=p+4) F F F F underlying32 gu J ag F _) ?_);refine ae.mono ?_;rintro e w' ⟨rfl,R⟩;have ad:=O R;clear R ax;go_wp2_with fail
  go_ret2
  exact⟨F,ad⟩
 ·rw[if_neg ab]at j;subst j;rw[if_pos F]at u;subst u;have a4:decide (32768<W.toNat)=false:=aP ab;have a5:decide ((32768:Int)<(W.toNat:Int))=false:=aP J;have bi:IntKind.i64.wrap (W.toNat:Int)=(W.toNat:Int):=IntWalk.i64_in _ J;have bj:IntKind.i64.wrap (89+(W.toNat:Int))=89+(W.toNat:Int):=IntWalk.i64_in _ J;have bk:IntKind.i64.wrap (89+(W.toNat:Int)+32)=((121+W.toNat:Nat):Int):=by rw[IntWalk.i64_in _ J];omega
  go_enter func93,ntmps93;go_wp2_with (refine bF F (oV (k:=p) (h:=p+4) F F F F underlying32 gu J ag F _) ?_);refine ae.mono ?_;rintro e w' ⟨rfl,R⟩;have ad:=O R;clear R ax;go_wp2_with fail
  go_ret2
  exact⟨F,ad⟩
theorem qJ{P:Program}{E:Func}{j:Ending->World->Prop}{a:Act}{w:World}{p u q:Tmp}{ty:TypeId}{g:Nat}{vs:aO}{T:TypeId}
 (xL:E.results= #[.cell p ty,.tmp u,.tmp q])(R:a.tmps.getD p undef= .pointer (some ⟨g,0,none⟩))(hb:ah w g vs T)
 {n:Nat}(ht:iH P ty n)(hn:vs.length=n)
 (ac:a.defers=[])(ab:j (.returned (.tuple #[.agg vs.toArray,a.tmps.getD u undef,a.tmps.getD q undef])) w):bodyPost P E j .ret a w:=by
 have I:=AV (P:=P) (off:=0) hb ht J;have aa:(vs.drop 0).take n=vs:=by simp[<-hn]
 rw[aa]at I;refine bodyPost_ret (v:= .tuple #[.agg vs.toArray,a.tmps.getD u undef,a.tmps.getD q undef]) ?_ ac ab;simp only[Array.getD_eq_getD_getElem?]at R;simp[results,xL,R,asAddr,I]
theorem EI:prog.eqGuardType prog.depth 31=false:=au
theorem xU{w:World}{b off:Nat}{l:aj}(h:∀(i:Nat) (u:Value),(l.map Y)[i]? =some u->w.cell? ⟨b,off+i,none⟩=some u)(k m:Nat):dP w ⟨b,off+k,none⟩ (((l.drop k).take m).map Y):=by
 intro j u E;rw[dn];have I:j<m:=by have:=(List.getElem?_eq_some_iff.1 E).1;simp at this;omega
 rw[Nat.add_assoc];refine h (k+j) u ?_;rw[map_take,map_drop,List.getElem?_take_of_lt I,List.getElem?_drop]at E;exact E
theorem xW{w:World}{b off:Nat}{l:aj}(h:∀(i:Nat) (u:Value),(l.map Y)[i]? =some u->w.cell? ⟨b,off+i,none⟩=some u)(k m:Nat):aK w (some ⟨b,off+k,none⟩) (((l.drop k).take m).map Y):=
 .inr ⟨b,off+k,F,fun i u j=>by have:=xU h k m i u j;rwa[dn]at this⟩
def wQ(l:aj)(p N:Nat):dW:=⟨kK (fE l (p+4)),kK (fE l (p+12)),(l[p+20]?.getD 0).toNat,(l.drop (p+21)).take 16,(l.drop (p+37)).take 16,(l.drop (p+53)).take 32,(l.drop (p+89)).take N⟩
def Cm(l:aj)(p N:Nat):Bool:=dY 3 ((l.drop p).take (89+N))==(l.drop (p+89+N)).take 32
noncomputable def fQ(l:aj)(at_:Int):dW×Int×Int:=
 if qI l at_≠0 then(u_,0,qI l at_)else
 if l.length<at_.toNat+121+nH l at_.toNat then(u_,0,1)else
 if Cm l at_.toNat (nH l at_.toNat)=false then(u_,0,13)else
 if jX (wQ l at_.toNat (nH l at_.toNat))=0 then(wQ l at_.toNat (nH l at_.toNat),((at_.toNat+121+nH l at_.toNat:Nat):Int),0)
 else(u_,0,jX (wQ l at_.toNat (nH l at_.toNat)))
theorem SA{w:World}{B B':Nat}{e:TypeId}{z n c:Nat}{a:aN}{xs:aO}(h:w.ownsRow B e z (.slice a n c) n xs)(hc:aK w a xs)(hb:B'<=B):bJ w B' a xs:=by
 rcases hc with j|⟨b,off,ha,j⟩
 ·exact .inl j
 ·exact .inr ⟨b,off,ha,Nat.le_trans hb (h.lt b (by rw[ha];rfl)).1,j⟩
def aG.Ld(w:World)(B:Nat)(r:aG):Prop:=r.Ok w/\bJ w B r.ba (r.body.map Y)
def Le(l:aj)(at_:Int)(w:World)(x:Ending)(w':World):Prop:=
 ∃r:aG,x= .returned (.tuple #[.agg r.v.toArray,.int .i64 (fQ l at_).2.1,.int .i64 (fQ l at_).2.2])/\r.Ld w' w.heap.size/\r.p=(fQ l at_).1/\X w w'
theorem EJ(w:World):dS.Ok w:=⟨F,F,F,F,Nat.le_refl _,aX,fun _=>⟨F,F⟩,.inl F⟩
theorem SB{l:aj}{at_:Int}{w w':World}{E:Int}(h:fQ l at_=(u_,0,E))(e:X w w'):Le l at_ w (.returned (.tuple #[.agg dS.v.toArray,.int .i64 0,.int .i64 E])) w':=
 ⟨dS,by rw[h],⟨EJ w',.inl F⟩,by rw[h];rfl,e⟩
section
open Go Go.RowKit
noncomputable def lq(es:List dW):aj:=match es.getLast? with|none=>kN|some e=>ig e.r
theorem SC(es:List dW)(e:dW):lq (es++[e])=ig e.r:=by grind [lq]
theorem Ii(e:aG)(h:e.body.length=e.bn):ig e.p.r=ig e:=by grind [ny,aG.p,dW.r,ig,dN]
theorem J2(e:aG)(h:e.body.length=e.bn):iZ e.p.r=iZ e:=by grind [ny,aG.p,dW.r,iZ,Ii]
theorem Lh(es:List dW):(lq es).length=32:=by grind [lq,kN,length_replicate,nZ]
noncomputable def wR(l:aj):Nat->Nat->List dW->List dW×Int
 |0,_,es=>(es,0)
 |f+1,p,es=>
  if l.length<=p then(es,0)
  else if(fQ l p).2.2≠0 then(es,(fQ l p).2.2)
  else if(fQ l p).1.num≠(es.length:Int)then(es,9)
  else if(fQ l p).1.prev≠lq es then(es,13)
  else wR l f (fQ l p).2.1.toNat (es++[(fQ l p).1])
noncomputable def nI(l:aj):List dW×Int:=wR l (l.length+1) 0 []
theorem Lj{l:aj}{p:Nat}(h:(fQ l p).2.2=0):∃q:Nat,(fQ l p).2.1=(q:Int)/\q=p+121+(fQ l p).1.body.length/\q<=l.length/\jX (fQ l p).1=0:=by
 unfold fQ at h⊢;by_cases u:qI l p≠0
 ·rw[if_pos u]at h;exact absurd h u
 rw[if_neg u]at h⊢;rw[show((p:Int)).toNat=p from F]at*;by_cases E:l.length<p+121+nH l p
 ·rw[if_pos E]at h;cases h
 rw[if_neg E]at h⊢;by_cases I:Cm l p (nH l p)=false
 ·rw[if_pos I]at h;cases h
 rw[if_neg I]at h⊢;by_cases j:jX (wQ l p (nH l p))=0
 ·rw[if_pos j];refine⟨_,F,?_,J,j⟩;show _=p+121+((l.drop (p+89)).take (nH l p)).length;rw[length_take,length_drop];omega
 ·rw[if_neg j]at h;exact absurd h j
structure lW(l:aj)(p:Nat)(es:List dW):Prop where
 f:∃f,l.length<p+f/\wR l f p es=nI l
 pl:p<=l.length
 good:∀e∈es,jX e=0
 sz:(es.map fun e=>121+e.body.length).sum=p
theorem lW.start(l:aj):lW l 0 []:=⟨⟨l.length+1,J,F⟩,Nat.zero_le _,aF,F⟩
section
variable {l:aj} {p:Nat} {es:List dW}
theorem lW.many(h:lW l p es):121*es.length<=p:=by
 have j:∀es:List dW,121*es.length<=(es.map fun e=>121+e.body.length).sum:=by
  intro es;induction es with
  |nil=>exact Nat.le_refl _
  |cons e es u=>rw[map_cons,sum_cons,length_cons];omega
 rw[<-h.sz];exact j es
theorem lW.fin(h:lW l p es)(u:¬p<l.length):nI l=(es,0):=by
 obtain⟨f,hf,j⟩:=h.f;rw[<-j];cases f with
 |zero=>rfl
 |succ f=>unfold wR;rw[if_pos J]
theorem lW.bad(h:lW l p es)(E:p<l.length)(j:(fQ l p).2.2≠0):nI l=(es,(fQ l p).2.2):=by
 obtain⟨f,hf,u⟩:=h.f;rw[<-u];cases f with
 |zero=>omega
 |succ f=>unfold wR;rw[if_neg J,if_pos j]
theorem lW.order(h:lW l p es)(E:p<l.length)(j:(fQ l p).2.2=0)(hn:(fQ l p).1.num≠(es.length:Int)):nI l=(es,9):=by
 obtain⟨f,hf,u⟩:=h.f;rw[<-u];cases f with
 |zero=>omega
 |succ f=>unfold wR;rw[if_neg J,if_neg (by simp[j]),if_pos hn]
theorem lW.seal(h:lW l p es)(E:p<l.length)(j:(fQ l p).2.2=0)(hn:(fQ l p).1.num=(es.length:Int))(hs:(fQ l p).1.prev≠lq es):nI l=(es,13):=by
 obtain⟨f,hf,u⟩:=h.f;rw[<-u];cases f with
 |zero=>omega
 |succ f=>unfold wR;rw[if_neg J,if_neg (by simp[j]),if_neg (by simp[hn]),if_pos hs]
theorem lW.step(h:lW l p es)(ac:p<l.length)(u:(fQ l p).2.2=0)(hn:(fQ l p).1.num=(es.length:Int))(hs:(fQ l p).1.prev=lq es):∃q:Nat,(fQ l p).2.1=(q:Int)/\p<q/\lW l q (es++[(fQ l p).1]):=by
 obtain⟨q,E,R,aa,I⟩:=Lj u;refine⟨q,E,J,?_,aa,?_,?_⟩
 ·obtain⟨f,hf,ab⟩:=h.f;cases f with
  |zero=>omega
  |succ f=>
   refine⟨f,J,?_⟩;rw[<-ab]
   conv=>rhs;unfold wR
   rw[if_neg J,if_neg (by simp[u]),if_neg (by simp[hn]),if_neg (by simp[hs]),E];rfl
 ·intro e j;rcases mem_append.1 j with j|j
  ·exact h.good e j
  ·rw[mem_singleton.1 j];exact I
 ·rw[map_append,sum_append,h.sz,R];simp[Nat.add_assoc]
end
end
theorem gU(w:World)(o:Obj):(w.alloc o).heap.size=w.heap.size+1:=by show(w.heap.push o).size=_;simp
theorem aal(w:World):Calls prog 42 #[] w fun e w'=>∃p S,e= .returned (.pointer (some ⟨p,0,none⟩))/\dJ w' p S/\S.p=dw.zero/\X w w'/\(∀g,S.M p g->w.heap.size<=g)/\p+1=w'.heap.size:=by
 have Dm:=fun w=>He (P:=prog) 142 w;have ar:=fun w=>He (P:=prog) 143 w;have aw:=fun w=>He (P:=prog) 144 w;go_enter func42,ntmps42;go_wp2_with fail;go_ret;generalize R:World.alloc w _=j;generalize aa:World.alloc j _=w2;generalize ab:World.alloc w2 _=u;generalize ac:World.alloc u _=ad;have ag:j.heap.size=w.heap.size+1:=by rw[<-R,gU]
 have ai:w2.heap.size=w.heap.size+2:=by rw[<-aa,gU,ag]
 have al:u.heap.size=w.heap.size+3:=by rw[<-ab,gU,ai]
 have ax:ad.heap.size=w.heap.size+4:=by rw[<-ac,gU,al]
 have an:X w j:=by rw[<-R];exact(X.refl w).alloc _
 have e2:X j w2:=by rw[<-aa];exact(X.refl j).alloc _
 have I:X w2 u:=by rw[<-ab];exact(X.refl w2).alloc _
 have E:X u ad:=by rw[<-ac];exact(X.refl u).alloc _
 have aq:f_ eX iF.v j w.heap.size []:=by rw[<-R];exact f_.new w
 have ae:f_ eX bC.va w2 j.heap.size []:=by rw[<-aa];exact f_.new j
 have af:f_ eX oH u w2.heap.size []:=by rw[<-ab];exact f_.new w2
 rw[ag]at ae;rw[ai]at af;have am:ah ad u.heap.size (aV.v ⟨0,0,kN,fO,none,w.heap.size,w.heap.size+1,w.heap.size+2,[],[],[]⟩) 147:=by rw[<-ac];exact ah.aI F F
 refine⟨u.heap.size,⟨0,0,kN,fO,none,w.heap.size,w.heap.size+1,w.heap.size+2,[],[],[]⟩,?_,?_,F,((an.ext e2).ext I).ext E,?_,J⟩
 ·first|rfl|(rw[al];rfl)
 ·exact⟨am,F,F,aF,aF,aF,((aq.ext e2).ext I).ext E,(ae.ext I).ext E,af.ext E,jc.nil,jc.nil,jc.nil,aF,by simp only[map_nil,nodup_cons,mem_cons,not_mem_nil,or_false,not_or];exact⟨J,J,aF,aF⟩,aF,aF,aF⟩
 ·intro g ao;rcases ao with h|h|h|h|⟨x,ap,_⟩
  ·omega
  ·simp at h;omega
  ·simp at h;omega
  ·simp at h;omega
  ·simp at ap
theorem SE(p:Nat)(S:aV)(w:World)(h:dJ w p S):
 nW 51 #[.pointer (some ⟨p,0,none⟩)] w (.int .i64 S.tm):=by
 have j:=h.blk.cell' (i:=1) (v:= .int .i64 S.tm) F;clear h;go_enter func51,ntmps51;go_wp2_with fail;go_ret;exact⟨F,X.refl _⟩
structure Ij where
 al:Bool
 ru:Int
 nd:Int
 ow:ByteArray
def Ij.v(d:Ij):aO:=[.bool d.al,.int .i64 d.ru,.int .i64 d.nd,.string d.ow]
theorem Ij.len(d:Ij):d.v.length=4:=F
theorem eu.aam{w:World}{a:eu}(h:a.Ok w):(a.v.drop 0).take 16=a.bI.map Y:=by
 unfold eu.v;rw[drop_zero,take_left' (by simp[h.ha])]
theorem eu.aan(a:eu):a.v=(a.bI.map Y++[.slice a.sa a.sn a.sc,.int .i64 a.act,.string a.label])++(a.key.map Y++(.int .i64 a.time::a.detail.map Y)):=by
 unfold eu.v;simp
theorem eu.aao{w:World}{a:eu}(h:a.Ok w):(a.v.drop 19).take 16=a.key.map Y:=by
 rw[eu.aan,drop_left' (by simp[h.ha]),take_left' (by simp[h.hk])]
theorem eu.aap{w:World}{a:eu}(h:a.Ok w):(a.v.drop 36).take 32=a.detail.map Y:=by
 have:a.v=(a.bI.map Y++[.slice a.sa a.sn a.sc,.int .i64 a.act,.string a.label]++a.key.map Y++[.int .i64 a.time])++a.detail.map Y:=by unfold eu.v;simp
 rw[this,drop_left' (by simp[h.ha,h.hk]),take_of_length_le (by simp[h.hd])]
def sW(a:eu):aj:=a.bI++[UInt8.ofNat a.act.toNat]++a.key++a.detail
theorem SG{w:World}{a:eu}(h:a.Ok w):(sW a).length=65:=by unfold sW;simp[h.ha,h.hk,h.hd]
theorem SH(a:eu)(w:World)(ha:a.Ok w)(bx:∃A:Nat,a.act=(A:Int)/\A<=12):
 nW 53 #[.agg a.v.toArray] w (.agg ((dY 5 (sW a)).map Y).toArray):=by
 obtain⟨b3,ar,bp,br,bt⟩:=dM (eu.len ha) (eu.pI ha) (eu.aam ha) (eu.aao ha) (eu.aap ha);have bk:=O ha.ha;have bl:=O ha.hk;have bm:=O ha.hd;obtain⟨ba,ax,aw⟩:=aW (fun(b:aN) (c:Nat) w' h=>uV 5 (sW a) 65 c b w' J J (SG ha) J h) (SG ha) (show((dY 5 (sW a)).map Y).length=32 by rw[length_map,j_]);have b1:=b_ (dY 5 (sW a));obtain⟨A,af,b4⟩:=bx;obtain⟨R,am⟩:=jE (UInt8.ofNat A);have a9:a.bI++[R]++a.key++a.detail=sW a:=by unfold sW;rw[af,am];rfl
 obtain⟨bu,bo⟩:=aB a9 am;rw[af]at ar;clear am a9 af ha;generalize bz:dY 5 (sW a)=S at*;clear bz;generalize sW a=b2 at*;generalize a.v=av at*;generalize a.bI=l0 at*;generalize a.key=an at*;generalize a.detail=ao at*;go_enter func53,ntmps53;go_upto_region 1 with(fail);generalize iX:World.alloc (World.alloc w _) _=ad;have a8:ah ad w.heap.size av 108:=by rw[<-iX];exact(ah.aI F F).alloc _
 have zA:ah ad (w.heap.size+1) (List.replicate 32 (.int .u8 0)) 31:=by rw[<-iX];exact ah.aI aF F
 have a5:X w ad:=by rw[<-iX];exact((X.refl w).alloc _).alloc _
 obtain⟨ac,ZA,EA⟩:=aW a8 zA a5;clear iX a8 zA a5;obtain⟨C,iB,aJ,bP⟩:=iw (show bT w ad [w.heap.size,w.heap.size+1] [] ad from bT.jA EA (dV.two ac.lt ZA.lt));have a2:∀u,C u->u.cell? ⟨w.heap.size,17,none⟩=some (.int .i64 (A:Int)):=fun u ab=>(((iB u).1 ab).blk ac aF).cell' ar;have a1:∀u,C u->aK u (some ⟨w.heap.size,0,none⟩) (l0.map Y):=fun u ab=>by
  have:=aK.vP (((iB u).1 ab).blk ac aF) 0 16;rwa[bp.out]at this
 have a3:∀u,C u->aK u (some ⟨w.heap.size,19,none⟩) (an.map Y):=fun u ab=>by
  have:=aK.vP (((iB u).1 ab).blk ac aF) 19 16;rwa[br.out]at this
 have a4:∀u,C u->aK u (some ⟨w.heap.size,36,none⟩) (ao.map Y):=fun u ab=>by
  have:=aK.vP (((iB u).1 ab).blk ac aF) 36 32;rwa[bt.out]at this
 refine jQ (W:=[13]) fun Z=> ?_;refine bK 0 ?_;refine bK 1 ?_;refine bK 2 ?_;refine eY 3 (a2) ?_;refine bK 4 ?_;refine bK 6 ?_;refine bK 7 ?_;refine bK 8 ?_;refine bK 9 ?_;have bc:IntKind.u8.wrap (A:Int)=(R.toNat:Int):=by
  rw[bo.out,UInt8.toNat_ofNat',IntWalk.u8_in _ J];omega
 rw[bc];clear bc;have b5:=O ZA.lt;generalize ad.drew=wD at*;refine fC 5 ?_;intro I E;go_wp2_with fail;have ap:=O (show ah (wD.alloc (.cells #[.int .u8 (R.toNat:Int)] 5)) wD.heap.size ([R].map Y) 5 from ah.aI F F);have hF:=aJ _ _ Z ((X.refl wD).alloc (.cells #[.int .u8 (R.toNat:Int)] 5));refine E _ _ hF ?_;clear E I Z;have Z:=hF;clear hF;generalize wD.alloc (.cells #[.int .u8 (R.toNat:Int)] 5)=wF at*;generalize wD.heap.size=aa at*;refine aH ?_;obtain⟨k1,b0,k4,k6⟩:=bU (aK.tO ap) (a1 wF Z) (a3 wF Z) (a4 wF Z);clear ap a1 a3 a4 a2;refine fC 10 ?_;intro I E;go_wp2_with fail;have ag:=aJ _ _ Z ((X.refl wF).alloc (.cells #[.slice (some ⟨w.heap.size,0,none⟩) 16 16,.slice (some ⟨aa,0,none⟩) 1 1,.slice (some ⟨w.heap.size,19,none⟩) 16 16,.slice (some ⟨w.heap.size,36,none⟩) 32 32] 32));obtain⟨BG,ae⟩:=aB (show ah (wF.alloc (.cells #[.slice (some ⟨w.heap.size,0,none⟩) 16 16,.slice (some ⟨aa,0,none⟩) 1 1,.slice (some ⟨w.heap.size,19,none⟩) 16 16,.slice (some ⟨w.heap.size,36,none⟩) 32 32] 32)) wF.heap.size [.slice (some ⟨w.heap.size,0,none⟩) 16 16,.slice (some ⟨aa,0,none⟩) 1 1,.slice (some ⟨w.heap.size,19,none⟩) 16 16,.slice (some ⟨w.heap.size,36,none⟩) 32 32] 32 from ah.aI F F) ((X.refl wF).alloc (.cells #[.slice (some ⟨w.heap.size,0,none⟩) 16 16,.slice (some ⟨aa,0,none⟩) 1 1,.slice (some ⟨w.heap.size,19,none⟩) 16 16,.slice (some ⟨w.heap.size,36,none⟩) 32 32] 32));refine E _ _ ag ?_;clear E I Z;have Z:=ag;clear ag;generalize wF.alloc (.cells #[.slice (some ⟨w.heap.size,0,none⟩) 16 16,.slice (some ⟨aa,0,none⟩) 1 1,.slice (some ⟨w.heap.size,19,none⟩) 16 16,.slice (some ⟨w.heap.size,36,none⟩) 32 32] 32)=wG at*
 generalize wF.heap.size=bw at*;refine aH ?_;refine fC 11 ?_;intro I E;go_wp2_with fail;have al:fZ [(some ⟨w.heap.size,0,none⟩,16,l0),(some ⟨aa,0,none⟩,1,[R]),(some ⟨w.heap.size,19,none⟩,16,an),(some ⟨w.heap.size,36,none⟩,32,ao)]=b2:=by rw[<-bu.out];simp[fZ]
 refine(JN [(some ⟨w.heap.size,0,none⟩,16,l0),(some ⟨aa,0,none⟩,1,[R]),(some ⟨w.heap.size,19,none⟩,16,an),(some ⟨w.heap.size,36,none⟩,32,ao)] bw 4 4 wG F J J ?hg ?hc ?hn ?hl).mono ?_
 case hg=>
  intro j bd hit
  match j,hit with
  |0,hit=>cases hit;unfold nS;simp only;rw[bk.out];exact BG.cell' F
  |1,hit=>cases hit;exact BG.cell' F
  |2,hit=>cases hit;unfold nS;simp only;rw[bl.out];exact BG.cell' F
  |3,hit=>cases hit;unfold nS;simp only;rw[bm.out];exact BG.cell' F
 case hc=>
  intro bd hit;simp only[mem_cons,not_mem_nil,or_false]at hit;rcases hit with rfl|rfl|rfl|rfl
  ·exact b0.ext ae
  ·exact k1.ext ae
  ·exact k4.ext ae
  ·exact k6.ext ae
 case hn=>
  intro bd hit;simp only[mem_cons,not_mem_nil,or_false]at hit;rcases hit with rfl|rfl|rfl|rfl<;>(intro h;cases h)
 case hl=>rw[al,ax.out];omega
 rw[al,ax.out];rintro e wH ⟨v,rfl,own,a6⟩;have ai:=aJ _ _ Z a6;obtain⟨bv,k5,rfl,b6,b7,b8,a_⟩:=nT own;have az:=O a_;clear own al a_;go_wp2_with fail;refine E _ _ ai ?_;clear E I Z a6;have Z:=ai;clear ai;refine aH ?_;refine fC 12 ?_;intro I E;go_wp2_with fail;refine(ba bv k5 wH az).mono ?_;rintro e bh ⟨rfl,a7⟩;replace Z:=aJ _ _ Z a7;go_wp2_with fail;refine E _ _ Z ?_;clear E I a7;refine aH ?_;have aE:=O (((iB bh).1 Z).blk ZA aF);have aq:=O ((iB bh).1 Z).base;clear Z iB aJ bP ac ZA EA ba az;refine iU 13 ?_;intro I E;go_wp2_with (refine bg F _ _ _ F F F aE bY aF aw b1 ?_);intro b9 a0 be;go_wp2_with fail;refine E _ _ trivial ?_;clear E I;obtain⟨bi,bj⟩:=aB a0 (be.ext aq J);clear a0 be aE aq;refine aH ?_;refine jR ?_;go_wp2;exact gG F F bi bY aw F ⟨F,bj⟩
section
open Go Go.RowKit
theorem dF{w:World}{g:Nat}{vs xs:aO}{T:TypeId}{off n:Nat}(h:ah w g vs T)(I:(vs.drop off).take n=xs):dP w ⟨g,off,none⟩ xs:=by
 intro j u E;rw[dn];refine h.cell' ?_;rw[<-I,List.getElem?_take]at E;split at E
 ·rwa[List.getElem?_drop]at E
 ·cases E
theorem vH{P:Program}{o:Oper}{a:Act}{t:TypeId}{y z:Operand}{c:Bool}{j u v:Value}{w:World}(E:o.op= .lookup t y z c)(I:a.eval y=j)(R:a.eval z=u)
 (h:(Instr.lookup t j u c).run P w= .ok v w):(execOp a.eval o).run P w= .ok (.value v) w:=by simp_all [execOp]
theorem SI{V:Type}(vv:V->Value)(d:V)(o:Option V):Eo vv (vv d) o=vv (o.getD d):=by cases o<;>rfl
theorem aV.aL(S:aV):S.v[0]? =some (.int .i64 (S.cnt:Int)):=F
theorem aV.rH(S:aV):S.v[1]? =some (.int .i64 S.tm):=F
theorem aV.tail(S:aV):S.v.drop 2=S.last.map Y++(S.ji.map Y++[.pointer (S.pol.map fun p=>⟨p.q,0,none⟩),.map (some S.gm),.map (some S.gk),.map (some S.ga)]):=F
theorem aV.last_at{S:aV}(h:S.last.length=32):(S.v.drop 2).take 32=S.last.map Y:=by grind [aV.tail,take_left',length_map]
theorem aV.aaq{S:aV}(h:S.last.length=32)(hf:S.ji.length=16):(S.v.drop 34).take 16=S.ji.map Y:=by
 have:S.v.drop 34=(S.v.drop 2).drop 32:=by rw[drop_drop]
 rw[this,aV.tail,drop_left' (by rw[length_map,h]),take_left' (by rw[length_map,hf])]
theorem aV.Ik{S:aV}(h:S.last.length=32)(hf:S.ji.length=16):S.v.drop 50=[.pointer (S.pol.map fun p=>⟨p.q,0,none⟩),.map (some S.gm),.map (some S.gk),.map (some S.ga)]:=by
 have:S.v.drop 50=((S.v.drop 2).drop 32).drop 16:=by rw[drop_drop,drop_drop]
 rw[this,aV.tail,drop_left' (by rw[length_map,h]),drop_left' (by rw[length_map,hf])]
theorem aV.CG{S:aV}(h:S.last.length=32)(hf:S.ji.length=16):S.v[50]? =some (.pointer (S.pol.map fun p=>⟨p.q,0,none⟩)):=by
 have:=congrArg (fun l=>l[0]?) (aV.Ik h hf);simpa using this
theorem aV.mD{S:aV}(h:S.last.length=32)(hf:S.ji.length=16):S.v[51]? =some (.map (some S.gm)):=by
 have:=congrArg (fun l=>l[1]?) (aV.Ik h hf);simpa using this
theorem aV.nV{S:aV}(h:S.last.length=32)(hf:S.ji.length=16):S.v[52]? =some (.map (some S.gk)):=by
 have:=congrArg (fun l=>l[2]?) (aV.Ik h hf);simpa using this
theorem aV.oQ{S:aV}(h:S.last.length=32)(hf:S.ji.length=16):S.v[53]? =some (.map (some S.ga)):=by
 have:=congrArg (fun l=>l[3]?) (aV.Ik h hf);simpa using this
theorem aV.len{S:aV}(h:S.last.length=32)(hf:S.ji.length=16):S.v.length=54:=by unfold aV.v;simp[h,hf]
theorem iF.Hi.ext{w w':World}{B:Nat}{r:iF}(h:r.Hi w B)(e:X w w'):r.Hi w' B:=⟨h.hl,h.nc,h.n16,h.sz,h.cell.ext' e⟩
theorem oG.Hi.ext{w w':World}{B:Nat}{r:oG}(h:r.Hi w B)(e:X w w'):r.Hi w' B:=
 ⟨h.blk.ext e,h.ge,h.hl,h.nc,h.n100,h.cell.ext' e,fun r j=>(h.rM r j).ext e,fun r j=>⟨(h.jF r j).1.ext' e,(h.jF r j).2.1.ext' e,(h.jF r j).2.2.ext' e⟩⟩
theorem dJ.ext{w w':World}{p:Nat}{S:aV}(h:dJ w p S)(e:X w w'):dJ w' p S:=
 {h with blk:=h.blk.ext e,mem:=h.mem.ext e,key:=h.key.ext e,app:=h.app.ext e,inn:=fun x j=>⟨(h.inn x j).1.ext e,(h.inn x j).2.1,fun y u=>⟨((h.inn x j).2.2 y u).1.ext e,((h.inn x j).2.2 y u).2⟩⟩,mr:=fun x j=>(h.mr x j).ext e,po:=fun P E=>(h.po P E).ext e}
theorem aar(w:World):(zeroValue 98).run prog w= .ok (iF.v iF.nil) w:=au
theorem aas(w:World):(zeroValue 159).run prog w= .ok (bC.va bC.zero) w:=au
section
variable {K V U:Type} [DecidableEq K] (f:V->U)
theorem Ll(hs:List (K×V))(k:K):jq k (hs.map fun x=>(x.1,f x.2))=jq k hs:=by
 unfold jq;rw[List.findIdx?_map];rfl
theorem EK(hs:List (K×V))(k:K):bW (hs.map fun x=>(x.1,f x.2)) k=(bW hs k).map f:=by
 unfold bW;rw[Ll];cases jq k hs with
 |none=>rfl
 |some i=>simp only[List.getElem?_map,Option.map_map];rfl
theorem Lm(hs:List (K×V))(k:K)(v:V):dU (hs.map fun x=>(x.1,f x.2)) k (f v)=(dU hs k v).map fun x=>(x.1,f x.2):=by
 unfold dU;rw[Ll];cases jq k hs with
 |none=>simp
 |some i=>simp[map_set]
theorem Lp(hs:List (K×V))(k:K):iQ (hs.map fun x=>(x.1,f x.2)) k=(iQ hs k).map fun x=>(x.1,f x.2):=by
 unfold iQ;rw[Ll];cases jq k hs with
 |none=>rfl
 |some i=>simp[KA]
end
noncomputable def aV.jO(S:aV)(id:aj):iF:=(bW S.ms id).getD .nil
noncomputable def aV.uI(S:aV)(id:aj):bC:=(bW S.ks id).getD .zero
theorem dJ.EL{w:World}{p:Nat}{S:aV}(h:dJ w p S){id:aj}(j:id.length=16)(c:Bool):
 (Instr.lookup 142 (.map (some S.gm)) (eX id) c).run prog w= .ok (if c then .tuple #[(S.jO id).v,.bool (bW S.ms id).isSome]else(S.jO id).v) w:=by
 have:=G9 vg underlying142 (aar w) h.mem h.em (show og id from j) c;rwa[SI]at this
theorem dJ.Lr{w:World}{p:Nat}{S:aV}(h:dJ w p S){id:aj}(j:id.length=16)(c:Bool):
 (Instr.lookup 143 (.map (some S.gk)) (eX id) c).run prog w= .ok (if c then .tuple #[(S.uI id).va,.bool (bW S.ks id).isSome]else(S.uI id).va) w:=by
 have:=G9 vg underlying143 (aas w) h.key h.ek (show og id from j) c;rwa[SI]at this
theorem dJ.SK{w:World}{p:Nat}{S:aV}(h:dJ w p S)(id:aj):(S.jO id).Hi w (p+1):=by
 unfold aV.jO;cases j:bW S.ms id with
 |none=>exact⟨F,Nat.le_refl _,aX,by simp[iF.nil],.inl F⟩
 |some r=>exact h.mr _ (BO j)
theorem dJ.Il{w:World}{p:Nat}{S:aV}(h:dJ w p S)(id:aj):(S.uI id).Ok:=by grind [aV.uI,bW,aV,dJ,bC.vk,BO]
end
def zb(n:Nat):aO:=(List.replicate n (0:UInt8)).map Y
def yR:eu:=⟨fO,none,0,0,[],0,⟨#[]⟩,fO,0,kN⟩
theorem aat:(prog.info? 108).map (fun i=>(i.zero,i.size,i.bytes))=some (some (.agg yR.v.toArray),68,120):=au
theorem aau:(prog.underlying 108).bind (fun d=>match d with| .struct j=>j.toList.mapM (fun f=>(prog.info? f.type).map fun i=>(f.offset,i.size))|_=>none)=some [(0,16),(16,1),(17,1),(18,1),(19,16),(35,1),(36,32)]:=au
theorem EM:(prog.info? 159).map (fun i=>(i.zero,i.size,i.bytes))=some (some (.agg bC.zero.v.toArray),84,120):=au
theorem aav:(prog.underlying 159).bind (fun d=>match d with| .struct j=>j.toList.mapM (fun f=>(prog.info? f.type).map fun i=>(f.offset,i.size))|_=>none)=some [(0,16),(16,1),(17,1),(18,32),(50,1),(51,1),(52,32)]:=au
theorem aaw(x:aj)(sa:aN)(sn sc:Nat)(l:aT)(act:Int)(y:aj)(t:Int)(z:aj)(j:x.length=16)(u:y.length=16)(E:z.length=32):prog.built 108 [(0,Value.agg (x.map Y).toArray),(1,Value.slice sa sn sc),(2,Value.int .i64 act),(4,Value.agg (y.map Y).toArray),(5,Value.int .i64 t),(6,Value.agg (z.map Y).toArray)]=some (eu.v ⟨x,sa,sn,sc,l,act,⟨#[]⟩,y,t,z⟩).toArray:=by
 obtain⟨ad,R,aa,ac,ab⟩:=info_parts aat;have hf:=aau;rw[underlying108]at hf;simp only[Option.bind_some]at hf;unfold Program.built;rw[R,underlying108];simp only[aa,hf];have g0:(Value.agg yR.v.toArray).cells=((([]:aO))++(zb 16)++([Value.slice none 0 0]++[Value.int .i64 0]++[Value.string ⟨#[]⟩]++(zb 16)++[Value.int .i64 0]++(zb 32))).toArray:=F;rw[g0,jh (([]:aO)) (zb 16) ([Value.slice none 0 0]++[Value.int .i64 0]++[Value.string ⟨#[]⟩]++(zb 16)++[Value.int .i64 0]++(zb 32)) F (by simp[zb,j,u,E]) (by simp[Value.cells,j,u,E]) (by simp[zb])];have g1:(([]:aO))++(Value.agg (x.map Y).toArray).cells.toList++([Value.slice none 0 0]++[Value.int .i64 0]++[Value.string ⟨#[]⟩]++(zb 16)++[Value.int .i64 0]++(zb 32))=((x.map Y))++[Value.slice none 0 0]++([Value.int .i64 0]++[Value.string ⟨#[]⟩]++(zb 16)++[Value.int .i64 0]++(zb 32)):=by simp[Value.cells,zb]
 rw[g1,jh ((x.map Y)) [Value.slice none 0 0] ([Value.int .i64 0]++[Value.string ⟨#[]⟩]++(zb 16)++[Value.int .i64 0]++(zb 32)) F (by simp[zb,j,u,E]) (by simp[Value.cells,j,u,E]) (by simp[zb])];have I:((x.map Y))++(Value.slice sa sn sc).cells.toList++([Value.int .i64 0]++[Value.string ⟨#[]⟩]++(zb 16)++[Value.int .i64 0]++(zb 32))=((x.map Y)++[Value.slice sa sn sc])++[Value.int .i64 0]++([Value.string ⟨#[]⟩]++(zb 16)++[Value.int .i64 0]++(zb 32)):=by simp[Value.cells,zb]
 rw[I,jh ((x.map Y)++[Value.slice sa sn sc]) [Value.int .i64 0] ([Value.string ⟨#[]⟩]++(zb 16)++[Value.int .i64 0]++(zb 32)) F (by simp[zb,j,u,E]) (by simp[Value.cells,j,u,E]) (by simp[zb])];have g3:((x.map Y)++[Value.slice sa sn sc])++(Value.int .i64 act).cells.toList++([Value.string ⟨#[]⟩]++(zb 16)++[Value.int .i64 0]++(zb 32))=((x.map Y)++[Value.slice sa sn sc]++[Value.int .i64 act]++[Value.string ⟨#[]⟩])++(zb 16)++([Value.int .i64 0]++(zb 32)):=by simp[Value.cells,zb]
 rw[g3,jh ((x.map Y)++[Value.slice sa sn sc]++[Value.int .i64 act]++[Value.string ⟨#[]⟩]) (zb 16) ([Value.int .i64 0]++(zb 32)) F (by simp[zb,j,u,E]) (by simp[Value.cells,j,u,E]) (by simp[zb])];have g4:((x.map Y)++[Value.slice sa sn sc]++[Value.int .i64 act]++[Value.string ⟨#[]⟩])++(Value.agg (y.map Y).toArray).cells.toList++([Value.int .i64 0]++(zb 32))=((x.map Y)++[Value.slice sa sn sc]++[Value.int .i64 act]++[Value.string ⟨#[]⟩]++(y.map Y))++[Value.int .i64 0]++((zb 32)):=by simp[Value.cells,zb]
 rw[g4,jh ((x.map Y)++[Value.slice sa sn sc]++[Value.int .i64 act]++[Value.string ⟨#[]⟩]++(y.map Y)) [Value.int .i64 0] ((zb 32)) F (by simp[zb,j,u,E]) (by simp[Value.cells,j,u,E]) (by simp[zb])];have g5:((x.map Y)++[Value.slice sa sn sc]++[Value.int .i64 act]++[Value.string ⟨#[]⟩]++(y.map Y))++(Value.int .i64 t).cells.toList++((zb 32))=((x.map Y)++[Value.slice sa sn sc]++[Value.int .i64 act]++[Value.string ⟨#[]⟩]++(y.map Y)++[Value.int .i64 t])++(zb 32)++(([]:aO)):=by simp[Value.cells,zb]
 rw[g5,jh ((x.map Y)++[Value.slice sa sn sc]++[Value.int .i64 act]++[Value.string ⟨#[]⟩]++(y.map Y)++[Value.int .i64 t]) (zb 32) (([]:aO)) F (by simp[zb,j,u,E]) (by simp[Value.cells,j,u,E]) (by simp[zb])];rw[Instr.fill];simp[Value.cells,zb,eu.v]
theorem aax{o:Oper}{a:Act}{j u E I R aa:Operand}{x:aj}{sa:aN}{sn sc:Nat}{l:aT}{act:Int}{y:aj}{t:Int}{z:aj}(al:o.op= .build 108 #[(0,j),(1,u),(2,E),(4,I),(5,R),(6,aa)])(ab:a.eval j=Value.agg (x.map Y).toArray)(ac:a.eval u=Value.slice sa sn sc)(e2:a.eval E=Value.int .i64 act)(ad:a.eval I=Value.agg (y.map Y).toArray)(ae:a.eval R=Value.int .i64 t)(af:a.eval aa=Value.agg (z.map Y).toArray)(am:x.length=16)(an:y.length=16)(ao:z.length=32)(w:World):(execOp a.eval o).run prog w= .ok (.value (.agg (eu.v ⟨x,sa,sn,sc,l,act,⟨#[]⟩,y,t,z⟩).toArray)) w:=by
 have h:=run_build (P:=prog) w 108 #[(0,Value.agg (x.map Y).toArray),(1,Value.slice sa sn sc),(2,Value.int .i64 act),(4,Value.agg (y.map Y).toArray),(5,Value.int .i64 t),(6,Value.agg (z.map Y).toArray)] _ (aaw x sa sn sc l act y t z am an ao);have ai:(#[(0,j),(1,u),(2,E),(4,I),(5,R),(6,aa)].map fun(r:Nat×Operand)=>(r.1,a.eval r.2))= #[(0,Value.agg (x.map Y).toArray),(1,Value.slice sa sn sc),(2,Value.int .i64 act),(4,Value.agg (y.map Y).toArray),(5,Value.int .i64 t),(6,Value.agg (z.map Y).toArray)]:=by simp[ab,ac,e2,ad,ae,af]
 unfold execOp;simp only[al,Sem.run_bind];have ag:(Instr.build 108 (#[(0,j),(1,u),(2,E),(4,I),(5,R),(6,aa)].map fun(r:Nat×Operand)=>(r.1,a.eval r.2))).run prog w= .ok (.agg (eu.v ⟨x,sa,sn,sc,l,act,⟨#[]⟩,y,t,z⟩).toArray) w:=by rw[ai];exact h
 rw[ag];rfl
theorem aay(x:aj)(E:ByteArray)(y:aj)(es:Int)(j:x.length=16)(u:y.length=32):prog.built 159 [(0,Value.agg (x.map Y).toArray),(1,Value.string E),(3,Value.agg (y.map Y).toArray),(5,Value.int .i64 es)]=some (bC.v ⟨x,E,0,y,false,es,kN⟩).toArray:=by
 obtain⟨ad,R,aa,ac,ab⟩:=info_parts EM;have hf:=aav;rw[underlying159]at hf;simp only[Option.bind_some]at hf;unfold Program.built;rw[R,underlying159];simp only[aa,hf];have g0:(Value.agg bC.zero.v.toArray).cells=((([]:aO))++(zb 16)++([Value.string ⟨#[]⟩]++[Value.int .i64 0]++(zb 32)++[Value.bool false]++[Value.int .i64 0]++(zb 32))).toArray:=F;rw[g0,jh (([]:aO)) (zb 16) ([Value.string ⟨#[]⟩]++[Value.int .i64 0]++(zb 32)++[Value.bool false]++[Value.int .i64 0]++(zb 32)) F (by simp[zb,j,u]) (by simp[Value.cells,j,u]) (by simp[zb])];have g1:(([]:aO))++(Value.agg (x.map Y).toArray).cells.toList++([Value.string ⟨#[]⟩]++[Value.int .i64 0]++(zb 32)++[Value.bool false]++[Value.int .i64 0]++(zb 32))=((x.map Y))++[Value.string ⟨#[]⟩]++([Value.int .i64 0]++(zb 32)++[Value.bool false]++[Value.int .i64 0]++(zb 32)):=by simp[Value.cells,zb]
 rw[g1,jh ((x.map Y)) [Value.string ⟨#[]⟩] ([Value.int .i64 0]++(zb 32)++[Value.bool false]++[Value.int .i64 0]++(zb 32)) F (by simp[zb,j,u]) (by simp[Value.cells,j,u]) (by simp[zb])];have I:((x.map Y))++(Value.string E).cells.toList++([Value.int .i64 0]++(zb 32)++[Value.bool false]++[Value.int .i64 0]++(zb 32))=((x.map Y)++[Value.string E]++[Value.int .i64 0])++(zb 32)++([Value.bool false]++[Value.int .i64 0]++(zb 32)):=by simp[Value.cells,zb]
 rw[I,jh ((x.map Y)++[Value.string E]++[Value.int .i64 0]) (zb 32) ([Value.bool false]++[Value.int .i64 0]++(zb 32)) F (by simp[zb,j,u]) (by simp[Value.cells,j,u]) (by simp[zb])];have g3:((x.map Y)++[Value.string E]++[Value.int .i64 0])++(Value.agg (y.map Y).toArray).cells.toList++([Value.bool false]++[Value.int .i64 0]++(zb 32))=((x.map Y)++[Value.string E]++[Value.int .i64 0]++(y.map Y)++[Value.bool false])++[Value.int .i64 0]++((zb 32)):=by simp[Value.cells,zb]
 rw[g3,jh ((x.map Y)++[Value.string E]++[Value.int .i64 0]++(y.map Y)++[Value.bool false]) [Value.int .i64 0] ((zb 32)) F (by simp[zb,j,u]) (by simp[Value.cells,j,u]) (by simp[zb])];rw[Instr.fill];simp[Value.cells,zb,bC.v,kN]
theorem aaz{o:Oper}{a:Act}{u E I R:Operand}{x:aj}{j:ByteArray}{y:aj}{es:Int}(ag:o.op= .build 159 #[(0,u),(1,E),(3,I),(5,R)])(aa:a.eval u=Value.agg (x.map Y).toArray)(ab:a.eval E=Value.string j)(ac:a.eval I=Value.agg (y.map Y).toArray)(ad:a.eval R=Value.int .i64 es)(ai:x.length=16)(al:y.length=32)(w:World):(execOp a.eval o).run prog w= .ok (.value (.agg (bC.v ⟨x,j,0,y,false,es,kN⟩).toArray)) w:=by
 have h:=run_build (P:=prog) w 159 #[(0,Value.agg (x.map Y).toArray),(1,Value.string j),(3,Value.agg (y.map Y).toArray),(5,Value.int .i64 es)] _ (aay x j y es ai al);have af:(#[(0,u),(1,E),(3,I),(5,R)].map fun(r:Nat×Operand)=>(r.1,a.eval r.2))= #[(0,Value.agg (x.map Y).toArray),(1,Value.string j),(3,Value.agg (y.map Y).toArray),(5,Value.int .i64 es)]:=by simp[aa,ab,ac,ad]
 unfold execOp;simp only[ag,Sem.run_bind];have ae:(Instr.build 159 (#[(0,u),(1,E),(3,I),(5,R)].map fun(r:Nat×Operand)=>(r.1,a.eval r.2))).run prog w= .ok (.agg (bC.v ⟨x,j,0,y,false,es,kN⟩).toArray) w:=by rw[af];exact h
 rw[ae];rfl
theorem SL{x:aj}(h:x.length=16)(w:World):(binOp .eql 29 (.agg (x.map Y).toArray) (.agg (List.replicate 16 (.int .u8 0)).toArray)).run prog w= .ok (.bool (decide (x=fO))) w:=by
 have u:(List.replicate 16 (Value.int .u8 0))=fO.map Y:=by simp[fO,Y]
 rw[u,O4 underlying29 x fO h (by simp[fO]) w]
 congr 1
 by_cases j:x=fO<;>simp[j]
theorem ay.Ls{b:ay}(h:b.member.length=16):(b.v.drop 1).take 16=b.member.map Y:=by grind [ay.v]
theorem Lu(p:Nat)(S:aV)(e:aG)(b:ay)(w:World)(h:dJ w p S)(I:b.member.length=16)(hc:b.commit.length=32):
 nW 124 #[.pointer (some ⟨p,0,none⟩),.agg e.v.toArray,.agg b.v.toArray] w (.int .i64 (S.p.EG e b.p)):=by
 obtain⟨nA,an,am,be,ax,a7⟩:=iq h (show(b.member.map Y).length=16 by rw[length_map,I]) (ay.Ls I) (fun j (a_:X w j)=>(h.ext a_).EL (id:=b.member) I true) (fun j=>SL I j) (ay.J_ (b:=b) I hc);have a3:bW S.p.ms b.member=(bW S.ms b.member).map iF.l:=EK iF.l S.ms b.member;have a4:S.p.ms.length=S.ms.length:=by show(S.ms.map _).length=_;rw[length_map]
 obtain⟨V,ab⟩:=aC (S.p.EG e b.p);rw[ab];unfold dw.EG at ab;rw[show b.p.member=b.member from F,a3,a4,show S.p.cnt=S.cnt from F,show b.p.count=b.count from F,Option.isSome_map,Option.isNone_map,show(bW S.ms b.member).isNone= !(bW S.ms b.member).isSome by cases bW S.ms b.member<;>rfl]at ab;obtain⟨HV,bh⟩:=aB ab (aG.at2 e);have bc:=O h.blk;have ad:=O (And.intro h.hl h.hf);have tT:=O h.mem;clear ab h I hc a3 a4;generalize e.v=ba at*;generalize b.v=a9 at*;go_enter func124,ntmps124;go_upto_region 1 with fail;generalize iX:World.alloc (World.alloc w _) _=R;have a1:ah R w.heap.size ba 34:=by rw[<-iX];exact(ah.aI F F).alloc _
 have a0:ah R (w.heap.size+1) a9 101:=by rw[<-iX];exact ah.aI (gU _ _).symm rfl
 have ap:X w R:=by rw[<-iX];exact((X.refl w).alloc _).alloc _
 obtain⟨aw,al,EA,ao⟩:=bU a1 a0 ap (bc.ext ap);clear iX a1 a0 ap;generalize w.heap.size+1=G5 at*;generalize w.heap.size=G4 at*;obtain⟨C,iB,aJ⟩:=jJ R;have a2:∀j,C j->j.cell? ⟨p,51,none⟩=some (.map (some S.gm)):=fun j aa=>(ao.ext ((iB j).1 aa)).cell' (aV.mD ad.1 ad.2);refine wp_region_held_drew (S:=C) au ((iB _).2 (X.refl R).drew) (fun Z=> ?_);refine aA 0 ?_;refine aA 1 ?_;refine aA 2 ?_;refine dA 3 (a2) ?_;refine aA 4 ?_;refine bD 5 F (bf F (fun j h=>bQ F F (dF (al.ext ((iB j).1 h)) am) dh an)) ?_;refine bD 6 F (bf F (fun j h=>vH F F F (be j (EA.ext ((iB j).1 h))))) ?_;simp only[if_true];generalize (bW S.ms b.member).isSome=a5 at*;generalize (S.jO b.member).v=bx at*;refine aA 7 ?_;refine aA 8 ?_;refine aA 9 ?_;refine aA 10 ?_;refine aA 11 ?_;refine dH ?_;have E:=(iB _).1 Z;generalize bi:World.drew R=wB at E⊢;obtain⟨a8,ac,aE,u⟩:=bU (aw.ext E) (al.ext E) (ao.ext E) (EA.ext E);have bz:=a8.cell' bh;have bm:=fun ty=>YN (ty:=ty) underlying142 (tT.ext u);have b0:=aE.cell' (aV.mD ad.1 ad.2);have bl:=aE.cell' (aV.aL S);have b1:=ac.cell' a7;clear bi E aw EA ao al Z aJ iB a2;generalize e.act=act at*;by_cases af:act=2
 ·subst af;cases a5 with
  |true=>
   go_wp2_with fail;go_ret;exact⟨by rw[<-HV.out];rfl,u⟩
  |false=>
   have aq:=ax.out;obtain⟨zb,ar⟩:=aC (decide (b.member=fO));rw[ar]at aq;have az:=O aq;have tQ:=O (show(if zb=true then(2:Int)else 0)=V by
    rw[<-HV.out,<-ar];by_cases bd:b.member=fO<;>simp[bd])
   clear aq ar HV ax;cases zb with
   |true=>
    go_wp2_with (first|(refine bF F (bQ F F (dF ac am) dh an) ?_)|(refine bF F (jm F F F oD az _) ?_));go_ret;exact⟨by rw[<-tQ.out];rfl,u⟩
   |false=>
    go_wp2_with (first|(refine bF F (bQ F F (dF ac am) dh an) ?_)|(refine bF F (jm F F F oD az _) ?_));go_ret;exact⟨by rw[<-tQ.out];rfl,u⟩
 have bo:(act==2)=false:=by simp;exact af
 have bp:decide (act=2)=false:=aP af;by_cases ag:act=3
 ·subst ag;cases a5 with
  |false=>
   go_wp2_with fail;go_ret;exact⟨by rw[<-HV.out];rfl,u⟩
  |true=>
   generalize S.ms.length=N at*;by_cases ai:N=1
   ·subst ai;go_wp2_with fail;go_ret;exact⟨by rw[<-HV.out];rfl,u⟩
   ·have a6:((N:Int)==1)=false:=by simp;omega
    have r2:decide ((N:Int)=1)=false:=aP J;have bw:decide (N=1)=false:=aP ai;have tQ:=O (show(0:Int)=V by rw[<-HV.out];simp[ai]);clear HV ai;go_wp2_with fail;go_ret;exact⟨by rw[<-tQ.out];rfl,u⟩
 have br:(act==3)=false:=by simp;exact ag
 have bt:decide (act=3)=false:=aP ag;by_cases ae:act=12
 ·subst ae;have tQ:=O (show(if(S.cnt:Int)<b.count then(4:Int)else 0)=V by rw[<-HV.out];simp);clear HV;generalize S.cnt=N at*;generalize b.count=M at*;obtain⟨C,iB,aJ⟩:=jJ wB;have bk:∀j,C j->j.cell? ⟨G5,56,none⟩=some (.int .i64 M):=fun j aa=>(ac.ext ((iB j).1 aa)).cell' a7;have bj:∀j,C j->j.cell? ⟨p,0,none⟩=some (.int .i64 (N:Int)):=fun j aa=>gW bl ((iB j).1 aa);go_upto_region 14 with fail;refine wp_region_held_drew (S:=C) au ((iB _).2 (X.refl wB).drew) (fun Z=> ?_);refine aA 0 ?_;refine dA 1 (bk) ?_;refine aA 2 ?_;refine aA 3 ?_;refine aA 4 ?_;refine dA 5 (bj) ?_;refine aA 6 ?_;refine dH ?_;have E:=(iB _).1 Z;by_cases j3:(N:Int)<M
  ·have a6:decide (M>(N:Int))=true:=aQ j3;have r2:decide ((N:Int)<M)=true:=aQ j3;rw[if_pos j3]at tQ;go_wp2_with fail;go_ret;exact⟨by rw[<-tQ.out];rfl,u.ext E⟩
  ·have a6:decide (M>(N:Int))=false:=aP j3;have r2:decide ((N:Int)<M)=false:=aP j3;rw[if_neg j3]at tQ;go_wp2_with fail;go_ret;exact⟨by rw[<-tQ.out];rfl,u.ext E⟩
 have bu:(act==12)=false:=by simp;exact ae
 have bv:decide (act=12)=false:=aP ae;have tQ:=O (show(0:Int)=V by rw[<-HV.out];simp[af,ag,ae]);go_wp2_with fail;go_ret;exact⟨by rw[<-tQ.out];rfl,u⟩
section
open Go Go.RowKit
theorem aaA(p:aj->Bool)(g:Nat)(am:Array Value)(ls:List (aj))(a:aN)(n c:Nat)(w:World)(ar:∀ac w,(callFunc g ac).run prog w= .ok (.enter g ac) w)(hn:ls.length=n)(Cw:n<=140737488355328)(ae:oP ls)(ai:aK w a (dB ls))
 (af:∀y∈ls,∀w',X w w'->Calls prog g (#[.agg (y.map Y).toArray]++am) w' fun e aq=>e= .returned (.bool (p y))/\X w' aq):
 Calls prog 231 #[.slice a n c,.func (.func g) #[] am] w fun e w'=>∃z:Int,e= .returned (.int .i64 z)/\decide (0<=z)=ls.any p/\X w w':=by
 obtain⟨aa,ap,ao,R⟩:=bU hn ai af ae;clear hn ai af ae;go_enter func231,ntmps231;go_wp2;go_loopw [8] (fun i wr=>∃k:Nat,k<=n/\i= .int .i64 (k:Int)/\(ls.take k).any p=false/\X w wr) (fun i _=>n - (intOf i).toNat)
 case atStart=>exact⟨0,J,F,aF,X.refl _⟩
 case round=>
  obtain⟨k,hk,rfl,ou,ad⟩:=hrel;obtain⟨j,Cu⟩:=aB ad ou;clear ad ou;by_cases j3:k<n
  ·obtain⟨x,pQ⟩:∃x,ls[k]? =some x:=⟨ls[k]'(by rw[aa.out];exact j3),aF⟩;have al:x.length=16:=R.out x (mem_of_getElem? pQ);obtain⟨A,rfl,ag⟩:=Gm ap R pQ;have rz:=O ((ag k x pQ).ext j);have ab:Hid ((x.map Y).length=16):=O (by rw[length_map,al]);have Fj:=O (ao x (mem_of_getElem? pQ) wr j);have Cr:(ls.take (k+1)).any p=p x:=by rw[take_add_one,pQ,any_append,Cu.out];simp
   have I:=O Cr;have Gc:p x=true->ls.any p=true:=fun h=>any_eq_true.2 ⟨x,mem_of_getElem? pQ,h⟩;clear ag pQ Cr al;cases u:p x with
   |true=>
    rw[u]at Fj;have E:=O (Gc u);clear Gc u I;go_wp2_with (first|(refine bF F (fP (i:=k) F F F underlying99 zO j3 _) ?_)|(refine bF F (bQ F F rz dh ab) ?_));refine Fj.mono ?_;rintro e w' ⟨rfl,e2⟩;go_wp2_with fail;go_ret;exact⟨_,F,by rw[E.out];exact aQ J,j.ext e2⟩
   |false=>
    rw[u]at Fj I;clear Gc u;go_wp2_with (first|(refine bF F (fP (i:=k) F F F underlying99 zO j3 _) ?_)|(refine bF F (bQ F F rz dh ab) ?_));refine Fj.mono ?_;rintro e w' ⟨rfl,e2⟩;go_wp2_with fail;have an:=O (j.ext e2);clear e2;go_roundw
    case rel=>exact⟨k+1,J,by go_num,I,an⟩
    case measure=>simp[intOf];omega
  ·obtain rfl:k=n:=J;have xL:=Cu.out;rw[take_of_length_le (by rw[aa.out];exact Nat.le_refl _)]at xL;have E:=O xL;clear xL;go_wp2;go_ret;exact⟨-1,F,by rw[E.out];rfl,j⟩
theorem aaB(p:aj->Bool)(g:Nat)(j:Array Value)(ls:List (aj))(a:aN)(n c:Nat)(w:World)(I:∀u w,(callFunc g u).run prog w= .ok (.enter g u) w)(hn:ls.length=n)(Cw:n<=140737488355328)(R:oP ls)(ac:aK w a (dB ls))
 (ab:∀y∈ls,∀w',X w w'->Calls prog g (#[.agg (y.map Y).toArray]++j) w' fun e af=>e= .returned (.bool (p y))/\X w' af):
 nW 180 #[.slice a n c,.func (.func g) #[] j] w (.bool (ls.any p)):=by
 have aa:=O (aaA p g j ls a n c w I hn Cw R ac ab);clear ab ac hn I R;generalize ls.any p=b at*;generalize Value.func (.func g) #[] j=ag at*;go_enter func180,ntmps180;go_wp2_with fail;refine aa.mono ?_;rintro e ai ⟨z,rfl,ae,E⟩;have ad:=O E;clear E aa;go_wp2_with fail;go_ret;exact⟨by first|rfl|rw[ae],ad⟩
theorem aaC(p g:Nat)(S:aV)(id:aj)(w:World)(h:dJ w p S)(R:id.length=16)(hb:w.cell? ⟨g,0,none⟩=some (.pointer (some ⟨p,0,none⟩))):
 nW 181 #[.agg (id.map Y).toArray,.pointer (some ⟨g,0,none⟩)] w (.bool (bW S.ms id).isNone):=by
 obtain⟨ag,aq⟩:=aB (show(id.map Y).length=16 by rw[length_map,R]) (fun j (an:X w j)=>(h.ext an).EL (id:=id) R true);have ap:=O h.blk;obtain⟨aa,af⟩:=aB (And.intro h.hl h.hf) hb;have ac:(bW S.ms id).isNone= !(bW S.ms id).isSome:=by cases bW S.ms id<;>rfl
 rw[ac];clear h R hb ac;generalize (bW S.ms id).isSome=ar at*;generalize (S.jO id).v=aw at*;go_enter func181,ntmps181;go_upto_region 1 with fail;generalize iX:World.alloc w _=E;have ab:ah E w.heap.size (id.map Y) 29:=by rw[<-iX];exact ah.aI F F
 have u:X w E:=by rw[<-iX];exact(X.refl w).alloc _
 obtain⟨ad,EA,ai,ae⟩:=bU ab u (ap.ext u) (gW af u);clear iX ab u;generalize w.heap.size=G2 at*;obtain⟨C,iB,aJ⟩:=jJ E;have al:∀j,C j->j.cell? ⟨p,51,none⟩=some (.map (some S.gm)):=fun j I=>(ai.ext ((iB j).1 I)).cell' (aV.mD aa.1 aa.2);have am:∀j,C j->j.cell? ⟨g,0,none⟩=some (.pointer (some ⟨p,0,none⟩)):=fun j I=>gW ae ((iB j).1 I);refine wp_region_held_drew (S:=C) au ((iB _).2 (X.refl E).drew) (fun Z=> ?_);refine dA 0 (am) ?_;refine aA 1 ?_;refine aA 2 ?_;refine dA 3 (al) ?_;refine bD 4 F (oC F 29 _ F F (fun j h=>ad.ext ((iB j).1 h)) dh ag) ?_;refine bD 5 F (bf F (fun j h=>vH F F F (aq j (EA.ext ((iB j).1 h))))) ?_;simp only[if_true];refine aA 6 ?_;refine aA 7 ?_;refine aA 8 ?_;refine aA 9 ?_;refine aA 10 ?_;refine dH ?_;have ao:=(iB _).1 Z;go_wp2_with fail;go_ret;exact⟨F,EA.ext ao⟩
section
variable {k:bC} (h:k.Ok)
include h
theorem bC.Io:k.v.drop 16= .string k.label:: .int .i64 k.epoch::(k.commit.map Y++(.bool k.rev:: .int .i64 k.esc::k.shared.map Y)):=by
 unfold bC.v;rw[drop_left' (by rw[length_map,h.hk])]
theorem bC.LC:k.v.drop 50= .bool k.rev:: .int .i64 k.esc::k.shared.map Y:=by
 have:k.v.drop 50=(k.v.drop 16).drop 34:=by rw[drop_drop]
 rw[this,bC.Io h,drop_succ_cons,drop_succ_cons,drop_left' (by rw[length_map,h.hc])]
theorem bC.KI:k.v[16]? =some (.string k.label):=by
 have:=congrArg (fun l=>l[0]?) (bC.Io h);simpa using this
theorem bC.pI:k.v[17]? =some (.int .i64 k.epoch):=by
 have:=congrArg (fun l=>l[1]?) (bC.Io h);simpa using this
theorem bC.CG:k.v[50]? =some (.bool k.rev):=by
 have:=congrArg (fun l=>l[0]?) (bC.LC h);simpa using this
theorem bC.mD:k.v[51]? =some (.int .i64 k.esc):=by
 have:=congrArg (fun l=>l[1]?) (bC.LC h);simpa using this
theorem bC.F4:(k.v.drop 0).take 16=k.key.map Y:=by
 unfold bC.v;rw[drop_zero,take_left' (by rw[length_map,h.hk])]
theorem bC.CJ:(k.v.drop 18).take 32=k.commit.map Y:=by
 have:k.v.drop 18=(k.v.drop 16).drop 2:=by rw[drop_drop]
 rw[this,bC.Io h,drop_succ_cons,drop_succ_cons,drop_zero,take_left' (by rw[length_map,h.hc])]
theorem bC.LD:(k.v.drop 52).take 32=k.shared.map Y:=by
 have:k.v.drop 52=(k.v.drop 50).drop 2:=by rw[drop_drop]
 rw[this,bC.LC h,drop_succ_cons,drop_succ_cons,drop_zero,take_of_length_le (by rw[length_map,h.hs];exact Nat.le_refl _)]
end
theorem ay.CJ{b:ay}(h:b.member.length=16)(hc:b.commit.length=32):(b.v.drop 19).take 32=b.commit.map Y:=by
 unfold ay.v;rw[drop_succ_cons,show 18=16+2 by rfl,<-drop_drop,drop_left' (by rw[length_map,h]),drop_succ_cons,drop_succ_cons,drop_zero,take_left' (by rw[length_map,hc])]
theorem LG{x y:aj}(j:x.length=32)(u:y.length=32)(w:World):(binOp .neq 31 (.agg (x.map Y).toArray) (.agg (y.map Y).toArray)).run prog w= .ok (.bool (decide (x≠y))) w:=by
 rw[vY underlying31 x y j u w]
 congr 1
 by_cases h:x=y<;>simp[h]
theorem pX:iH prog 159 84:=⟨⟨_,underlying159,F⟩,au⟩
theorem CO:prog.eqGuardType prog.depth 31=false:=au
theorem aaD(p:Nat)(S:aV)(e:aG)(b:ay)(k:bC)(w:World)(h:dJ w p S)(hf:b.Fit)(br:aK w b.ha (dB b.mK))(hk:k.Ok):
 nW 125 #[.pointer (some ⟨p,0,none⟩),.agg e.v.toArray,.agg b.v.toArray,.agg k.v.toArray] w (.int .i64 (S.p.Ki e b.p k)):=by
 obtain⟨nA,a2,bw,a3,a4,ar,bd,be⟩:=jg h hf br (fun a8=>LG hf.hcm hk.hc a8) (fun a8=>LG hf.hcm hk.hs a8) (show(b.commit.map Y).length=32 by rw[length_map,hf.hcm]) (show(k.commit.map Y).length=32 by rw[length_map,hk.hc]) (show(k.shared.map Y).length=32 by rw[length_map,hk.hs]);obtain⟨aq,ba,bc,b9,b',ca,cb,bu⟩:=jg (ay.CJ hf.hm hf.hcm) (bC.CJ hk) (bC.LD hk) (ay.Bv (b:=b) hf.hm hf.hcm) (ay.J8 (b:=b) hf.hm hf.hcm) (ay.J9 (b:=b) hf.hm hf.hcm) (ay.Ko (b:=b) hf.hm hf.hcm) (bC.pI hk);obtain⟨b7,b5⟩:=aB (bC.mD hk) (aG.at2 e);have Gc:b.mK.any (fun h=>(bW S.p.ms h).isNone)=b.mK.any (fun h=>(bW S.ms h).isNone):=by
  congr 1;funext h;rw[show bW S.p.ms h=(bW S.ms h).map iF.l from EK iF.l S.ms h,Option.isNone_map]
 have bt:(b.mK.length:Int)=(b.hn:Int):=by rw[hf.hl]
 have cd:b.hn<=256:=hf.vZ;obtain⟨V,ai⟩:=aC (S.p.Ki e b.p k);rw[ai];unfold dw.Ki at ai;rw[show b.p.epoch=b.epoch from F,show b.p.purpose=b.purpose from F,show b.p.need=b.need from F,show b.p.mK=b.mK from F,show b.p.commit=b.commit from F,Gc,bt]at ai;obtain⟨u,bp⟩:=Int.eq_ofNat_of_zero_le hk.e0;have cc:u<=4294967295:=by have:=hk.e1;omega
 rw[bp]at ai bu;have HV:=O ai;clear ai h hf br hk Gc bt bp;generalize e.v=b0 at*;generalize b.v=bz at*;generalize k.v=kv at*;generalize b.epoch=j at*;generalize b.purpose=ad at*;generalize b.need=bn at*;generalize k.esc=af at*;generalize e.act=act at*;go_enter func125,ntmps125;go_upto_region 1 with fail;generalize iX:World.alloc (World.alloc (World.alloc (World.alloc w _) _) _) _=al;have bk:ah al w.heap.size [.pointer (some ⟨p,0,none⟩)] 25:=by rw[<-iX];exact(((ah.aI F F).alloc _).alloc _).alloc _
 have bi:ah al (w.heap.size+1) b0 34:=by rw[<-iX];exact((ah.aI (gU _ _).symm rfl).alloc _).alloc _
 have bh:ah al (w.heap.size+2) bz 101:=by rw[<-iX];exact(ah.aI (by rw[gU,gU]) F).alloc _
 have bj:ah al (w.heap.size+3) kv 159:=by rw[<-iX];exact ah.aI (by rw[gU,gU,gU]) F
 have bm:X w al:=by rw[<-iX];exact((((X.refl w).alloc _).alloc _).alloc _).alloc _
 obtain⟨bv,ag,am,EA⟩:=bU bk bh bj bm;have cn:=bi.cell' b5;clear iX bk bh bj bi bm;generalize w.heap.size+3=G7 at*;generalize w.heap.size+2=G6 at*;generalize w.heap.size+1=G5 at*;generalize w.heap.size=G4 at*;have co:=ag.cell' b9;have cp:=ag.cell' b';have cq:=ag.cell' ca;have cr:=ag.cell' cb;have cs:=am.cell' bu;have ct:=am.cell' b7;by_cases ax:act=5
 ·subst ax;have ce:IntKind.i64.wrap ((u:Int)+1)=(u:Int)+1:=IntWalk.i64_in _ J;have tQ:=O (show(if j≠(u:Int)+1 then(4:Int)else 0)=V by rw[<-HV.out];simp);by_cases R:j=(u:Int)+1
  ·have b8:(j != (u:Int)+1)=false:=by simp[R]
   have E:=O (show(0:Int)=V by rw[<-tQ.out];simp[R]);clear HV tQ R;go_wp2_with fail;go_ret;exact⟨by rw[<-E.out];rfl,EA⟩
  ·have b8:(j != (u:Int)+1)=true:=by simp;exact R
   have r2:decide (j=(u:Int)+1)=false:=aP R;have E:=O (show(4:Int)=V by rw[<-tQ.out];simp[R]);clear HV tQ R;go_wp2_with fail;go_ret;exact⟨by rw[<-E.out];rfl,EA⟩
 have ch:(act==5)=false:=by simp;exact ax
 have ci:decide (act=5)=false:=aP ax;by_cases az:act=6
 ·subst az;have tQ:=O (show(if(u:Int)<j then(4:Int)else if ad≠2/\j≠(u:Int)then 15 else 0)=V by rw[<-HV.out];simp);by_cases I:(u:Int)<j
  ·skip
   have ao:decide ((u:Int)<j)=true:=by simp;omega
   have ap:decide (j>(u:Int))=true:=by simp;omega
   have E:=O (show(4:Int)=V by rw[<-tQ.out];simp[I]);clear HV tQ;go_wp2_with fail;go_ret;exact⟨by rw[<-E.out];rfl,EA⟩
  have ao:decide ((u:Int)<j)=false:=by simp;omega
  have ap:decide (j>(u:Int))=false:=by simp;omega
  by_cases ab:ad=2
  ·skip
   have a6:(ad==2)=true:=by simp[ab]
   have a7:(ad != 2)=false:=by simp[ab]
   have b1:decide (ad=2)=true:=by simp[ab]
   have E:=O (show(0:Int)=V by rw[<-tQ.out];simp[I,ab]);clear HV tQ;go_wp2_with fail;go_ret;exact⟨by rw[<-E.out];rfl,EA⟩
  have a6:(ad==2)=false:=by simp[ab]
  have a7:(ad != 2)=true:=by simp[ab]
  have b1:decide (ad=2)=false:=by simp[ab]
  by_cases ae:j=(u:Int)
  ·skip
   have b2:(j==(u:Int))=true:=by simp[ae]
   have b3:(j != (u:Int))=false:=by simp[ae]
   have b4:decide (j=(u:Int))=true:=by simp[ae]
   have E:=O (show(0:Int)=V by rw[<-tQ.out];simp[I,ae]);clear HV tQ;go_wp2_with fail;go_ret;exact⟨by rw[<-E.out];rfl,EA⟩
  have b2:(j==(u:Int))=false:=by simp[ae]
  have b3:(j != (u:Int))=true:=by simp[ae]
  have b4:decide (j=(u:Int))=false:=by simp[ae]
  have E:=O (show(15:Int)=V by rw[<-tQ.out];simp[I,ab,ae]);clear HV tQ;go_wp2_with fail;go_ret;exact⟨by rw[<-E.out];rfl,EA⟩
 have cj:(act==6)=false:=by simp;exact az
 have ck:decide (act=6)=false:=aP az;by_cases aE:act=9
 ·subst aE;have tQ:=O (show(if j≠(u:Int)∨(b.hn:Int)<bn then(4:Int)else if b.mK.any (fun h=>(bW S.ms h).isNone)then 6 else if b.commit≠k.commit then 17 else 0)=V by rw[<-HV.out];simp);by_cases I:j=(u:Int)
  case neg=>
   have ao:(j==(u:Int))=false:=by simp[I]
   have ap:(j != (u:Int))=true:=by simp[I]
   have a5:decide (j=(u:Int))=false:=by simp[I]
   have E:=O (show(4:Int)=V by rw[<-tQ.out];simp[I]);clear HV tQ;go_wp2_with fail;go_ret;exact⟨by rw[<-E.out];rfl,EA⟩
  have ao:(j==(u:Int))=true:=by simp[I]
  have ap:(j != (u:Int))=false:=by simp[I]
  have a5:decide (j=(u:Int))=true:=by simp[I]
  by_cases ab:(b.hn:Int)<bn
  ·skip
   have a6:decide ((b.hn:Int)<bn)=true:=by simp;omega
   have a7:decide (bn>(b.hn:Int))=true:=by simp;omega
   have E:=O (show(4:Int)=V by rw[<-tQ.out];simp[ab]);clear HV tQ;go_wp2_with fail;go_ret;exact⟨by rw[<-E.out];rfl,EA⟩
  have a6:decide ((b.hn:Int)<bn)=false:=by simp;omega
  have a7:decide (bn>(b.hn:Int))=false:=by simp;omega
  have an:=O (show(if b.mK.any (fun h=>(bW S.ms h).isNone)then(6:Int)else if b.commit≠k.commit then 17 else 0)=V by rw[<-tQ.out];simp[I,ab]);clear HV tQ;have bo:=O (aaB (fun h=>(bW S.ms h).isNone) 181 #[.pointer (some ⟨G4,0,none⟩)] b.mK b.ha b.hn b.hc al (Et func181 au F) a2.hl J a2.h16 (bw.ext EA) (fun y b6 w' bl=>aaC p G4 S y w' ((nA.ext EA).ext bl) (a2.h16 y b6) ((bv.ext bl).cell' F)));generalize b.mK.any _=bx at*;go_wp2_with fail;refine bo.mono ?_;rintro e wB ⟨rfl,a0⟩;obtain⟨a9,a_,a1⟩:=aW (ag.ext a0) (am.ext a0) (EA.ext a0);clear a0 bo;cases bx with
  |true=>
   go_wp2_with fail;go_ret;exact⟨by rw[<-an.out];rfl,a1⟩
  |false=>
   have aa:=a3.out;by_cases R:b.commit=k.commit
   ·have ac:decide (b.commit≠k.commit)=false:=by simp[R]
    rw[ac]at aa;obtain⟨HZ,E⟩:=aB aa (show(0:Int)=V by rw[<-an.out];simp[R]);clear aa ac R an a3;go_wp2_with (first|(refine bF F (bQ F F (dF a9 aq) bY ar) ?_)|(refine bF F (bQ F F (dF a_ ba) bY bd) ?_)|(refine bF F (jm F F F CO HZ _) ?_));go_ret;exact⟨by rw[<-E.out];rfl,a1⟩
   ·have ac:decide (b.commit≠k.commit)=true:=by simp[R]
    rw[ac]at aa;obtain⟨HZ,E⟩:=aB aa (show(17:Int)=V by rw[<-an.out];simp[R]);clear aa ac R an a3;go_wp2_with (first|(refine bF F (bQ F F (dF a9 aq) bY ar) ?_)|(refine bF F (bQ F F (dF a_ ba) bY bd) ?_)|(refine bF F (jm F F F CO HZ _) ?_));go_ret;exact⟨by rw[<-E.out];rfl,a1⟩
 have cl:(act==9)=false:=by simp;exact aE
 have cm:decide (act=9)=false:=aP aE;by_cases aw:act=10
 ·subst aw;have tQ:=O (show(if af≠j then(15:Int)else if b.commit≠k.shared then 17 else 0)=V by rw[<-HV.out];simp);by_cases I:af=j
  case neg=>
   have ao:(af==j)=false:=by simp[I]
   have ap:(af != j)=true:=by simp[I]
   have a5:decide (af=j)=false:=by simp[I]
   have E:=O (show(15:Int)=V by rw[<-tQ.out];simp[I]);clear HV tQ;go_wp2_with fail;go_ret;exact⟨by rw[<-E.out];rfl,EA⟩
  have ao:(af==j)=true:=by simp[I]
  have ap:(af != j)=false:=by simp[I]
  have a5:decide (af=j)=true:=by simp[I]
  have aa:=a4.out;by_cases R:b.commit=k.shared
  ·have ac:decide (b.commit≠k.shared)=false:=by simp[R]
   rw[ac]at aa;obtain⟨HZ,E⟩:=aB aa (show(0:Int)=V by rw[<-tQ.out];simp[I,R]);clear aa ac R tQ a4 HV;go_wp2_with (first|(refine bF F (bQ F F (dF ag aq) bY ar) ?_)|(refine bF F (bQ F F (dF am bc) bY be) ?_)|(refine bF F (jm F F F CO HZ _) ?_));go_ret;exact⟨by rw[<-E.out];rfl,EA⟩
  ·have ac:decide (b.commit≠k.shared)=true:=by simp[R]
   rw[ac]at aa;obtain⟨HZ,E⟩:=aB aa (show(17:Int)=V by rw[<-tQ.out];simp[I,R]);clear aa ac R tQ a4 HV;go_wp2_with (first|(refine bF F (bQ F F (dF ag aq) bY ar) ?_)|(refine bF F (bQ F F (dF am bc) bY be) ?_)|(refine bF F (jm F F F CO HZ _) ?_));go_ret;exact⟨by rw[<-E.out];rfl,EA⟩
 have cf:(act==10)=false:=by simp;exact aw
 have cg:decide (act=10)=false:=aP aw;have E:=O (show(0:Int)=V by rw[<-HV.out];simp[ax,az,aE,aw]);go_wp2_with fail;go_ret;exact⟨by rw[<-E.out];rfl,EA⟩
end
section
open Go Go.RowKit
section
variable {w w':World} {B p g:Nat} {S:aV}
theorem jr.ne{vs:aO}{T:TypeId}(h:jr w g){k:Nat}(hb:ah w k vs T):k≠g:=by grind [ah,jr]
abbrev mP(g:Nat):World->World->Prop:=gB (fun x=>x=g)
theorem aU.fF(u:aU w g w'):mP g w w':=gB.QM u F
theorem bJ.fF{a:aN}{xs:aO}(h:bJ w B a xs)(u:mP g w w')(j:g<B∨jr w g):bJ w' B a xs:=
 h.mut u (fun x E hb=>by
  subst E;rcases j with j|j
  ·omega
  ·exact j)
theorem iF.Hi.fF{r:iF}(h:r.Hi w B)(u:mP g w w')(j:g<B∨jr w g):r.Hi w' B:=⟨h.hl,h.nc,h.n16,h.sz,h.cell.fF u j⟩
theorem oG.Hi.fF{P:oG}(h:P.Hi w B)(u:mP g w w')(j:g<B∨jr w g):P.Hi w' B:=by
 have R:P.q≠g:=by
  rcases j with j|j
  ·have:=h.ge;omega
  ·exact j.ne h.blk
 have E:∀r∈P.rs,bJ w' B r.ra (r.roles.map bM)/\bJ w' B r.aa (r.acts.map lN)/\bJ w' B r.la (r.labels.map bM):=fun r E=>
  ⟨(h.jF r E).1.fF u j,(h.jF r E).2.1.fF u j,(h.jF r E).2.2.fF u j⟩
 exact⟨h.blk.mut u R,h.ge,h.hl,h.nc,h.n100,h.cell.fF u j,fun r I=>{h.rM r I with nU:=(E r I).1.cells,mF:=(E r I).2.1.cells,sN:=(E r I).2.2.cells},E⟩
theorem dJ.Ar(h:dJ w p S):jr w S.gm:=jr.map h.mem
theorem dJ.Ip(h:dJ w p S):jr w S.gk:=jr.map h.key
theorem dJ.EN(h:dJ w p S):jr w S.ga:=jr.map h.app
theorem dJ.EO(h:dJ w p S){x:aj×(Nat×List (aj×dX))}(j:x∈S.av):jr w x.2.1:=jr.map (h.inn x j).1
theorem dJ.CP(h:dJ w p S):S.gm≠S.gk/\S.gm≠S.ga/\S.gk≠S.ga/\(∀x∈S.av,x.2.1≠S.gm/\x.2.1≠S.gk/\x.2.1≠S.ga)/\(S.av.map fun x=>x.2.1).Nodup:=by grind [dJ]
theorem dJ.rest(h:dJ w p S)(u:mP g w w')(j:jr w g):
 ah w' p S.v 147/\(∀x∈S.av,∀y∈x.2.2,y.2.r.Hi w' (p+1)/\0<=y.2.t/\y.2.t<=1099511627776)/\(∀x∈S.ms,x.2.Hi w' (p+1))/\∀P,S.pol=some P->P.Hi w' (p+1):=
 ⟨h.blk.mut u (j.ne h.blk),fun x E y I=>⟨((h.inn x E).2.2 y I).1.fF u (.inr j),((h.inn x E).2.2 y I).2⟩,fun x E=>(h.mr x E).fF u (.inr j),fun P R=>(h.po P R).fF u (.inr j)⟩
theorem dJ.SN(h:dJ w p S)(u:mP S.gm w w'){ms:List (aj×iF)}(m:f_ eX iF.v w' S.gm ms)(em:jc og ms)(mr:∀x∈ms,x.2.Hi w' (p+1)):dJ w' p {S with ms:=ms}:=by
 obtain⟨E,n2,ab,I,ac⟩:=h.CP;obtain⟨R,r2,ad,aa⟩:=h.rest u h.Ar;exact{blk:=R,hl:=h.hl,hf:=h.hf,c1:=h.c1,t0:=h.t0,t1:=h.t1,mem:=m,key:=h.key.mut u E.symm,app:=h.app.mut u n2.symm,em:=em,ek:=h.ek,ea:=h.ea,inn:=fun x j=>⟨(h.inn x j).1.mut u (I x j).1,(h.inn x j).2.1,r2 x j⟩,nd:=h.nd,mr:=mr,kr:=h.kr,po:=aa}
theorem dJ.Iq(h:dJ w p S)(u:mP S.gk w w'){ks:List (aj×bC)}(m:f_ eX bC.va w' S.gk ks)(ek:jc og ks)(kr:∀x∈ks,x.2.Ok):dJ w' p {S with ks:=ks}:=by
 obtain⟨E,n2,I,R,ad⟩:=h.CP;obtain⟨aa,r2,ab,ac⟩:=h.rest u h.Ip;exact{blk:=aa,hl:=h.hl,hf:=h.hf,c1:=h.c1,t0:=h.t0,t1:=h.t1,mem:=h.mem.mut u E,key:=m,app:=h.app.mut u I.symm,em:=h.em,ek:=ek,ea:=h.ea,inn:=fun x j=>⟨(h.inn x j).1.mut u (R x j).2.1,(h.inn x j).2.1,r2 x j⟩,nd:=h.nd,mr:=ab,kr:=kr,po:=ac}
theorem dJ.SQ(h:dJ w p S)(u:mP S.ga w w'){av:List (aj×(Nat×List (aj×dX)))}(m:f_ eX oH w' S.ga av)(ea:jc Gb av)
 (E:∀x∈av,(f_ eX dX.v w x.2.1 x.2.2/\jc og x.2.2/\∀y∈x.2.2,y.2.r.Hi w (p+1)/\0<=y.2.t/\y.2.t<=1099511627776))(nd:(S.gm::S.gk::S.ga::av.map (fun x=>x.2.1)).Nodup):dJ w' p {S with av:=av}:=by
 obtain⟨ae,n2,aa,af,ag⟩:=h.CP;obtain⟨ab,r2,ac,ad⟩:=h.rest u h.EN;have hn:=nd;simp only[nodup_cons,mem_cons,not_or]at hn;obtain⟨⟨_,_,_⟩,⟨_,_⟩,R,_⟩:=hn;exact{blk:=ab,hl:=h.hl,hf:=h.hf,c1:=h.c1,t0:=h.t0,t1:=h.t1,mem:=h.mem.mut u n2,key:=h.key.mut u aa,app:=m,em:=h.em,ek:=h.ek,ea:=ea,inn:=fun x j=>⟨(E x j).1.mut u (fun e=>R (e▸mem_map_of_mem j)),(E x j).2.1,fun y I=>⟨((E x j).2.2 y I).1.fF u (.inr h.EN),((E x j).2.2 y I).2⟩⟩,nd:=nd,mr:=ac,kr:=h.kr,po:=ad}
theorem dJ.LH(h:dJ w p S){i:Nat}{x:aj×(Nat×List (aj×dX))}(aa:S.av[i]? =some x)(u:mP x.2.1 w w'){l:List (aj×dX)}(m:f_ eX dX.v w' x.2.1 l)(ai:jc og l)
 (hl:∀y∈l,y.2.r.Hi w (p+1)/\0<=y.2.t/\y.2.t<=1099511627776):dJ w' p {S with av:=S.av.set i (x.1,(x.2.1,l))}:=by
 obtain⟨aE,n2,a0,ac,ar⟩:=h.CP;have I:=mem_of_getElem? aa;obtain⟨aw,r2,ax,az⟩:=h.rest u (h.EO I);have ao:(S.av.set i (x.1,(x.2.1,l))).map (fun x=>x.2.1)=S.av.map (fun x=>x.2.1):=BN aa F;have an:(S.av.set i (x.1,(x.2.1,l))).map Prod.fst=S.av.map Prod.fst:=BN aa F;have ap:(S.av.set i (x.1,(x.2.1,l))).map (fun q=>(eX q.1,oH q.2))=S.av.map (fun q=>(eX q.1,oH q.2)):=BN aa F;refine{blk:=aw,hl:=h.hl,hf:=h.hf,c1:=h.c1,t0:=h.t0,t1:=h.t1,mem:=h.mem.mut u (ac x I).1.symm,key:=h.key.mut u (ac x I).2.1.symm,app:= ?_,em:=h.em,ek:=h.ek,ea:= ?_,inn:= ?_,nd:=by show(S.gm::S.gk::S.ga::_).Nodup;rw[ao];exact h.nd,mr:=ax,kr:=h.kr,po:=az}
 ·obtain⟨es,c,ae,af,ag⟩:=h.app.mut u (ac x I).2.2.symm;exact⟨es,c,ae,by rw[ap];exact af,ag⟩
 ·refine⟨fun q R=> ?_,by rw[an];exact h.ea.nodup⟩;rcases mem_or_eq_of_mem_set R with R|rfl
  ·exact h.ea.good q R
  ·exact h.ea.good x I
 ·intro q R;obtain⟨j,E⟩:=List.getElem?_of_mem R;rw[List.getElem?_set]at E;split at E
  ·split at E
   ·injection E with E;subst E;exact⟨m,ai,fun y ad=>⟨(hl y ad).1.fF u (.inr (h.EO I)),(hl y ad).2⟩⟩
   ·cases E
  ·rename_i am;have ab:=mem_of_getElem? E;have aq:q.2.1≠x.2.1:=by
    intro e;have al:((S.av.map fun x=>(x.2.1,x.1)).map Prod.fst).Nodup:=by rw[map_map];exact ar
    exact am (Em al (k:=x.2.1) (v:=x.1) (u:=q.1) (by rw[List.getElem?_map,aa];rfl) (by rw[List.getElem?_map,E,<-e];rfl))
   exact⟨(h.inn q ab).1.mut u aq,(h.inn q ab).2.1,r2 q ab⟩
theorem dJ.LJ(h:dJ w p S)(u:mP p w w'){T:aV}(hb:ah w' p T.v 147)(hl:T.last.length=32)(hf:T.ji.length=16)(c1:T.cnt<=65536)(t0:0<=T.tm)(t1:T.tm<=1099511627776)
 (ab:T.gm=S.gm)(e2:T.gk=S.gk)(ac:T.ga=S.ga)(R:T.ms=S.ms)(aa:T.ks=S.ks)(E:T.av=S.av)(po:∀P,T.pol=some P->P.Hi w (p+1)):dJ w' p T:=by
 have I:∀g,jr w g->g≠p:=fun g af=>(af.ne h.blk).symm;exact{blk:=hb,hl:=hl,hf:=hf,c1:=c1,t0:=t0,t1:=t1,mem:=by rw[ab,R];exact h.mem.mut u (I _ h.Ar),key:=by rw[e2,aa];exact h.key.mut u (I _ h.Ip),app:=by rw[ac,E];exact h.app.mut u (I _ h.EN),em:=by rw[R];exact h.em,ek:=by rw[aa];exact h.ek,ea:=by rw[E];exact h.ea,inn:=by rw[E];exact fun x j=>⟨(h.inn x j).1.mut u (I _ (h.EO j)),(h.inn x j).2.1,fun y ad=>⟨((h.inn x j).2.2 y ad).1.fF u (.inl J),((h.inn x j).2.2 y ad).2⟩⟩,nd:=by rw[ab,e2,ac,E];exact h.nd,mr:=by rw[R];exact fun x j=>(h.mr x j).fF u (.inl J),kr:=by rw[aa];exact h.kr,po:=fun P ae=>(po P ae).fF u (.inl J)}
end
end
noncomputable def aV.lab(S:aV)(e:aG):ByteArray:=if e.act=4 then(mO e).label else(S.uI e.key).label
noncomputable def aV.oq(S:aV)(e:aG)(l:ByteArray):eu:=⟨e.bI,(S.jO e.bI).a,(S.jO e.bI).n,(S.jO e.bI).c,(S.jO e.bI).l,e.act,l,e.key,e.time,dY 0 e.body⟩
theorem aV.EP{w:World}{p:Nat}{S:aV}{e:aG}(h:dJ w p S)(u:e.Ok w){l:ByteArray}(E:l.size<=140737488355328):(S.oq e l).Ok w:=by
 have j:=h.SK e.bI;exact⟨u.ha,u.hk,j_ _ _,j.hl,j.nc,by show(S.jO e.bI).n<=_;have:=j.n16;omega,j.cell.cells,fun s hs=>by have:=j.sz s hs;omega,E⟩
theorem ER(a:eu):∀v∈a.v,v.oneCell'=true:=by
 intro v j;unfold eu.v at j;simp only[mem_append,mem_cons,mem_map]at j;rcases j with⟨a,_,rfl⟩|rfl|rfl|rfl|⟨a,_,rfl⟩|rfl|⟨a,_,rfl⟩<;>rfl
theorem eu.D5{a:eu}(h:a.bI.length=16)(l:ByteArray):a.v.set 18 (.string l)={a with label:=l}.v:=by simp_all [eu.v]
theorem aaE{o:Oper}{a:Act}{x:Operand}{xs:Array Value}{s:ByteArray}(j:o.op= .field 159 x 1)(E:a.eval x= .agg xs)(u:xs[16]? =some (.string s))(w:World):(execOp a.eval o).run prog w= .ok (.value (.string s)) w:=by
 have h:(Instr.field 159 (.agg xs) 1).run prog w= .ok (.string s) w:=by
  simp[Instr.field,run_underlying underlying159,asAgg,part,isAgg,run_underlying underlying9,u]
 unfold execOp;simp only[j,E,Sem.run_bind,h,Result.andThen_ok,Sem.run_pure]
theorem vI:iH prog 108 68:=⟨⟨_,underlying108,F⟩,au⟩
theorem SS(p:Nat)(S:aV)(e:aG)(w:World)(h:dJ w p S)(u:e.Ok w)(ar:dN e=0):
 nW 79 #[.pointer (some ⟨p,0,none⟩),.agg e.v.toArray] w (.agg (S.oq e (S.lab e)).v.toArray):=by
 obtain⟨cM,cN,cP,cQ,cR,cS,cT⟩:=qy u ar;have cG:=O (show(kE kF e.act e.body).2=0 by
  unfold dN at ar;rw[if_neg (by unfold dR;simp;omega)]at ar;exact ar)
 obtain⟨az,a0⟩:=aB u (And.intro h.hl h.hf);have b6:=O h.blk;obtain⟨b3,b5,bz,b0,cr,cF,cD,cz⟩:=jg (show(e.bI.map Y).length=16 by rw[length_map,u.ha]) (show(e.key.map Y).length=16 by rw[length_map,u.hk]) (aG.Eh u) (aG.F4 u) (aG.zV u) (fun j (al:X w j)=>(show(Instr.lookup 142 (.map (some S.gm)) (eX e.bI) false).run prog j= .ok (S.jO e.bI).v j from(h.ext al).EL (id:=e.bI) u.ha false)) (fun j (al:X w j)=>(show(Instr.lookup 143 (.map (some S.gk)) (eX e.key) false).run prog j= .ok (S.uI e.key).va j from(h.ext al).Lr (id:=e.key) u.hk false)) (h.Il e.key);obtain⟨cJ,cC,cY⟩:=aW (fun j (E:X w j)=>uV 0 e.body e.bn e.bc e.ba j J J u.hb J (u.hcl.ext E)) (j_ 0 e.body) (show(S.jO e.bI).v= .slice (S.jO e.bI).a (S.jO e.bI).n (S.jO e.bI).c from F);have bd:=O u.ha;have cx:=O u.hk;obtain⟨a1,a5⟩:=aC (S.lab e);rw[a5];unfold aV.lab at a5;have aE:=O a5;obtain⟨aw,a4⟩:=aC (S.oq e ⟨#[]⟩);obtain⟨b4,bh⟩:=aB (show aw.v.length=68 by rw[<-a4];exact eu.len (aV.EP h u aX)) (fun l=>show aw.v.set 18 (.string l)=(S.oq e l).v by rw[<-a4];exact eu.D5 u.ha l);obtain⟨ai,bx,cX⟩:=aW (fun l=>show(S.oq e l).v.length=68 by rw[<-bh.out l,length_set];exact b4) a4 (aG.len u);clear a5 h u ar cM cN cP cQ cR cS cT a4;go_enter func79,ntmps79;go_upto_region 1 with fail;generalize iX:World.alloc (World.alloc w _) _=ac;have ca:ah ac w.heap.size e.v 34:=by rw[<-iX];exact(ah.aI F F).alloc _
 have cb:ah ac (w.heap.size+1) yR.v 108:=by rw[<-iX];exact ah.aI (gU _ _).symm rfl
 have bl:X w ac:=by rw[<-iX];exact((X.refl w).alloc _).alloc _
 have mU:ac.heap.size=w.heap.size+2:=by rw[<-iX,gU,gU]
 obtain⟨R,a9,EA,bi⟩:=bU ca cb bl (b6.ext bl);clear iX ca cb bl b6;obtain⟨G4,ck⟩:=aC (w.heap.size+1);obtain⟨G3,cj⟩:=aC w.heap.size;rw[ck]at a9⊢;rw[cj]at R⊢;have cl:w.heap.size<=G4/\G4<ac.heap.size:=J;clear ck cj mU;obtain⟨C,iB,aJ⟩:=jJ ac;have ce:∀j,C j->j.cell? ⟨p,51,none⟩=some (.map (some S.gm)):=fun j E=>(bi.ext ((iB j).1 E)).cell' (aV.mD a0.1 a0.2);have cc:∀j,C j->j.cell? ⟨G3,1,none⟩=some (.int .i64 e.time):=fun j E=>(R.ext ((iB j).1 E)).cell' (aG.rH e);have cd:∀j,C j->j.cell? ⟨G3,2,none⟩=some (.int .i64 e.act):=fun j E=>(R.ext ((iB j).1 E)).cell' (aG.at2 e);have cg:∀j,C j->j.cell? ⟨G3,67,none⟩=some (.slice e.ba e.bn e.bc):=fun j E=>(R.ext ((iB j).1 E)).cell' cr;refine wp_region_held_drew (S:=C) au ((iB _).2 (X.refl ac).drew) (fun Z=> ?_);refine aA 0 ?_;refine bD 1 F (bf F (fun j h=>bQ F F (dF (R.ext ((iB j).1 h)) bz) dh b3)) ?_;refine aA 2 ?_;refine aA 3 ?_;refine aA 4 ?_;refine dA 5 (ce) ?_;refine aA 6 ?_;refine bD 7 F (bf F (fun j h=>bQ F F (dF (R.ext ((iB j).1 h)) bz) dh b3)) ?_;refine bD 8 F (bf F (fun j h=>vH F F F (cF j (EA.ext ((iB j).1 h))))) ?_;refine aA 9 ?_;refine dA 10 (cd) ?_;refine aA 11 ?_;refine bD 12 F (bf F (fun j h=>bQ F F (dF (R.ext ((iB j).1 h)) b0) dh b5)) ?_;refine aA 13 ?_;refine dA 14 (cc) ?_;refine aA 15 ?_;refine dA 16 (cg) ?_;refine zo (B:=World.heap ac |>.size) (A:=19) (d:=5) (T:=108) (vs:=yR.v) (D:=C) undef F aJ (fun _ h=>h) (fun _ h=>((iB _).1 h).size) Z ?_;try dsimp only
 refine cO ?_;refine lZ 17 (β:=Unit) (fun _=> .agg ((dY 0 e.body).map Y).toArray) (fun _ _=>True) F F F F (fun _ _=>rfl) au au au F (fun _ _=>jw) ?phi17 ?step17 ?rest17
 case phi17=>exact fun _ _ _ _ _=>trivial
 case step17=>
  intro x j ci a2 ae;have al:=(iB j).1 ci;have cw:=O al;clear al ci;go_wp2_with fail;refine(cJ j (EA.ext cw)).mono ?_;rintro cH w2 ⟨rfl,e2⟩;go_wp2_with fail;exact ae () w2 e2 trivial
 case rest17=>
 rintro⟨⟩;refine aH ?_;refine AY 18 F (fun _=>bf F (fun j _=>aax (l:=(S.jO e.bI).l) F F F F F F F bd cx cC j)) ?_;rw[show(eu.mk e.bI (S.jO e.bI).a (S.jO e.bI).n (S.jO e.bI).c (S.jO e.bI).l e.act ⟨#[]⟩ e.key e.time (dY 0 e.body))=aw from bx.out];refine wY F F F (fun _ _=>rfl) au (fun _ _=>jw) ?_;rintro b cU ⟨ch,_⟩ br hb;obtain⟨b1,b2⟩:=aB hb ch;clear hb ch;refine aZ 20 ?_;intro a2 ae;go_wp2_with (refine bg F _ _ _ F F F b1 vI F b4 (ER _) ?_);intro an b9 cp;have am:=cp.ext ((iB cU).1 b2) br;have c0:ac.heap.size<=b:=br;refine ae _ _ ((iB an).2 am) ?_;obtain⟨a7,ap,ax,a_,b8⟩:=dM b9 (EA.ext am) (R.ext am) (a9.ext am) (bi.ext am);clear ae a2 cp b9 am b1 br b2 R a9 bi EA ce cc cd cg aJ iB Z;refine aH ?_;refine dH ?_;simp only[vS];have ct:=ax.cell' (aG.at2 e);have b7:=O (show aw.v[18]? =some (.string ⟨#[]⟩) by rw[<-bx.out];unfold aV.oq eu.v;rw[List.getElem?_append_right (by simp[bd.out])];simp[bd.out]);by_cases ad:e.act=4
 ·have g1:(e.act==4)=true:=by simp;exact ad
  have cI:decide (e.act=4)=true:=aQ ad;have af:=aE.out;rw[if_pos ad]at af;obtain⟨be,bp⟩:=aB af (fun j (E:X w j)=>GH e.act e.body e.ba e.bn e.bc j az.hb az.hbc az.bE (az.hcl.ext E));rw[cG.out]at bp;have cW:=ax.cell' cr;clear af aE ad;go_wp2_with fail;refine(bp an ap).mono ?_;rintro cH a6 ⟨r,rfl,bo,cn,cm,co,aa⟩;obtain⟨cy,cE,cA,bu,bv,bw⟩:=iq bo (show r.label=a1 by rw[<-be.out];show r.p.label=_;rw[co];rfl) (ay.len (bo.ok cn cm)) (a7.ext aa) (a_.ext aa) (ap.ext aa);clear bo cn cm co bp aa cW ct a7 a_ ap ax b8;go_wp2_with (refine bg F _ _ _ F F F (ah.aI (vs:=dI.v) F F) eP fM (xs:=r.v) cA (lD r) ?_);intro cs b' cq;have a3:X a6 cs:=cq.ext ((X.refl _).alloc _) l5;have cv:=b'.cell' (ay.Gt cy);rw[cE.out]at cv;obtain⟨I,ao,aq⟩:=aW (bu.ext a3) (bv.ext a3) (bw.ext a3);have bk:=I.cell' b7;have bm:=I.frozen 18;clear b' cq a3 bu bv bw;go_upto_region 6 with fail;generalize ab:World.setCell cs _ _=ag;have a8:Hid (ah ag b (S.oq e a1).v 108):=O (by rw[<-ab,<-bh.out];exact I.set 18 _);have ba:Hid (ah ag G4 yR.v 108):=O (by rw[<-ab];exact ao.qm _ _ (by show G4≠b;omega));have bc:Hid (X w ag):=O (by rw[<-ab];exact aq.set _ (by show w.heap.size<=b;omega));clear ab cv bk bm I ao aq;go_wp2_with (first|(refine bV F 108 _ F F a8 vI (ai _) ?_)|(refine bg F _ _ _ F F F ba vI F (ai _) (ER _) ?_));intro cV bj bt;go_wp2;refine gG F F bj vI (ai _) F ⟨F,bt.ext bc cl.1⟩
 ·have g1:(e.act==4)=false:=by simp;exact ad
  have cI:decide (e.act=4)=false:=aP ad;have af:=aE.out;rw[if_neg ad]at af;have be:=O (show(bC.v (S.uI e.key)).toArray[16]? =some (.string a1) by rw[<-af];simpa using bC.KI cz);clear af aE ad;go_upto_region 5 with fail;obtain⟨C,iB,aJ⟩:=jJ an;have bP:C an:=(iB _).2 (X.refl _);have cf:∀j,C j->j.cell? ⟨p,52,none⟩=some (.map (some S.gk)):=fun j E=>(b8.ext ((iB j).1 E)).cell' (aV.nV a0.1 a0.2);refine jQ (W:=[9]) fun Z=> ?_;refine bK 0 ?_;refine bK 1 ?_;refine bK 2 ?_;refine eY 3 (cf) ?_;refine bK 4 ?_;refine k_ 5 F (bf F (fun j h=>bQ F F (dF (ax.ext ((iB j).1 h)) b0) dh b5)) ?_;refine k_ 6 F (bf F (fun j h=>vH F F F (cD j (ap.ext ((iB j).1 h))))) ?_;refine k_ 7 F (bf F (fun j _=>aaE F F be j)) ?_;refine bK 8 ?_;generalize cL:World.drew an=a6 at Z⊢;have aa:X an a6:=(iB _).1 Z;obtain⟨I,ao,aq⟩:=aW (a7.ext aa) (a_.ext aa) (ap.ext aa);have bk:=I.cell' b7;have bm:=I.frozen 18;clear aa cL;refine iU 9 ?_;intro a2 ae;go_wp2_with fail;refine ae _ _ trivial ?_;clear ae a2;refine aH ?_;refine jR ?_;generalize ab:World.setCell a6 _ _=ag;have a8:Hid (ah ag b (S.oq e a1).v 108):=O (by rw[<-ab,<-bh.out];exact I.set 18 _);have ba:Hid (ah ag G4 yR.v 108):=O (by rw[<-ab];exact ao.qm _ _ (by show G4≠b;omega));have bc:Hid (X w ag):=O (by rw[<-ab];exact aq.set _ (by show w.heap.size<=b;omega));clear ab bk bm I ao aq cf Z aJ iB bP ct;go_wp2_with (first|(refine bV F 108 _ F F a8 vI (ai _) ?_)|(refine bg F _ _ _ F F F ba vI F (ai _) (ER _) ?_));intro cV bj bt;go_wp2;refine gG F F bj vI (ai _) F ⟨F,bt.ext bc cl.1⟩
section
open Go Go.RowKit
def pY(nm:ByteArray)(ls:aT):aT:=if ls=[]then[]else nm::ls
structure o8(w:World)(G5 G6 B:Nat)(r:aS)(ws:aT)(a:aN)(c:Nat)(wx:World):Prop where
 e:X w wx
 b5:ah wx G5 r.v 192
 b6:ah wx G6 [.slice a ws.length c] 98
 own:wx.ownsRow B 9 1 (.slice a ws.length c) ws.length (ws.map bM)
 sz:B<=wx.heap.size
section
variable {w wx wy wz:World} {G5 G6 B:Nat} {r:aS} {ws news:aT} {a a':aN} {c c':Nat}
theorem o8.ext(h:o8 w G5 G6 B r ws a c wx)(e:X wx wy):o8 w G5 G6 B r ws a c wy:=⟨h.e.ext e,h.b5.ext e,h.b6.ext e,uF h.own e,Nat.le_trans h.sz e.size⟩
end
theorem LK(w:World)(G5 G6 B:Nat)(r:aS)(ws:aT)(a:aN)(c:Nat)(nm:ByteArray)(af:aN)(j ag:Nat)(ls:aT)(wx:World)
 (h:o8 w G5 G6 B r ws a c wx)(a6:w.heap.size<=B)(bj:G5≠G6)(bo:w.heap.size<=G6)(aa:ls.length=j)(aq:j<=ag)(a0:aK wx af (ls.map bM))(a5:wO (Value.slice a ws.length c).ownBlock af j)(hb:ws.length+j<=1000):
 Calls prog 226 #[.string nm,.slice af j ag,.pointer (some ⟨G6,0,none⟩)] wx fun e w'=>e= .returned (.tuple #[])/\∃a' c',o8 w G5 G6 B r (ws++pY nm ls) a' c' w':=by
 obtain⟨I,uE,al,bc,bd,az⟩:=iq h a0 aa aq a5 RQ;clear h a0 a5;by_cases ad:j=0
 ·have a3:ls=[]:=length_eq_zero_iff.1 (aa.trans ad);have am:=O (show ws++pY nm ls=ws by unfold pY;rw[if_pos a3,append_nil]);clear a3 aa aq;subst ad;go_enter func226,ntmps226;go_wp2
  go_end0
  exact⟨F,a,c,by rw[am.out];exact I⟩
 ·have a4:ls≠[]:=fun e=>ad (by rw[<-aa,e];rfl);have am:=O (show ws++pY nm ls=(ws++[nm])++ls by unfold pY;rw[if_neg a4];simp);have a_:=O (show af=none->ag=0 from fun h=>by
   obtain⟨b,o,e,_⟩:=uE.gQ (by rw[length_map,aa];omega);rw[e]at h;cases h)
  have g1:decide ((0:Int)<(j:Int))=true:=aQ J;have E:decide (0<j)=true:=aQ J;have g3:0<j:=J;have k6:=I.b6.cell' (i:=0) F;clear a4 ad aa aq;go_enter func226,ntmps226;go_upto_region 1 with fail;clear g1 E g3;go_wp2_with (refine qB (n:=ws.length) (m:=1) (c:=1) (xs:=ws.map bM) (news:=[bM nm]) az F _ _ F B F F (uF I.own ((X.refl _).alloc _)) F l5 (fun h=>by cases h) (aK.tO (ah.aI F F)) (fun u ae=>by simp at ae;rw[ae];rfl) J J (Nat.le_trans I.sz (by rw[rQ];omega)) ?_);intro bw bv aw g1 bk;obtain⟨bh,bi,rfl,_,_,_⟩:=iJ aw;obtain⟨ab,a8,G1⟩:=aW aw (bd.cells (by rw[length_map,al.out]) (uE.ext ((X.refl _).alloc _)) g1) g1;have bm:=g1.size;rw[rQ]at bm;have mU:=I.sz;clear aw g1 bk;go_wp2_with (refine qB (n:=ws.length+1) (m:=j) (c:=ag) (xs:=ws.map bM++[bM nm]) (news:=ls.map bM) az F _ _ F B F F ab (by rw[length_map,Nat.mul_one];exact al) bc a_ a8 (fun u ae=>by obtain⟨s,_,rfl⟩:=mem_map.1 ae;rfl) J J J ?_);intro bx v2 ai E bl;obtain⟨an,ao,rfl,_,_,_⟩:=iJ ai;have ap:((ws++[nm])++ls).length=ws.length+1+j:=by simp only[length_append,length_cons,length_nil,al.out]
  have be:Hid (v2.ownsRow B 9 1 (.slice an ((ws++[nm])++ls).length ao) ((ws++[nm])++ls).length (((ws++[nm])++ls).map bM)):=O (by rw[ap];first|exact ai|simpa using ai);have a2:∀q,(Value.slice bh (ws.length+1) bi).ownBlock=some q->B<=q:=fun q R=>(ab.lt q R).1;have ac:ah v2 G6 [.slice a ws.length c] 98:=((I.b6.alloc _).besides (uF I.own ((X.refl _).alloc _)) G1 aX).besides ab E aX;have br:=ac.cell' (i:=0) F;have bt:=ac.frozen 0;obtain⟨ax,bp,ba⟩:=aW ac E ap;have a1:∀q,(Value.slice a ws.length c).ownBlock=some q->B<=q:=fun q R=>(I.own.lt q R).1;have aE:ah v2 G5 r.v 192:=((I.b5.alloc _).besides (uF I.own ((X.refl _).alloc _)) G1 aX).besides ab E aX;have e2:X w v2:=((I.e.alloc _).grown G1 (fun q R=>Nat.le_trans a6 (a1 q R))).grown E (fun q R=>Nat.le_trans a6 (a2 q R));obtain⟨a7,a9⟩:=aB aE e2;have bu:=E.size;clear ai E bl ap a2 a1 ac aE e2 k6;go_wp2_with fail;obtain⟨v3,ar⟩:=aC (World.setCell v2 ⟨G6,0,none⟩ (.slice an (ws.length+1+j) ao));try rw[ar]
  go_end0
  refine⟨F,an,ao,?_⟩;have u:aU v2 G6 v3:=by rw[<-ar];exact aU.setCell _
  rw[am.out];refine⟨u.ext a9 bo,a7.upd u bj,?_,n_ be u ax aX,by rw[u.size];omega⟩;rw[ba.out,<-ar];exact ax.set 0 _
end
end Go.Proofs.YtjlhhnkhcbpnjaaGreatDoor
