/- Laws that the row leans on; no condition. -/
import Derived.Test.YtjlhhnkhcbpnjaaGreatDoorJ15
import Derived.Lib.AtoiAll
import Derived.Lib.IndexMore
import Derived.Lib.SplitLaws
import Derived.Lib.ReplaceLaws
import Derived.Lib.FieldsP
import Derived.Lib.TrimUEq
import Derived.Lib.SpaceUEq
import Derived.Lib.RuneCount
namespace Go.Proofs.YtjlhhnkhcbpnjaaGreatDoor
open Go Go.RowKit List Tryz
set_option linter.unusedVariables false
set_option linter.unusedSectionVars false
set_option linter.unusedSimpArgs false
set_option maxHeartbeats 40000000
set_option maxRecDepth 100000
structure eu where
 bI:aj
 sa:aN
 sn:Nat
 sc:Nat
 roles:aT
 act:Int
 label:ByteArray
 key:aj
 time:Int
 detail:aj
def eu.v(a:eu):aO:=a.bI.map Y++(.slice a.sa a.sn a.sc:: .int .i64 a.act:: .string a.label::(a.key.map Y++(.int .i64 a.time::a.detail.map Y)))
structure eu.Ok(w:World)(a:eu):Prop where
 ha:a.bI.length=16
 hk:a.key.length=16
 hd:a.detail.length=32
 sl:a.roles.length=a.sn
 Y_:a.sn<=a.sc
 sm:a.sn<=140737488355328
 Za:aK w a.sa (a.roles.map bM)
 ss:∀s∈a.roles,s.size<=140737488355328
 ls:a.label.size<=140737488355328
theorem eu.Ok.ext{w w':World}{a:eu}(h:a.Ok w)(e:X w w'):a.Ok w':=⟨h.ha,h.hk,h.hd,h.sl,h.Y_,h.sm,h.Za.ext e,h.ss,h.ls⟩
theorem eu.len{w:World}{a:eu}(h:a.Ok w):a.v.length=68:=by unfold eu.v;simp[h.ha,h.hk,h.hd]
theorem eu.KI{w:World}{a:eu}(h:a.Ok w):a.v[16]? =some (.slice a.sa a.sn a.sc):=by
 unfold eu.v;rw[List.getElem?_append_right (by simp[h.ha])];simp[h.ha]
theorem eu.pI{w:World}{a:eu}(h:a.Ok w):a.v[17]? =some (.int .i64 a.act):=by
 unfold eu.v;rw[List.getElem?_append_right (by simp[h.ha])];simp[h.ha]
theorem eu.zH{w:World}{a:eu}(h:a.Ok w):a.v[18]? =some (.string a.label):=by
 unfold eu.v;rw[List.getElem?_append_right (by simp[h.ha])];simp[h.ha]
def j5(a:eu):Bool:= !uq a.label&&rJ a.label
def j6(a:eu):Bool:=decide (a.time<0)||decide (1099511627776<a.time)
theorem Ag:iH prog 192 8:=⟨⟨_,underlying192,F⟩,au⟩
def uw(rs:List aS):aO:=rs.flatMap aS.v
theorem Hg(rs:List aS):(uw rs).length=8*rs.length:=by
 induction rs with
 |nil=>rfl
 |cons r rs j=>unfold uw at j⊢;rw[flatMap_cons,length_append,j,aS.len,length_cons];omega
theorem Zb{rs:List aS}{k:Nat}{r:aS}(h:rs[k]? =some r):((uw rs).drop (k*8)).take 8=r.v:=by
 induction rs generalizing k with
 |nil=>simp at h
 |cons x rs j=>
  unfold uw at j⊢;rw[flatMap_cons];cases k with
  |zero=>
   simp only[List.getElem?_cons_zero,Option.some.injEq]at h;subst h;rw[Nat.zero_mul,drop_zero,take_append_of_le_length (by rw[aS.len];exact Nat.le_refl _),take_of_length_le (by rw[aS.len];exact Nat.le_refl _)]
  |succ k=>
   rw[List.getElem?_cons_succ]at h;rw[drop_append,aS.len,drop_of_length_le (by rw[aS.len];omega),nil_append,show(k+1)*8 - 8=k*8 by omega];exact j h
structure lG(w:World)(pa:aN)(pn pc:Nat)(rs:List aS):Prop where
 hl:rs.length=pn
 hnc:pn<=pc
 hm:pn<=140737488355328
 cell:aK w pa (uw rs)
 ok:∀r∈rs,r.Ok w
theorem lG.ext{w w':World}{j:aN}{E u:Nat}{rs:List aS}(h:lG w j E u rs)(e:X w w'):lG w' j E u rs:=⟨h.hl,h.hnc,h.hm,h.cell.ext e,fun r I=>(h.ok r I).ext e⟩
theorem lG.at{w:World}{I:aN}{ab aa:Nat}{rs:List aS}(h:lG w I ab aa rs){k:Nat}{r:aS}(hk:rs[k]? =some r):∃A,I=some A/\dP w (A.add (k*8)) r.v:=by
 have ac:=(List.getElem?_eq_some_iff.1 hk).1;obtain⟨b,o,rfl,hc⟩:=h.cell.gQ (by rw[Hg];omega);refine⟨_,F,fun j u E=> ?_⟩;rw[dn,dn,Nat.add_assoc];refine hc _ _ ?_;rw[<-Zb hk]at E;have R:j<8:=by
  have:=(List.getElem?_eq_some_iff.1 E).1;rw[length_take]at this;omega
 rw[List.getElem?_take_of_lt R,List.getElem?_drop]at E;exact E
noncomputable def sO:List aS->Int
 |[]=>0
 |r::rs=>if jd r=0 then sO rs else jd r
theorem Zc{rs:List aS}{k:Nat}{r:aS}(h:rs[k]? =some r)(j:∀x∈rs.take k,jd x=0)(u:jd r≠0):sO rs=jd r:=by
 induction rs generalizing k with
 |nil=>simp at h
 |cons x rs I=>
  cases k with
  |zero=>
   simp only[List.getElem?_cons_zero,Option.some.injEq]at h;subst h;unfold sO;rw[if_neg u]
  |succ k=>
   rw[List.getElem?_cons_succ]at h;unfold sO;rw[if_pos (j x aF)];exact I h (fun y E=>j y (by rw[take_succ_cons];exact mem_cons_of_mem _ E))
theorem Zd{rs:List aS}(h:∀x∈rs,jd x=0):sO rs=0:=by
 induction rs with
 |nil=>rfl
 |cons x rs u=>unfold sO;rw[if_pos (h x aF)];exact u fun y j=>h y (mem_cons_of_mem _ j)
theorem Ze{rs:List aS}(h:sO rs=0):∀x∈rs,jd x=0:=by
 induction rs with
 |nil=>simp
 |cons x rs E=>
  unfold sO at h;by_cases j:jd x=0
  ·rw[if_pos j]at h;intro y u;rcases mem_cons.1 u with rfl|u
   ·exact j
   ·exact E h y u
  ·rw[if_neg j]at h;exact absurd h j
noncomputable def jG(rs:List aS)(j:Nat):Int:=if(100:Int)<(j:Int)then 5 else sO rs
theorem Hl:(prog.info? 192).map (·.size)=some 8:=au
theorem nD(r:aS):∀v∈r.v,v.oneCell'=true:=by
 intro v j;unfold aS.v at j;simp at j;rcases j with rfl|rfl|rfl|rfl|rfl|rfl|rfl|rfl<;>rfl
def BX:aO:=[.bool false,.slice none 0 0,.slice none 0 0,.slice none 0 0,.int .i64 0,.int .i64 0,.int .i64 0,.string ⟨#[]⟩]
structure iF where
 a:aN
 n:Nat
 c:Nat
 l:aT
def iF.v(r:iF):Value:= .slice r.a r.n r.c
def iF.nil:iF:=⟨none,0,0,[]⟩
structure iF.Hi(w:World)(B:Nat)(r:iF):Prop where
 hl:r.l.length=r.n
 nc:r.n<=r.c
 n16:r.n<=16
 sz:∀s∈r.l,s.size<=32
 cell:bJ w B r.a (r.l.map bM)
structure bC where
 key:aj
 label:ByteArray
 epoch:Int
 commit:aj
 rev:Bool
 esc:Int
 shared:aj
def bC.v(k:bC):aO:=k.key.map Y++(.string k.label:: .int .i64 k.epoch::(k.commit.map Y++(.bool k.rev:: .int .i64 k.esc::k.shared.map Y)))
def bC.va(k:bC):Value:= .agg k.v.toArray
def bC.zero:bC:=⟨List.replicate 16 0,⟨#[]⟩,0,List.replicate 32 0,false,0,List.replicate 32 0⟩
structure bC.Ok(k:bC):Prop where
 hk:k.key.length=16
 ls:k.label.size<=32
 e0:0<=k.epoch
 e1:k.epoch<=4294967295
 hc:k.commit.length=32
 s0: -1<=k.esc
 s1:k.esc<=4294967295
 hs:k.shared.length=32
theorem bC.len{k:bC}(h:k.Ok):k.v.length=84:=by unfold bC.v;simp[h.hk,h.hc,h.hs]
theorem bC.vk:bC.zero.Ok:=⟨F,aX,aX,aX,F,aX,aX,F⟩
structure dX where
 r:iF
 t:Int
def dX.v(x:dX):Value:= .agg #[x.r.v,.int .i64 x.t]
def dX.zero:dX:=⟨.nil,0⟩
structure oG where
 q:Nat
 a:aN
 n:Nat
 c:Nat
 rs:List aS
structure oG.Hi(w:World)(B:Nat)(p:oG):Prop where
 blk:ah w p.q [.slice p.a p.n p.c] 152
 ge:B<=p.q
 hl:p.rs.length=p.n
 nc:p.n<=p.c
 n100:p.n<=140737488355328
 cell:bJ w B p.a (uw p.rs)
 rM:∀r∈p.rs,r.Ok w
 jF:∀r∈p.rs,bJ w B r.ra (r.roles.map bM)/\bJ w B r.aa (r.acts.map lN)/\bJ w B r.la (r.labels.map bM)
structure aV where
 cnt:Nat
 tm:Int
 last:aj
 ji:aj
 pol:Option oG
 gm:Nat
 gk:Nat
 ga:Nat
 ms:List (aj×iF)
 ks:List (aj×bC)
 av:List (aj×(Nat×List (aj×dX)))
def aV.v(S:aV):aO:= .int .i64 (S.cnt:Int):: .int .i64 S.tm::(S.last.map Y++(S.ji.map Y++[.pointer (S.pol.map fun p=>⟨p.q,0,none⟩),.map (some S.gm),.map (some S.gk),.map (some S.ga)]))
def oH(x:Nat×List (aj×dX)):Value:= .map (some x.1)
def aV.M(S:aV)(p:Nat)(g:Nat):Prop:=g=p∨g=S.gm∨g=S.gk∨g=S.ga∨∃x∈S.av,g=x.2.1
structure dJ(w:World)(p:Nat)(S:aV):Prop where
 blk:ah w p S.v 147
 hl:S.last.length=32
 hf:S.ji.length=16
 c1:S.cnt<=65536
 t0:0<=S.tm
 t1:S.tm<=1099511627776
 mem:f_ eX iF.v w S.gm S.ms
 key:f_ eX bC.va w S.gk S.ks
 app:f_ eX oH w S.ga S.av
 em:jc og S.ms
 ek:jc og S.ks
 ea:jc wE S.av
 inn:∀x∈S.av,f_ eX dX.v w x.2.1 x.2.2/\jc og x.2.2/\∀y∈x.2.2,y.2.r.Hi w (p+1)/\0<=y.2.t/\y.2.t<=1099511627776
 nd:(S.gm::S.gk::S.ga::S.av.map (fun x=>x.2.1)).Nodup
 mr:∀x∈S.ms,x.2.Hi w (p+1)
 kr:∀x∈S.ks,x.2.Ok
 po:∀P,S.pol=some P->P.Hi w (p+1)
theorem QV(ar:aN)(j aw:Nat)(rs:List aS)(w:World)(ag:lG w ar j aw rs):
 Calls prog 135 #[.agg #[.slice ar j aw]] w fun e w'=>e= .returned (.int .i64 (jG rs j))/\X w w':=by
 have ad:=O ag;have bu:j<=140737488355328:=by have:=ag.hnc;have:=ag.hm;omega
 have bl:=O (fun r w' h=>Y9 r w' h);clear ag;obtain⟨E,ao⟩:=aC (jG rs j);have ac:=O ao;rw[ao];clear ao;go_enter func135,ntmps135;go_upto_region 1 with(fail);generalize aq:World.alloc w _=bd;have a4:ah bd w.heap.size [.slice ar j aw] 152:=by rw[<-aq];exact ah.aI F F
 have a7:X w bd:=by rw[<-aq];exact(X.refl w).alloc _
 have az:=O a7;have br:=a4.cell' (i:=0) F;clear aq a4 a7;by_cases aa:(100:Int)<(j:Int)
 ·have bi:decide ((100:Int)<(j:Int))=true:=aQ aa;have bj:decide (100<j)=true:=aQ J;have af:=O (show E=5 by rw[<-ac.out];unfold jG;rw[if_pos aa]);clear aa ac;go_wp2;go_ret;exact⟨by rw[af.out];rfl,az⟩
 have bi:decide ((100:Int)<(j:Int))=false:=aP aa;have bj:decide (100<j)=false:=aP J;have af:=O (show E=sO rs by rw[<-ac.out];unfold jG;rw[if_neg aa]);clear ac;go_wp2;go_loopw [13] (fun i wr=>∃k:Nat,k<=j/\i= .int .i64 (k:Int)/\(∀x∈rs.take k,jd x=0)/\X w wr) (fun i _=>j - (intOf i).toNat)
 case atStart=>exact⟨0,J,F,aF,az⟩
 case round=>
  obtain⟨k,hk,rfl,ba,a6⟩:=hrel;obtain⟨ab,R⟩:=aB a6 ba;clear a6 ba;by_cases a_:k<j
  ·obtain⟨r,ai⟩:∃r,rs[k]? =some r:=⟨rs[k]'(by rw[ad.hl];exact a_),aF⟩;obtain⟨A,rfl,a9⟩:=(ad.ext ab).at ai;obtain⟨a1,a3,am,ae⟩:=bU a9 ((ad.ok r (mem_of_getElem? ai)).ext ab) (aS.len r) ai;clear a9 ai;have bm:=nD r;go_wp2_with (first|(refine bF F (fP (i:=k) F F F underlying150 Hl a_ _) ?_)|(refine bF F (bQ F F a1 Ag am) ?_)|(refine bg F _ (.tmp 4) _ F F F (ah.aI (vs:=BX) F F) Ag F am bm ?_));intro be a5 bc;have an:X wr be:=bc.ext ((X.refl wr).alloc _) bG;obtain⟨ax,aE,a2⟩:=aW a5 (ab.ext an) (a3.ext an);clear a5 bc an a3 a1;generalize wr.heap.size=bt at*;go_wp2_with (refine bV F 192 (.tmp 4) F F ax Ag am ?_);refine(bl r be a2).mono ?_;rintro e bv ⟨rfl,a8⟩;have a0:=O (aE.ext a8);clear a8 ax aE a2;by_cases u:jd r=0
   ·have bo:(jd r != 0)=false:=by simp[u]
    have bp:decide (jd r=0)=true:=aQ u;have al:=O (show∀x∈rs.take (k+1),jd x=0 from fun x I=>by
     rw[take_add_one,ae.out,mem_append]at I;rcases I with I|I
     ·exact R x I
     ·simp at I;rw[I];exact u)
    generalize jd r=bk at*;subst u;clear R ae;go_wp2;go_roundw
    case rel=>exact⟨k+1,J,by go_num,al,a0⟩
    case measure=>simp[intOf];omega
   ·have bo:(jd r != 0)=true:=by simp[u]
    have bp:decide (jd r=0)=false:=aP u;have al:=O (af.trans (Zc ae R u));generalize jd r=bk at*;clear R ae;go_wp2;go_ret;exact⟨by rw[al.out];rfl,a0⟩
  ·obtain rfl:k=j:=J;have ap:=R.out;rw[take_of_length_le (by rw[ad.hl];exact Nat.le_refl _)]at ap;have bh:=O (af.trans (Zd ap));clear ap;go_wp2;go_ret;exact⟨by rw[bh.out];rfl,ab⟩
structure aeC where
 st:Int
 en:Int
 at_:Int
 er:Int
def gV(l:aj):Int:=match Lib.atoiAll l with| .ok v=>v| .range=>Lib.atoiSat l|_=>0
def wG(l:aj):Bool:=match Lib.atoiAll l with| .ok _=>true|_=>false
structure aeD where
 n:Int
 rest:aj
 ok:Bool
def uy(c:UInt8):Bool:=decide (48<=c.toNat)&&decide (c.toNat<=57)
theorem Ew(d:Nat)(h:d<10):(UInt8.ofNat (48+d)).toNat=48+d:=by
 rw[UInt8.toNat_ofNat'];omega
theorem QW:∀(l:aj) (acc u d:Nat),Lib.parseUint10 acc l= .ok u->d<10->u<1844674407370955161->Lib.parseUint10 acc (l++[UInt8.ofNat (48+d)])= .ok (u*10+d)
 |[],acc,u,d,h,j,E=>by
  simp only[Lib.parseUint10]at h;injection h with h;subst h;have h1:=Ew d j;simp only[nil_append,Lib.parseUint10,h1];rw[if_pos J,if_neg J,if_neg J]
  congr 1
  omega
 |c::r,acc,u,d,h,j,E=>by
  simp only[Lib.parseUint10,cons_append]at h⊢;split at h
  ·split at h
   ·cases h
   ·split at h
    ·cases h
    ·rename_i h1 I R;rw[if_pos h1,if_neg I,if_neg R];exact QW r _ u d h j E
  ·cases h
theorem Zf(u:Nat):u<18446744073709551610->Lib.parseUint10 0 (Lib.decDigits u)= .ok u:=by
 induction u using Nat.strongRecOn with
 |_ u j=>
  intro E;rw[Lib.decDigits];by_cases h:u<10
  ·rw[dif_pos h];have h1:=Ew u h;simp only[Lib.parseUint10,h1];rw[if_pos J,if_neg J,if_neg J]
   congr 1
   omega
  ·rw[dif_neg h,QW _ 0 (u / 10) (u%10) (j (u / 10) J J) J J]
   congr 1
   omega
theorem QX(u:Nat):∀c∈Lib.decDigits u,uy c=true:=by
 induction u using Nat.strongRecOn with
 |_ u E=>
  intro c hc;rw[Lib.decDigits]at hc;by_cases h:u<10
  ·rw[dif_pos h]at hc;have:c=UInt8.ofNat (48+u):=by simpa using hc
   subst this;have j:=Ew u h;simp[uy,j];omega
  ·rw[dif_neg h]at hc;rcases mem_append.1 hc with hc|hc
   ·exact E (u / 10) J c hc
   ·have:c=UInt8.ofNat (48+u%10):=by simpa using hc
    subst this;have j:=Ew (u%10) J;simp[uy,j];omega
theorem KJ(u:Nat):Lib.decDigits u≠[]:=by
 rw[Lib.decDigits];split<;>simp
theorem Ey{n:Int}(h:0<=n):Lib.itoa n=Lib.decDigits n.toNat:=by unfold Lib.itoa;rw[if_neg J]
theorem Zg{n:Int}(h:0<=n):∀c∈Lib.itoa n,uy c=true:=by rw[Ey h];exact QX _
theorem QY{n:Int}(h:0<=n)(R:n<=9223372036854775807):Lib.atoiAll (Lib.itoa n)= .ok n:=by
 have j:=Zg h;rw[Ey h]at j⊢;have E:=Zf n.toNat J;have I:=KJ n.toNat;cases u:Lib.decDigits n.toNat with
 |nil=>exact absurd u I
 |cons c r=>
  rw[u]at E j;have hc:=j c aF;simp only[uy,Bool.and_eq_true,decide_eq_true_eq]at hc;unfold Lib.atoiAll;simp only;rw[if_neg J];unfold Lib.parseMag;rw[if_neg aF,E];simp only;rw[if_neg J,if_neg J,if_neg J]
  congr 1
  omega
theorem Zh{n:Int}(h:0<=n)(j:n<=9223372036854775807):wG (Lib.itoa n)=true:=by unfold wG;rw[QY h j]
theorem Zi{n:Int}(h:0<=n)(j:n<=9223372036854775807):gV (Lib.itoa n)=n:=by unfold gV;rw[QY h j]
theorem KL:∀(k u:Nat),u<10^(k+1)->(Lib.decDigits u).length<=k+1
 |0,u,h=>by rw[Lib.decDigits,dif_pos (by simpa using h)];simp
 |k+1,u,h=>by
  rw[Lib.decDigits];by_cases h1:u<10
  ·rw[dif_pos h1];simp
  ·rw[dif_neg h1,length_append];have:=KL k (u / 10) (by rw[Nat.pow_succ]at h;omega);simp;omega
theorem Ah{n:Int}(j: -9223372036854775808<=n)(h1:n<=9223372036854775807):(Lib.itoa n).length<=20:=by
 unfold Lib.itoa;split
 ·have:=KL 18 n.natAbs (by simp;omega);simp;omega
 ·have:=KL 18 n.toNat (by simp;omega);omega
section
open Go Go.RowKit Go.Lib
theorem QZ(b c:UInt8)(l:aj):index (b::l) [c]=if c=b then 0 else if index l [c]== -1 then -1 else index l [c]+1:=by
 have e:index (b::l) [c]=if([c]:aj).isPrefixOf (b::l)=true then 0 else if index l [c]== -1 then -1 else index l [c]+1:=F
 rw[e];by_cases h:c=b
 ·rw[if_pos h];subst h;rw[if_pos (by simp[List.isPrefixOf])]
 ·rw[if_neg h];have:([c]:aj).isPrefixOf (b::l)=false:=by simp[List.isPrefixOf,h]
  rw[this,if_neg aF]
theorem Zj(c:UInt8)(k:Nat)(l:aj):splitK [c] 0 (k+1) (c::l)=[]::splitK [c] 0 k l:=by
 have j:index (c::l) [c]=0:=by rw[QZ,if_pos F]
 rw[splitK,if_neg (by rw[j];decide),j];rfl
def Ho(b:UInt8):List (aj)->List (aj)
 |[]=>[[b]]
 |x::r=>(b::x)::r
theorem Zk{b c:UInt8}(h:b≠c)(k:Nat)(l:aj):splitK [c] 0 k (b::l)=Ho b (splitK [c] 0 k l):=by
 cases k with
 |zero=>rfl
 |succ k=>
  have j:=QZ b c l;rw[if_neg (fun e=>h e.symm)]at j;by_cases u:(index l [c]== -1)=true
  ·rw[if_pos u]at j;have E:splitK [c] 0 (k+1) (b::l)=[b::l]:=by unfold splitK;rw[j];rfl
   have I:splitK [c] 0 (k+1) l=[l]:=by unfold splitK;rw[if_pos u]
   rw[E,I];rfl
  ·rw[if_neg u]at j;have ab:=index_ge l [c];have ac:¬index l [c]= -1:=fun e=>u (beq_iff_eq.2 e);obtain⟨i,R⟩:∃i:Nat,index l [c]=i:=⟨(index l [c]).toNat,J⟩;have aa:(index (b::l) [c]).toNat=i+1:=by rw[j,R];omega
   have e2:(index l [c]).toNat=i:=by rw[R];omega
   have E:splitK [c] 0 (k+1) (b::l)=(b::l).take (i+1)::splitK [c] 0 k ((b::l).drop (i+1+1)):=by
    rw[splitK,if_neg (by rw[j,R];intro e;have:=beq_iff_eq.1 e;omega),aa];rfl
   have I:splitK [c] 0 (k+1) l=l.take i::splitK [c] 0 k (l.drop (i+1)):=by
    rw[splitK,if_neg u,e2];rfl
   rw[E,I];rfl
def kH(c:UInt8):aj->List (aj)
 |[]=>[[]]
 |b::l=>if b=c then[]::kH c l else Ho b (kH c l)
theorem KN(c:UInt8):∀l:aj,splitK [c] 0 (count l [c]) l=kH c l
 |[]=>by rw[count_one];rfl
 |b::l=>by
  unfold kH;by_cases h:b=c
  ·subst h;rw[if_pos F,count_cons_eq,Nat.add_comm,Zj,KN b l]
  ·rw[if_neg h,count_cons_ne b c l h,Zk h,KN c l]
theorem KO(c:UInt8):∀l:aj,kH c l≠[]
 |[]=>by simp[kH]
 |b::l=>by
  unfold kH;split
  ·simp
  ·cases hs:kH c l with
   |nil=>exact absurd hs (KO c l)
   |cons x r=>simp[Ho]
def oI(q:UInt8->Bool):aj->aj->List (aj)
 |cu,[]=>if cu=[]then[]else[cu]
 |cu,b::l=>if q b then(if cu=[]then oI q [] l else cu::oI q [] l)else oI q (cu++[b]) l
def vw(b:UInt8):Bool:=b==32||b==9
def vC(l:aj):List (aj):=oI vw [] l
theorem Q5(q:UInt8->Bool):∀(x cu r:aj),(∀b∈x,q b=false)->oI q cu (x++r)=oI q (cu++x) r
 |[],cu,r,_=>by simp
 |b::x,cu,r,h=>by
  rw[cons_append]
  conv=>lhs;unfold oI
  rw[h b aF,if_neg aF,Q5 q x (cu++[b]) r (fun c hc=>h c (by simp[hc]))];simp
def oh(r:Nat):Bool:=r==32||r==9
theorem Zl(n j u E I:Nat)(h:j<128):decodeN n j u E I=(j,1):=by unfold decodeN;rw[if_pos h]
theorem Zm(n j u E I:Nat)(h:¬j<128):128<=(decodeN n j u E I).1:=by
 unfold decodeN;rw[if_neg h]
 repeat' split
 all_goals (simp only;omega)
def nG(l:aj)(x:Nat×Nat):aj:=(l.drop x.1).take (x.2 - x.1)
def Ez(l:aj)(u:Option Nat)(j:Nat):aj:=match u with|some a=>nG l (a,j)|none=>[]
theorem Q7(l:aj)(a j k:Nat)(h:a<=j):nG l (a,j)++(l.drop j).take k=nG l (a,j+k):=by
 unfold nG;simp only;have e:l.drop j=(l.drop a).drop (j - a):=by rw[drop_drop];congr 1;omega
 rw[e,show j+k - a=(j - a)+k by omega,<-take_add]
theorem U4(l:aj){a j:Nat}(h:a<j)(u:j<=l.length):nG l (a,j)≠[]:=by
 unfold nG;intro e;have:=congrArg List.length e;simp only[length_take,length_drop,length_nil]at this;omega
theorem Zn(s:ByteArray):∀(f u:Nat) (R:Option Nat) (E:List (Nat×Nat)),s.size<=u+f->u<=s.size->(∀a,R=some a->a<u)->
 (closeSpans s (spansFromP oh s f u R E)).map (nG s.data.toList)=E.map (nG s.data.toList)++oI vw (Ez s.data.toList R u) (s.data.toList.drop u):=by
 have bc:s.data.toList.length=s.size:=by first|rfl|simp
 have aq:∀(u:Nat) (R:Option Nat) (E:List (Nat×Nat)),¬u<s.size->u<=s.size->(∀a,R=some a->a<u)->(closeSpans s (E,R)).map (nG s.data.toList)=E.map (nG s.data.toList)++oI vw (Ez s.data.toList R u) (s.data.toList.drop u):=by
  intro u R E ar af aa;obtain rfl:u=s.size:=J;rw[drop_of_length_le J];unfold closeSpans oI Ez;cases R with
  |none=>simp
  |some a=>
   have:=U4 s.data.toList (aa a F) J;simp[this]
 intro f;induction f with
 |zero=>
  intro u R E ar af aa;exact aq u R E J af aa
 |succ f ab=>
  intro u R E ar af aa;by_cases ae:u<s.size
  ·have ac:=decode_N s u;have a4:=decode_width_pos s u ae;obtain⟨b,hb⟩:∃b,s.data.toList[u]? =some b:=⟨s.data.toList[u]'J,aF⟩;have az:s.data.toList.getD u 0=b:=by rw[getD_eq_getElem?_getD,hb];rfl
   have ax:s.data.toList.drop u=b::s.data.toList.drop (u+1):=by
    obtain⟨a8,a6⟩:=List.getElem?_eq_some_iff.1 hb;rw[<-a6];exact drop_eq_getElem_cons a8
   obtain⟨r,I,ap⟩:∃r I,Utf8.decode s u=(r,I):=⟨_,_,F⟩;rw[az]at ac;have al:spansFromP oh s (f+1) u none E=if oh r=true then spansFromP oh s f (u+I) none E else spansFromP oh s f (u+I) (some u) E:=by
    conv=>lhs;unfold spansFromP
    rw[if_pos ae,ap]
   have am:∀a,spansFromP oh s (f+1) u (some a) E=if oh r=true then spansFromP oh s f (u+I) none (E++[(a,u)])else spansFromP oh s f (u+I) (some a) E:=by
    intro a
    conv=>lhs;unfold spansFromP
    rw[if_pos ae,ap]
   rw[ap]at ac a4;simp only at a4;by_cases a0:b.toNat<128
   ·rw[Zl _ _ _ _ _ a0]at ac;injection ac with a9 ba;subst a9 ba;have ag:oh b.toNat=vw b:=by
     unfold oh vw
     congr 1
     ·rw[Bool.eq_iff_iff,beq_iff_eq,beq_iff_eq,<-UInt8.toNat_inj];rfl
     ·rw[Bool.eq_iff_iff,beq_iff_eq,beq_iff_eq,<-UInt8.toNat_inj];rfl
    rw[ax]
    conv=>rhs;rw[oI]
    cases ai:vw b with
    |true=>
     cases R with
     |none=>
      have:=ab (u+1) none E J J (fun a h=>by cases h);rw[al,ag,ai,if_pos F,this];rfl
     |some a=>
      have:=ab (u+1) none (E++[(a,u)]) J J (fun a h=>by cases h);rw[am,ag,ai,if_pos F,this];have hn:¬Ez s.data.toList (some a) u=[]:=U4 s.data.toList (aa a F) J;rw[if_pos F,if_neg hn];simp[Ez]
    |false=>
     have a3:(s.data.toList.drop u).take 1=[b]:=by rw[ax];rfl
     cases R with
     |none=>
      have:=ab (u+1) (some u) E J J (fun a h=>by cases h;omega);rw[al,ag,ai,if_neg aF,if_neg aF,this]
      congr 2
      show nG s.data.toList (u,u+1)=[]++[b];unfold nG;simp only;rw[show u+1 - u=1 by omega,a3];rfl
     |some a=>
      have ha:=aa a F;have:=ab (u+1) (some a) E J J (fun a' h=>by cases h;omega);rw[am,ag,ai,if_neg aF,if_neg aF,this]
      congr 2
      show nG s.data.toList (a,u+1)=nG s.data.toList (a,u)++[b];rw[<-Q7 _ _ _ _ J,a3]
   ·have a2:=Zm (s.data.toList.length - u) b.toNat (s.data.toList.getD (u+1) 0).toNat (s.data.toList.getD (u+2) 0).toNat (s.data.toList.getD (u+3) 0).toNat a0;have an:=decodeN_conts (s.data.toList.length - u) b.toNat (s.data.toList.getD (u+1) 0).toNat (s.data.toList.getD (u+2) 0).toNat (s.data.toList.getD (u+3) 0).toNat;have aE:=decodeN_le_n' (s.data.toList.length - u) b.toNat (s.data.toList.getD (u+1) 0).toNat (s.data.toList.getD (u+2) 0).toNat (s.data.toList.getD (u+3) 0).toNat J;rw[<-ac]at a2 an aE;simp only at a2 an aE;have a1:oh r=false:=by unfold oh;rw[beq_eq_false_iff_ne.2 J,beq_eq_false_iff_ne.2 J];rfl
    have a5:∀c∈(s.data.toList.drop u).take I,vw c=false:=by
     intro c hc;obtain⟨j,ao⟩:=List.getElem?_of_mem hc;have a7:j<I:=by
      have:=(List.getElem?_eq_some_iff.1 ao).1;rw[length_take]at this;omega
     rw[List.getElem?_take_of_lt a7,List.getElem?_drop]at ao;have aw:128<=c.toNat:=by
      have ad:s.data.toList.getD (u+j) 0=c:=by rw[getD_eq_getElem?_getD,ao];rfl
      obtain⟨k1,k2,k3,k4⟩:=an;rcases(show j=0∨j=1∨j=2∨j=3 by omega)with rfl|rfl|rfl|rfl
      ·rw[Nat.add_zero,az]at ad;rw[<-ad];omega
      ·have:=(k1 J).1;rw[ad]at this;omega
      ·have:=(k2 J).1;rw[ad]at this;omega
      ·have:=(k3 J).1;rw[ad]at this;omega
     unfold vw;rw[Bool.or_eq_false_iff,beq_eq_false_iff_ne,beq_eq_false_iff_ne];exact⟨fun e=>by subst e;exact absurd aw aX,fun e=>by subst e;exact absurd aw aX⟩
    have a_:s.data.toList.drop u=(s.data.toList.drop u).take I++s.data.toList.drop (u+I):=by
     rw[<-drop_drop,take_append_drop]
    rw[a_,Q5 _ _ _ _ a5];cases R with
    |none=>
     have:=ab (u+I) (some u) E J J (fun a h=>by cases h;omega);rw[al,a1,if_neg aF,this]
     congr 2
     show nG s.data.toList (u,u+I)=[]++(s.data.toList.drop u).take I;unfold nG;simp only;rw[show u+I - u=I by omega];rfl
    |some a=>
     have ha:=aa a F;have:=ab (u+I) (some a) E J J (fun a' h=>by cases h;omega);rw[am,a1,if_neg aF,this]
     congr 2
     show nG s.data.toList (a,u+I)=nG s.data.toList (a,u)++(s.data.toList.drop u).take I;rw[<-Q7 _ _ _ _ J]
  ·rw[spansFromP_end oh s (f+1) u R E ae];exact aq u R E ae af aa
theorem Zo(s:ByteArray):(goFieldsP oh s).map (fun x=>x.data.toList)=vC s.data.toList:=by
 have h:=Zn s s.size 0 none [] J J (fun a h=>by cases h);unfold goFieldsP spansOfP;rw[map_map];have j:((fun x:ByteArray=>x.data.toList)∘fun x:Nat×Nat=>s.extract x.1 x.2)=nG s.data.toList:=by
  funext x
  show(s.extract x.1 x.2).data.toList=nG s.data.toList x;rw[extract_data];rfl
 rw[j,h];rfl
end
def wH(l:aj):Nat:=l.foldl (fun n b=>10*n+(b.toNat - 48)) 0
def jv(l:aj):Bool:= !l.isEmpty&&decide (l.length<=3)&& !(decide (l.headD 0=48)&& !decide (l=[48]))&&l.all uy
def EC(l:aj):Bool:=wG l&&decide (0<=gV l)&&decide (l.length<=3)&&decide (Lib.itoa (gV l)=l)
theorem Zp(u:Nat):(Lib.decDigits u).headD 0=48->u=0:=by
 induction u using Nat.strongRecOn with
 |_ u ab=>
  intro j;rw[Lib.decDigits]at j;by_cases h:u<10
  ·rw[dif_pos h]at j;have I:=Ew u h;have R:UInt8.ofNat (48+u)=48:=by simpa using j
   rw[R]at I;have:(48:UInt8).toNat=48:=F;omega
  ·rw[dif_neg h]at j;have aa:=KJ (u / 10);cases E:Lib.decDigits (u / 10)with
   |nil=>exact absurd E aa
   |cons x r=>
    rw[E]at j;have:=ab (u / 10) J (by rw[E];simpa using j);omega
theorem wI{b:UInt8}(h:uy b=true):48<=b.toNat/\b.toNat<=57:=by
 unfold uy at h;simpa using h
theorem Q8{b:UInt8}(h:uy b=true):UInt8.ofNat (48+(b.toNat - 48))=b:=by
 have:=wI h;rw[show 48+(b.toNat - 48)=b.toNat by omega];simp
theorem KP{x:Nat}{b:UInt8}(j:0<x)(h:uy b=true):Lib.decDigits (10*x+(b.toNat - 48))=Lib.decDigits x++[b]:=by
 have:=wI h;rw[Lib.decDigits,dif_neg J,show(10*x+(b.toNat - 48)) / 10=x by omega,show(10*x+(b.toNat - 48))%10=b.toNat - 48 by omega,Q8 h]
theorem KQ{b:UInt8}(h:uy b=true):Lib.decDigits (b.toNat - 48)=[b]:=by
 have:=wI h;rw[Lib.decDigits,dif_pos J,Q8 h]
theorem Q9{l:aj}(h:jv l=true):wH l<1000:=by
 unfold jv at h;simp only[Bool.and_eq_true,decide_eq_true_eq]at h;obtain⟨⟨⟨_,u⟩,_⟩,j⟩:=h;rw[all_eq_true]at j
 match l,u,j with
 |[],_,_=>decide
 |[a],_,j=>
  have:=wI (j a aF);show 10*0+(a.toNat - 48)<1000;omega
 |[a,b],_,j=>
  have:=wI (j a aF);have:=wI (j b aF);show 10*(10*0+(a.toNat - 48))+(b.toNat - 48)<1000;omega
 |[a,b,c],_,j=>
  have:=wI (j a aF);have:=wI (j b aF);have:=wI (j c aF);show 10*(10*(10*0+(a.toNat - 48))+(b.toNat - 48))+(c.toNat - 48)<1000;omega
theorem Q_{a:UInt8}(h:uy a=true)(j:a≠48):0<a.toNat - 48:=by
 have:=wI h;have:a.toNat≠48:=fun e=>j (UInt8.toNat_inj.1 e);omega
theorem Rf{l:aj}(h:jv l=true):Lib.decDigits (wH l)=l:=by
 unfold jv at h;simp only[Bool.and_eq_true,decide_eq_true_eq]at h;obtain⟨⟨⟨hn,aa⟩,E⟩,j⟩:=h;rw[all_eq_true]at j
 match l,hn,aa,E,j with
 |[a],_,_,_,j=>
  have u:=j a aF;show Lib.decDigits (10*0+(a.toNat - 48))=[a];rw[Nat.mul_zero,Nat.zero_add];exact KQ u
 |[a,b],_,_,E,j=>
  have u:=j a aF;have I:=j b aF;have ha:a≠48:=by
   rintro rfl;simp at E
  show Lib.decDigits (10*(10*0+(a.toNat - 48))+(b.toNat - 48))=[a,b];rw[Nat.mul_zero,Nat.zero_add,KP (Q_ u ha) I,KQ u];rfl
 |[a,b,c],_,_,E,j=>
  have u:=j a aF;have I:=j b aF;have R:=j c aF;have ha:a≠48:=by
   rintro rfl;simp at E
  have:=Q_ u ha;show Lib.decDigits (10*(10*(10*0+(a.toNat - 48))+(b.toNat - 48))+(c.toNat - 48))=[a,b,c];rw[Nat.mul_zero,Nat.zero_add,KP J R,KP this I,KQ u];rfl
theorem Hq(l:aj):EC l=jv l/\(jv l=true->gV l=wH l):=by
 have I:jv l=true->wG l=true/\gV l=wH l:=by
  intro h;have u:=Rf h;have ad:=Q9 h;have e:Lib.itoa (wH l:Int)=l:=by rw[Ey J,Int.toNat_natCast,u]
  have k1:=Zh (n:=(wH l:Int)) J J;have k2:=Zi (n:=(wH l:Int)) J J;rw[e]at k1 k2;exact⟨k1,k2⟩
 refine⟨?_,fun h=>(I h).2⟩;rw[Bool.eq_iff_iff]
 constructor
 ·intro h;unfold EC at h;simp only[Bool.and_eq_true,decide_eq_true_eq]at h;obtain⟨⟨⟨_,R⟩,ac⟩,j⟩:=h;rw[Ey R]at j;unfold jv;simp only[Bool.and_eq_true,decide_eq_true_eq];refine⟨⟨⟨?_,ac⟩,?_⟩,?_⟩
  ·rw[<-j];cases u:Lib.decDigits (gV l).toNat with
   |nil=>exact absurd u (KJ _)
   |cons x r=>rfl
  ·by_cases E:l.headD 0=48
   ·rw[<-j]at E;have aa:=Zp _ E;rw[aa]at j;have ab:l=[48]:=by
     rw[<-j,Lib.decDigits,dif_pos aX];rfl
    simp[ab]
   ·rw[aP E];rfl
  ·rw[all_eq_true];rw[<-j];exact QX _
 ·intro h;obtain⟨k1,k2⟩:=I h;have ad:=Q9 h;unfold EC;simp only[Bool.and_eq_true,decide_eq_true_eq];refine⟨⟨⟨k1,J⟩,?_⟩,?_⟩
  ·unfold jv at h;simp only[Bool.and_eq_true,decide_eq_true_eq]at h;exact h.1.1.2
  ·rw[k2,Ey J,Int.toNat_natCast];exact Rf h
def vF:ByteArray:=⟨#[100,101,110,121]⟩
def Ai:ByteArray:=⟨#[97,108,108,111,119]⟩
def sQ:ByteArray:=⟨#[114,111,108,101]⟩
def qE:ByteArray:=⟨#[97,99,116]⟩
def sS:ByteArray:=⟨#[111,110]⟩
def qF:ByteArray:=⟨#[97,116]⟩
def qG:ByteArray:=⟨#[110,101,101,100]⟩
def pR:aT:=[⟨#[112,111,108,105,99,121]⟩,⟨#[101,110,114,111,108,108]⟩,⟨#[100,105,115,109,105,115,115]⟩,⟨#[99,114,101,97,116,101]⟩,⟨#[114,111,116,97,116,101]⟩,⟨#[117,115,101]⟩,⟨#[114,101,118,111,107,101]⟩,⟨#[97,112,112,114,111,118,101]⟩,⟨#[101,115,99,114,111,119]⟩,⟨#[114,101,99,111,118,101,114]⟩,⟨#[98,97,99,107,117,112]⟩,⟨#[114,101,115,116,111,114,101]⟩]
def xK(x:ByteArray):Bool:=decide (x=sQ)||decide (x=qE)||decide (x=sS)||decide (x=qF)||decide (x=qG)
def je(nm:ByteArray):aT->Bool
 |[]=>false
 |x::_=>decide (x=nm)
def xM(ws:aT):Nat:=(ws.takeWhile fun x=> !xK x).length
def oZ(nm:ByteArray)(ws:aT):aT:=if je nm ws then ws.tail.take (xM ws.tail)else[]
def uz(nm:ByteArray)(ws:aT):aT:=if je nm ws then ws.tail.drop (xM ws.tail)else ws
theorem Rh{ws:aT}{k:Nat}(hk:k<=ws.length)(E:∀x∈ws.take k,xK x=false)(u:∀x,ws[k]? =some x->xK x=true):xM ws=k:=by
 induction ws generalizing k with
 |nil=>simp at hk;subst hk;rfl
 |cons y ws I=>
  unfold xM at I⊢;cases k with
  |zero=>
   have:=u y F;simp[this]
  |succ k=>
   have R:=E y aF;have aa:=I (k:=k) (by simpa using hk) (fun x j=>E x (by simp[j])) (fun x j=>u x (by simpa using j));simp[R,aa]
def pU(x:ByteArray):aT->Option Nat
 |[]=>none
 |y::r=>if y=x then some 0 else(pU x r).map (· +1)
theorem Ri{x:ByteArray}:∀{l:aT},pU x l=none↔x∉l
 |[]=>by simp[pU]
 |y::r=>by
  unfold pU;by_cases h:y=x
  ·subst h;simp
  ·rw[if_neg h];simp only[Option.map_eq_none_iff,Ri (l:=r),mem_cons,not_or];exact⟨fun k=>⟨fun e=>h e.symm,k⟩,fun k=>k.2⟩
theorem Rj{x:ByteArray}:∀{l:aT} {k:Nat},l[k]? =some x->x∉l.take k->pU x l=some k
 |[],k,h,_=>by simp at h
 |y::r,0,h,_=>by
  simp at h;unfold pU;rw[if_pos h]
 |y::r,k+1,h,hn=>by
  rw[List.getElem?_cons_succ]at h;rw[take_succ_cons,mem_cons,not_or]at hn;unfold pU;rw[if_neg (fun e=>hn.1 e.symm),Rj h hn.2];rfl
def rO(x:ByteArray)(l:aT):Int:=match pU x l with|some k=>k|none=> -1
theorem Rk{x:ByteArray}:∀{l:aT} {k:Nat},pU x l=some k->k<l.length
 |[],k,h=>by simp[pU]at h
 |y::r,k,h=>by
  unfold pU at h;by_cases e:y=x
  ·rw[if_pos e]at h;injection h with h;subst h;simp
  ·rw[if_neg e]at h;cases hr:pU x r with
   |none=>rw[hr]at h;cases h
   |some j=>
    rw[hr]at h;have:=Rk hr;simp at h;simp;omega
theorem Zq(x:ByteArray)(l:aT): -1<=rO x l/\rO x l<l.length:=by
 unfold rO;cases h:pU x l with
 |none=>exact⟨aX,by show(-1:Int)<_;omega⟩
 |some k=>
  have:=Rk h;exact⟨by show(-1:Int)<=(k:Int);omega,by show(k:Int)<_;omega⟩
def mG(x:ByteArray):Int:=rO x pR+1
def wJ(l:aT):Bool:=l.all fun x=>decide (mG x≠0)
theorem Rl(x:ByteArray):0<=mG x/\mG x<=12:=by
 have h:=Zq x pR;have j:pR.length=12:=F;unfold mG;omega
theorem Zr(x:ByteArray):rO x (⟨#[]⟩::pR)=if x=⟨#[]⟩then 0 else if mG x=0 then -1 else mG x:=by
 by_cases h:x=⟨#[]⟩
 ·rw[if_pos h];unfold rO pU;rw[if_pos h.symm];rfl
 ·rw[if_neg h];unfold mG rO;rw[pU,if_neg (fun e=>h e.symm)];cases j:pU x pR with
  |none=>rfl
  |some k=>
   show((k+1:Nat):Int)=if((k:Int)+1=0)then -1 else(k:Int)+1
   rw[if_neg J];omega
theorem Zt:mG ⟨#[]⟩=0:=aX
theorem Zu(x:ByteArray):decide (rO x (⟨#[]⟩::pR)<1)=decide (mG x=0)/\(mG x≠0->rO x (⟨#[]⟩::pR)=mG x):=by
 have hb:=Rl x;rw[Zr];by_cases h:x=⟨#[]⟩
 ·subst h;rw[Zt];exact⟨F,fun h=>absurd F h⟩
 ·rw[if_neg h];by_cases j:mG x=0
  ·rw[if_pos j,j];exact⟨F,fun h=>absurd F h⟩
  ·rw[if_neg j];exact⟨by simp[j];omega,fun _=>rfl⟩
def pV(x:ByteArray):aj×aj×Bool:=Lib.cut x.data.toList [45]
def bL(ws:aT):Bool:=je vF ws||je Ai ws
def Ea(x:ByteArray):Bool:=(pV x).2.2&&jv (pV x).1&&jv (pV x).2.1
def sU:aT->Bool
 |[x]=>Ea x
 |_=>false
def xO:aT->Bool
 |[x,_]=>jv x.data.toList
 |_=>false
def Hr:aT->Int
 |[x]=>wH (pV x).1
 |_=>0
def Ht:aT->Int
 |[x]=>wH (pV x).2.1
 |_=>0
def Hu:aT->Int
 |[x,_]=>wH x.data.toList
 |_=>0
def Hw:aT->ByteArray
 |[_,y]=>y
 |_=>⟨#[]⟩
structure aeE where
 roles:aT
 acts:aT
 labels:aT
 at_:aT
 need:aT
 rest:aT
def BZ(ws:aT):aT:=ws.tail
def Dj(ws:aT):aT:=uz sQ (BZ ws)
def Fg(ws:aT):aT:=uz qE (Dj ws)
def Dl(ws:aT):aT:=uz sS (Fg ws)
def B_(ws:aT):aT:=uz qF (Dl ws)
def yP(ws:aT):aT:=uz qG (B_ ws)
def oJ(ws:aT):aT:=oZ sQ (BZ ws)
def kX(ws:aT):aT:=oZ qE (Dj ws)
def oK(ws:aT):aT:=oZ sS (Fg ws)
def iG(ws:aT):aT:=oZ qF (Dl ws)
def jk(ws:aT):aT:=oZ qG (B_ ws)
def aR(ws:aT):Bool:=
 bL ws&&(!je sQ (BZ ws)|| !(oJ ws).isEmpty)&&(!je qE (Dj ws)||(wJ (kX ws)&& !(kX ws).isEmpty))&&
 (!je sS (Fg ws)|| !(oK ws).isEmpty)&&(!je qF (Dl ws)||sU (iG ws))&&(!je qG (B_ ws)||xO (jk ws))&&(yP ws).isEmpty
def Aj(ws:aT):aS:=
 {
  deny:=je vF ws,ra:=none,rn:=(oJ ws).length,rc:=0,roles:=oJ ws,aa:=none,an:=(kX ws).length,ac:=0,acts:=(kX ws).map mG,
  la:=none,ln:=(oK ws).length,lc:=0,labels:=oK ws,fr:=Hr (iG ws),tt:=Ht (iG ws),nd:=Hu (jk ws),ow:=Hw (jk ws)}
def NH(ws:aT):Bool:=
 bL ws&&(!je sQ (BZ ws)|| !(oJ ws).isEmpty)&&(!je qE (Dj ws)|| !(kX ws).isEmpty)&&(!je sS (Fg ws)|| !(oK ws).isEmpty)&&
 (!je qF (Dl ws)|| !(iG ws).isEmpty)&&(!je qG (B_ ws)|| !(jk ws).isEmpty)&&(yP ws).isEmpty&&wJ (kX ws)&&((iG ws).isEmpty||sU (iG ws))&&((jk ws).isEmpty||xO (jk ws))
theorem Hy{nm:ByteArray}{ws:aT}(h:je nm ws=false):oZ nm ws=[]:=by
 unfold oZ;rw[h];rfl
theorem Ny(ws:aT):NH ws=aR ws:=by
 unfold NH aR;have j:je qE (Dj ws)=false->kX ws=[]:=Hy;have u:je qF (Dl ws)=false->iG ws=[]:=Hy;have E:je qG (B_ ws)=false->jk ws=[]:=Hy;have al:wJ []=true:=F;have e2:([]:aT).isEmpty=true:=F;have aL:(iG ws).isEmpty=true->sU (iG ws)=false:=by
  intro h;rw[isEmpty_iff.1 h];rfl
 have ap:(jk ws).isEmpty=true->xO (jk ws)=false:=by
  intro h;rw[isEmpty_iff.1 h];rfl
 cases am:je qE (Dj ws)<;>cases an:je qF (Dl ws)<;>cases ao:je qG (B_ ws)
 all_goals
  (try rw[j am])
  (try rw[u an])
  (try rw[E ao])
  generalize bL ws=I;generalize (!je sQ (BZ ws)|| !(oJ ws).isEmpty)=R;generalize (!je sS (Fg ws)|| !(oK ws).isEmpty)=aa;generalize (yP ws).isEmpty=ab
 all_goals (revert aL ap;(try simp only[al,e2]);generalize (iG ws).isEmpty=ac;generalize (jk ws).isEmpty=ad;generalize (kX ws).isEmpty=ae;generalize sU (iG ws)=af;generalize xO (jk ws)=ag;generalize wJ (kX ws)=ai;revert I R aa ab ac ad ae af ag ai;decide)
def bB(l:aj):aT:=(vC (Lib.cut l [35]).1).map aY
def lU(s:aj):List (aT):=(kH 10 s).map bB
def Ak(ws:aT):Bool:=ws.isEmpty||aR ws
def wK(j:List (aT)):List aS:=(j.filter fun ws=> !ws.isEmpty).map Aj
def uD:List (aT)->Option Nat
 |[]=>none
 |ws::r=>if Ak ws then(uD r).map (· +1)else some 0
theorem Zv{j:List (aT)}(h:∀ws∈j,Ak ws=true):uD j=none:=by
 induction j with
 |nil=>rfl
 |cons x j E=>unfold uD;rw[if_pos (h x aF),E fun y u=>h y (mem_cons_of_mem _ u)];rfl
theorem Zw{j:List (aT)}{k:Nat}{ws:aT}(hk:j[k]? =some ws)(u:∀x∈j.take k,Ak x=true)(hb:Ak ws=false):uD j=some k:=by
 induction j generalizing k with
 |nil=>simp at hk
 |cons x j I=>
  cases k with
  |zero=>
   simp at hk;subst hk;unfold uD;rw[if_neg (by rw[hb];simp)]
  |succ k=>
   rw[List.getElem?_cons_succ]at hk;rw[take_succ_cons]at u;unfold uD;rw[if_pos (u x aF),I hk fun y E=>u y (mem_cons_of_mem _ E)];rfl
theorem Rn{j:List (aT)}{k:Nat}{ws:aT}(hk:j[k]? =some ws):wK (j.take (k+1))=wK (j.take k)++(if ws.isEmpty then[]else[Aj ws]):=by
 unfold wK;rw[take_add_one,hk,filter_append,map_append]
 congr 1
 cases h:ws.isEmpty with
 |true=>simp[List.filter,h]
 |false=>simp[List.filter,h]
end Go.Proofs.YtjlhhnkhcbpnjaaGreatDoor
