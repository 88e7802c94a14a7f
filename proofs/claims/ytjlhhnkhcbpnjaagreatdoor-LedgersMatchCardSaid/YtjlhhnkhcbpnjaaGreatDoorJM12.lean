/- Laws that the row leans on; no condition. -/
import Derived.Test.YtjlhhnkhcbpnjaaGreatDoorJM10
import Derived.Lib.AtoiAll
import Derived.Lib.IndexMore
import Derived.Lib.SplitLaws
import Derived.Lib.ReplaceLaws
import Derived.Lib.FieldsP
import Derived.Lib.TrimUEq
import Derived.Lib.SpaceUEq
import Derived.Lib.RuneCount
import Derived.Shelf.LaysM
import Derived.Shelf.LaysC
import Derived.Shelf.SlLaysH
import Derived.Shelf.Strconv.Itoa3
import Derived.Shelf.Strconv.AtoiAll
import Derived.Shelf.Strings.Cut
import Derived.Shelf.Strings.Split
import Derived.Shelf.Strings.SplitShaped
import Derived.Shelf.Strings.Replace
import Derived.Shelf.Strings.FieldsFuncAny
import Derived.Shelf.SlicesE.DeleteFunc
import Derived.Lib.AppendIntMem
import Derived.Lib.LaidTab
import Derived.Shelf.Strings.OnBuilder
import Derived.Shelf.Strings.Builder1
namespace Go.Proofs.YtjlhhnkhcbpnjaaGreatDoor
open Go Go.RowKit Go.Shelf List Tryz
set_option linter.unusedVariables false
set_option linter.unusedSimpArgs false
set_option maxHeartbeats 40000000
set_option maxRecDepth 100000
structure eu where
 bI:aj
 sa:aN
 sn:Nat
 sc:Nat
 roles:aT
 act:Int
 label:ByteArray
 key:aj
 time:Int
 detail:aj
def eu.v(a:eu):aO:=a.bI.map Y++(.slice a.sa a.sn a.sc:: .int .i64 a.act:: .string a.label::(a.key.map Y++(.int .i64 a.time::a.detail.map Y)))
structure eu.Ok(w:World)(a:eu):Prop where
 ha:a.bI.length=16
 hk:a.key.length=16
 hd:a.detail.length=32
 sl:a.roles.length=a.sn
 Y_:a.sn<=a.sc
 sm:a.sn<=140737488355328
 Za:aK w a.sa (a.roles.map bM)
 ss:∀s∈a.roles,s.size<=140737488355328
 ls:a.label.size<=140737488355328
theorem eu.Ok.ext{w w':World}{a:eu}(h:a.Ok w)(e:X w w'):a.Ok w':=⟨h.ha,h.hk,h.hd,h.sl,h.Y_,h.sm,h.Za.ext e,h.ss,h.ls⟩
theorem eu.len{w:World}{a:eu}(h:a.Ok w):a.v.length=68:=by unfold eu.v;simp[h.ha,h.hk,h.hd]
theorem eu.KI{w:World}{a:eu}(h:a.Ok w):a.v[16]? =some (.slice a.sa a.sn a.sc):=by
 unfold eu.v;rw[List.getElem?_append_right (by simp[h.ha])];simp[h.ha]
theorem eu.pI{w:World}{a:eu}(h:a.Ok w):a.v[17]? =some (.int .i64 a.act):=by
 unfold eu.v;rw[List.getElem?_append_right (by simp[h.ha])];simp[h.ha]
theorem eu.zH{w:World}{a:eu}(h:a.Ok w):a.v[18]? =some (.string a.label):=by
 unfold eu.v;rw[List.getElem?_append_right (by simp[h.ha])];simp[h.ha]
theorem eu.nQ{w:World}{a:eu}(h:a.Ok w):a.v[35]? =some (.int .i64 a.time):=by
 unfold eu.v;rw[List.getElem?_append_right (by simp[h.ha])];simp only[length_map,h.ha];show(Value.slice a.sa a.sn a.sc:: .int .i64 a.act:: .string a.label::(a.key.map Y++(.int .i64 a.time::a.detail.map Y)))[19]? =_;rw[List.getElem?_cons_succ,List.getElem?_cons_succ,List.getElem?_cons_succ,List.getElem?_append_right (by simp[h.hk])];simp[h.hk]
def j5(a:eu):Bool:= !uq a.label&&rJ a.label
def j6(a:eu):Bool:=decide (a.time<0)||decide (1099511627776<a.time)
theorem Ag:iH prog 192 8:=⟨⟨_,underlying192,F⟩,au⟩
def uw(rs:List aS):aO:=rs.flatMap aS.v
theorem Hg(rs:List aS):(uw rs).length=8*rs.length:=by
 induction rs with
 |nil=>rfl
 |cons r rs j=>unfold uw at j⊢;rw[flatMap_cons,length_append,j,aS.len,length_cons];omega
theorem Zb{rs:List aS}{k:Nat}{r:aS}(h:rs[k]? =some r):((uw rs).drop (k*8)).take 8=r.v:=by
 induction rs generalizing k with
 |nil=>simp at h
 |cons x rs j=>
  unfold uw at j⊢;rw[flatMap_cons];cases k with
  |zero=>
   simp only[List.getElem?_cons_zero,Option.some.injEq]at h;subst h;rw[Nat.zero_mul,drop_zero,take_append_of_le_length (by rw[aS.len];exact Nat.le_refl _),take_of_length_le (by rw[aS.len];exact Nat.le_refl _)]
  |succ k=>
   rw[List.getElem?_cons_succ]at h;rw[drop_append,aS.len,drop_of_length_le (by rw[aS.len];omega),nil_append,show(k+1)*8 - 8=k*8 by omega];exact j h
structure lG(w:World)(pa:aN)(pn pc:Nat)(rs:List aS):Prop where
 hl:rs.length=pn
 hnc:pn<=pc
 hm:pn<=140737488355328
 cell:aK w pa (uw rs)
 ok:∀r∈rs,r.Ok w
theorem lG.ext{w w':World}{j:aN}{E u:Nat}{rs:List aS}(h:lG w j E u rs)(e:X w w'):lG w' j E u rs:=⟨h.hl,h.hnc,h.hm,h.cell.ext e,fun r I=>(h.ok r I).ext e⟩
theorem lG.at{w:World}{I:aN}{ab aa:Nat}{rs:List aS}(h:lG w I ab aa rs){k:Nat}{r:aS}(hk:rs[k]? =some r):∃A,I=some A/\dP w (A.add (k*8)) r.v:=by
 have y9:=(List.getElem?_eq_some_iff.1 hk).1;obtain⟨b,o,rfl,hc⟩:=h.cell.gQ (by rw[Hg];omega);refine⟨_,F,fun j u E=> ?_⟩;rw[dn,dn,Nat.add_assoc];refine hc _ _ ?_;rw[<-Zb hk]at E;have R:j<8:=by
  have:=(List.getElem?_eq_some_iff.1 E).1;rw[length_take]at this;omega
 rw[List.getElem?_take_of_lt R,List.getElem?_drop]at E;exact E
noncomputable def sO:List aS->Int
 |[]=>0
 |r::rs=>if jd r=0 then sO rs else jd r
theorem Zc{rs:List aS}{k:Nat}{r:aS}(h:rs[k]? =some r)(j:∀x∈rs.take k,jd x=0)(u:jd r≠0):sO rs=jd r:=by
 induction rs generalizing k with
 |nil=>simp at h
 |cons x rs I=>
  cases k with
  |zero=>
   simp only[List.getElem?_cons_zero,Option.some.injEq]at h;subst h;unfold sO;rw[if_neg u]
  |succ k=>
   rw[List.getElem?_cons_succ]at h;unfold sO;rw[if_pos (j x aF)];exact I h (fun y E=>j y (by rw[take_succ_cons];exact mem_cons_of_mem _ E))
theorem Zd{rs:List aS}(h:∀x∈rs,jd x=0):sO rs=0:=by induction rs<;>grind [sO]
theorem Ze{rs:List aS}(h:sO rs=0):∀x∈rs,jd x=0:=by induction rs<;>grind [sO,jd]
noncomputable def jG(rs:List aS)(j:Nat):Int:=if(100:Int)<(j:Int)then 5 else sO rs
theorem Hl:(prog.info? 192).map (·.size)=some 8:=au
theorem nD(r:aS):∀v∈r.v,v.oneCell'=true:=by
 intro v j;unfold aS.v at j;simp at j;rcases j with rfl|rfl|rfl|rfl|rfl|rfl|rfl|rfl<;>rfl
def BX:aO:=[.bool false,.slice none 0 0,.slice none 0 0,.slice none 0 0,.int .i64 0,.int .i64 0,.int .i64 0,.string ⟨#[]⟩]
structure iF where
 a:aN
 n:Nat
 c:Nat
 l:aT
def iF.v(r:iF):Value:= .slice r.a r.n r.c
def iF.nil:iF:=⟨none,0,0,[]⟩
structure iF.Hi(w:World)(B:Nat)(r:iF):Prop where
 hl:r.l.length=r.n
 nc:r.n<=r.c
 n16:r.n<=16
 sz:∀s∈r.l,s.size<=32
 cell:bJ w B r.a (r.l.map bM)
structure bC where
 key:aj
 label:ByteArray
 epoch:Int
 commit:aj
 rev:Bool
 esc:Int
 shared:aj
def bC.v(k:bC):aO:=k.key.map Y++(.string k.label:: .int .i64 k.epoch::(k.commit.map Y++(.bool k.rev:: .int .i64 k.esc::k.shared.map Y)))
def bC.va(k:bC):Value:= .agg k.v.toArray
def bC.zero:bC:=⟨List.replicate 16 0,⟨#[]⟩,0,List.replicate 32 0,false,0,List.replicate 32 0⟩
structure bC.Ok(k:bC):Prop where
 hk:k.key.length=16
 ls:k.label.size<=32
 e0:0<=k.epoch
 e1:k.epoch<=4294967295
 hc:k.commit.length=32
 s0: -1<=k.esc
 s1:k.esc<=4294967295
 hs:k.shared.length=32
theorem bC.len{k:bC}(h:k.Ok):k.v.length=84:=by unfold bC.v;simp[h.hk,h.hc,h.hs]
theorem bC.vk:bC.zero.Ok:=⟨F,aX,aX,aX,F,aX,aX,F⟩
structure dX where
 r:iF
 t:Int
def dX.v(x:dX):Value:= .agg #[x.r.v,.int .i64 x.t]
def dX.zero:dX:=⟨.nil,0⟩
structure oG where
 q:Nat
 a:aN
 n:Nat
 c:Nat
 rs:List aS
structure oG.Hi(w:World)(B:Nat)(p:oG):Prop where
 blk:ah w p.q [.slice p.a p.n p.c] 152
 ge:B<=p.q
 hl:p.rs.length=p.n
 nc:p.n<=p.c
 n100:p.n<=140737488355328
 cell:bJ w B p.a (uw p.rs)
 rM:∀r∈p.rs,r.Ok w
 jF:∀r∈p.rs,bJ w B r.ra (r.roles.map bM)/\bJ w B r.aa (r.acts.map lN)/\bJ w B r.la (r.labels.map bM)
structure aV where
 cnt:Nat
 tm:Int
 last:aj
 ji:aj
 pol:Option oG
 gm:Nat
 gk:Nat
 ga:Nat
 ms:List (aj×iF)
 ks:List (aj×bC)
 av:List (aj×(Nat×List (aj×dX)))
def aV.v(S:aV):aO:= .int .i64 (S.cnt:Int):: .int .i64 S.tm::(S.last.map Y++(S.ji.map Y++[.pointer (S.pol.map fun p=>⟨p.q,0,none⟩),.map (some S.gm),.map (some S.gk),.map (some S.ga)]))
def oH(x:Nat×List (aj×dX)):Value:= .map (some x.1)
def aV.M(S:aV)(p:Nat)(g:Nat):Prop:=g=p∨g=S.gm∨g=S.gk∨g=S.ga∨∃x∈S.av,g=x.2.1
structure dJ(w:World)(p:Nat)(S:aV):Prop where
 blk:ah w p S.v 147
 hl:S.last.length=32
 hf:S.ji.length=16
 c1:S.cnt<=65536
 t0:0<=S.tm
 t1:S.tm<=1099511627776
 mem:f_ eX iF.v w S.gm S.ms
 key:f_ eX bC.va w S.gk S.ks
 app:f_ eX oH w S.ga S.av
 em:jc og S.ms
 ek:jc og S.ks
 ea:jc Gb S.av
 inn:∀x∈S.av,f_ eX dX.v w x.2.1 x.2.2/\jc og x.2.2/\∀y∈x.2.2,y.2.r.Hi w (p+1)/\0<=y.2.t/\y.2.t<=1099511627776
 nd:(S.gm::S.gk::S.ga::S.av.map (fun x=>x.2.1)).Nodup
 mr:∀x∈S.ms,x.2.Hi w (p+1)
 kr:∀x∈S.ks,x.2.Ok
 po:∀P,S.pol=some P->P.Hi w (p+1)
theorem QV(an:aN)(j ao:Nat)(rs:List aS)(w:World)(ae:lG w an j ao rs):
 nW 135 #[.agg #[.slice an j ao]] w (.int .i64 (jG rs j)):=by
 have ac:=O ae;have bh:j<=140737488355328:=by have:=ae.hnc;have:=ae.hm;omega
 have a9:=O (fun r w' h=>Y9 r w' h);clear ae;obtain⟨E,am⟩:=aC (jG rs j);have ab:=O am;rw[am];clear am;go_enter func135,ntmps135;go_upto_region 1 with(fail);generalize iX:World.alloc w _=a4;have az:ah a4 w.heap.size [.slice an j ao] 152:=by rw[<-iX];exact ah.aI F F
 have a1:X w a4:=by rw[<-iX];exact(X.refl w).alloc _
 have EA:=O a1;have bd:=az.cell' (i:=0) F;clear iX az a1;by_cases R:(100:Int)<(j:Int)
 ·have a6:decide ((100:Int)<(j:Int))=true:=aQ R;have a7:decide (100<j)=true:=aQ J;have HV:=O (show E=5 by rw[<-ab.out];unfold jG;rw[if_pos R]);clear R ab;go_wp2;go_ret;exact⟨by rw[HV.out];rfl,EA⟩
 have a6:decide ((100:Int)<(j:Int))=false:=aP R;have a7:decide (100<j)=false:=aP J;have HV:=O (show E=sO rs by rw[<-ab.out];unfold jG;rw[if_neg R]);clear ab;go_wp2;go_loopw [13] (fun i wr=>∃k:Nat,k<=j/\i= .int .i64 (k:Int)/\(∀x∈rs.take k,jd x=0)/\X w wr) (fun i _=>j - (intOf i).toNat)
 case atStart=>exact⟨0,J,F,aF,EA⟩
 case round=>
  obtain⟨k,hk,rfl,ou,a0⟩:=hrel;obtain⟨aa,Cu⟩:=aB a0 ou;clear a0 ou;by_cases j3:k<j
  ·obtain⟨r,af⟩:∃r,rs[k]? =some r:=⟨rs[k]'(by rw[ac.hl];exact j3),aF⟩;obtain⟨A,rfl,nu⟩:=(ac.ext aa).at af;obtain⟨rz,ax,ai,ad⟩:=bU nu ((ac.ok r (mem_of_getElem? af)).ext aa) (aS.len r) af;clear nu af;have a_:=nD r;go_wp2_with (first|(refine bF F (fP (i:=k) F F F underlying150 Hl j3 _) ?_)|(refine bF F (bQ F F rz Ag ai) ?_)|(refine bg F _ (.tmp 4) _ F F F (ah.aI (vs:=BX) F F) Ag F ai a_ ?_));intro wB aE a3;have al:X wr wB:=a3.ext ((X.refl wr).alloc _) l5;obtain⟨ap,aq,aw⟩:=aW aE (aa.ext al) (ax.ext al);clear aE a3 al ax rz;generalize wr.heap.size=be at*;go_wp2_with (refine bV F 192 (.tmp 4) F F ap Ag ai ?_);refine(a9 r wB aw).mono ?_;rintro e bi ⟨rfl,a2⟩;have ar:=O (aq.ext a2);clear a2 ap aq aw;by_cases u:jd r=0
   ·have ba:(jd r != 0)=false:=by simp[u]
    have bc:decide (jd r=0)=true:=aQ u;have ag:=O (show∀x∈rs.take (k+1),jd x=0 from fun x I=>by
     rw[take_add_one,ad.out,mem_append]at I;rcases I with I|I
     ·exact Cu x I
     ·simp at I;rw[I];exact u)
    generalize jd r=a8 at*;subst u;clear Cu ad;go_wp2;go_roundw
    case rel=>exact⟨k+1,J,by go_num,ag,ar⟩
    case measure=>simp[intOf];omega
   ·have ba:(jd r != 0)=true:=by simp[u]
    have bc:decide (jd r=0)=false:=aP u;have ag:=O (HV.trans (Zc ad Cu u));generalize jd r=a8 at*;clear Cu ad;go_wp2;go_ret;exact⟨by rw[ag.out];rfl,ar⟩
  ·obtain rfl:k=j:=J;have xL:=Cu.out;rw[take_of_length_le (by rw[ac.hl];exact Nat.le_refl _)]at xL;have a5:=O (HV.trans (Zd xL));clear xL;go_wp2;go_ret;exact⟨by rw[a5.out];rfl,aa⟩
structure aeC where
 st:Int
 en:Int
 at_:Int
 er:Int
def gV(l:aj):Int:=match Lib.atoiAll l with| .ok v=>v| .range=>Lib.atoiSat l|_=>0
def GD(l:aj):Bool:=match Lib.atoiAll l with| .ok _=>true|_=>false
structure aeD where
 n:Int
 rest:aj
 ok:Bool
def uy(c:UInt8):Bool:=decide (48<=c.toNat)&&decide (c.toNat<=57)
theorem Ew(d:Nat)(h:d<10):(UInt8.ofNat (48+d)).toNat=48+d:=by
 rw[UInt8.toNat_ofNat'];omega
theorem QW:∀(l:aj) (acc u d:Nat),Lib.parseUint10 acc l= .ok u->d<10->u<1844674407370955161->Lib.parseUint10 acc (l++[UInt8.ofNat (48+d)])= .ok (u*10+d)
 |[],acc,u,d,h,j,E=>by
  simp only[Lib.parseUint10]at h;injection h with h;subst h;have h1:=Ew d j;simp only[nil_append,Lib.parseUint10,h1];rw[if_pos J,if_neg J,if_neg J]
  congr 1
  omega
 |c::r,acc,u,d,h,j,E=>by
  simp only[Lib.parseUint10,cons_append]at h⊢;split at h
  ·split at h
   ·cases h
   ·split at h
    ·cases h
    ·rename_i h1 I R;rw[if_pos h1,if_neg I,if_neg R];exact QW r _ u d h j E
  ·cases h
theorem Zf(u:Nat):u<18446744073709551610->Lib.parseUint10 0 (Lib.decDigits u)= .ok u:=by
 induction u using Nat.strongRecOn with
 |_ u j=>
  intro E;rw[Lib.decDigits];by_cases h:u<10
  ·rw[dif_pos h];have h1:=Ew u h;simp only[Lib.parseUint10,h1];rw[if_pos J,if_neg J,if_neg J]
   congr 1
   omega
  ·rw[dif_neg h,QW _ 0 (u / 10) (u%10) (j (u / 10) J J) J J]
   congr 1
   omega
theorem QX(u:Nat):∀c∈Lib.decDigits u,uy c=true:=by
 induction u using Nat.strongRecOn with
 |_ u E=>
  intro c hc;rw[Lib.decDigits]at hc;by_cases h:u<10
  ·rw[dif_pos h]at hc;have:c=UInt8.ofNat (48+u):=by simpa using hc
   subst this;have j:=Ew u h;simp[uy,j];omega
  ·rw[dif_neg h]at hc;rcases mem_append.1 hc with hc|hc
   ·exact E (u / 10) J c hc
   ·have:c=UInt8.ofNat (48+u%10):=by simpa using hc
    subst this;have j:=Ew (u%10) J;simp[uy,j];omega
theorem KJ(u:Nat):Lib.decDigits u≠[]:=by
 rw[Lib.decDigits];split<;>simp
theorem Ey{n:Int}(h:0<=n):Lib.itoa n=Lib.decDigits n.toNat:=by unfold Lib.itoa;rw[if_neg J]
theorem Zg{n:Int}(h:0<=n):∀c∈Lib.itoa n,uy c=true:=by rw[Ey h];exact QX _
theorem QY{n:Int}(h:0<=n)(R:n<=9223372036854775807):Lib.atoiAll (Lib.itoa n)= .ok n:=by
 have j:=Zg h;rw[Ey h]at j⊢;have E:=Zf n.toNat J;have I:=KJ n.toNat;cases u:Lib.decDigits n.toNat with
 |nil=>exact absurd u I
 |cons c r=>
  rw[u]at E j;have hc:=j c aF;simp only[uy,Bool.and_eq_true,decide_eq_true_eq]at hc;unfold Lib.atoiAll;simp only;rw[if_neg J];unfold Lib.parseMag;rw[if_neg aF,E];simp only;rw[if_neg J,if_neg J,if_neg J]
  congr 1
  omega
theorem Zh{n:Int}(h:0<=n)(j:n<=9223372036854775807):GD (Lib.itoa n)=true:=by unfold GD;rw[QY h j]
theorem Zi{n:Int}(h:0<=n)(j:n<=9223372036854775807):gV (Lib.itoa n)=n:=by unfold gV;rw[QY h j]
theorem KL:∀(k u:Nat),u<10^(k+1)->(Lib.decDigits u).length<=k+1
 |0,u,h=>by rw[Lib.decDigits,dif_pos (by simpa using h)];simp
 |k+1,u,h=>by
  rw[Lib.decDigits];by_cases h1:u<10
  ·rw[dif_pos h1];simp
  ·rw[dif_neg h1,length_append];have:=KL k (u / 10) (by rw[Nat.pow_succ]at h;omega);simp;omega
theorem Ah{n:Int}(j: -9223372036854775808<=n)(h1:n<=9223372036854775807):(Lib.itoa n).length<=20:=by
 unfold Lib.itoa;split
 ·have:=KL 18 n.natAbs (by simp;omega);simp;omega
 ·have:=KL 18 n.toNat (by simp;omega);omega
section
open Go Go.RowKit Go.Lib
theorem QZ(b c:UInt8)(l:aj):index (b::l) [c]=if c=b then 0 else if index l [c]== -1 then -1 else index l [c]+1:=by
 have e:index (b::l) [c]=if([c]:aj).isPrefixOf (b::l)=true then 0 else if index l [c]== -1 then -1 else index l [c]+1:=F
 rw[e];by_cases h:c=b
 ·rw[if_pos h];subst h;rw[if_pos (by simp[List.isPrefixOf])]
 ·rw[if_neg h];have:([c]:aj).isPrefixOf (b::l)=false:=by simp[List.isPrefixOf,h]
  rw[this,if_neg aF]
theorem Zj(c:UInt8)(k:Nat)(l:aj):splitK [c] 0 (k+1) (c::l)=[]::splitK [c] 0 k l:=by
 have j:index (c::l) [c]=0:=by rw[QZ,if_pos F]
 rw[splitK,if_neg (by rw[j];decide),j];rfl
def Ho(b:UInt8):List (aj)->List (aj)
 |[]=>[[b]]
 |x::r=>(b::x)::r
theorem Zk{b c:UInt8}(h:b≠c)(k:Nat)(l:aj):splitK [c] 0 k (b::l)=Ho b (splitK [c] 0 k l):=by
 cases k with
 |zero=>rfl
 |succ k=>
  have j:=QZ b c l;rw[if_neg (fun e=>h e.symm)]at j;by_cases u:(index l [c]== -1)=true
  ·rw[if_pos u]at j;have E:splitK [c] 0 (k+1) (b::l)=[b::l]:=by unfold splitK;rw[j];rfl
   have I:splitK [c] 0 (k+1) l=[l]:=by unfold splitK;rw[if_pos u]
   rw[E,I];rfl
  ·rw[if_neg u]at j;have ab:=index_ge l [c];have ac:¬index l [c]= -1:=fun e=>u (beq_iff_eq.2 e);obtain⟨i,R⟩:∃i:Nat,index l [c]=i:=⟨(index l [c]).toNat,J⟩;have aa:(index (b::l) [c]).toNat=i+1:=by rw[j,R];omega
   have e2:(index l [c]).toNat=i:=by rw[R];omega
   have E:splitK [c] 0 (k+1) (b::l)=(b::l).take (i+1)::splitK [c] 0 k ((b::l).drop (i+1+1)):=by
    rw[splitK,if_neg (by rw[j,R];intro e;have:=beq_iff_eq.1 e;omega),aa];rfl
   have I:splitK [c] 0 (k+1) l=l.take i::splitK [c] 0 k (l.drop (i+1)):=by
    rw[splitK,if_neg u,e2];rfl
   rw[E,I];rfl
def kH(c:UInt8):aj->List (aj)
 |[]=>[[]]
 |b::l=>if b=c then[]::kH c l else Ho b (kH c l)
theorem KN(c:UInt8):∀l:aj,splitK [c] 0 (count l [c]) l=kH c l
 |[]=>by rw[count_one];rfl
 |b::l=>by
  unfold kH;by_cases h:b=c
  ·subst h;rw[if_pos F,count_cons_eq,Nat.add_comm,Zj,KN b l]
  ·rw[if_neg h,count_cons_ne b c l h,Zk h,KN c l]
theorem KO(c:UInt8):∀l:aj,kH c l≠[]
 |[]=>by simp[kH]
 |b::l=>by
  unfold kH;split
  ·simp
  ·cases hs:kH c l with
   |nil=>exact absurd hs (KO c l)
   |cons x r=>simp[Ho]
def oI(q:UInt8->Bool):aj->aj->List (aj)
 |cu,[]=>if cu=[]then[]else[cu]
 |cu,b::l=>if q b then(if cu=[]then oI q [] l else cu::oI q [] l)else oI q (cu++[b]) l
def vw(b:UInt8):Bool:=b==32||b==9
def vC(l:aj):List (aj):=oI vw [] l
theorem Q5(q:UInt8->Bool):∀(x cu r:aj),(∀b∈x,q b=false)->oI q cu (x++r)=oI q (cu++x) r
 |[],cu,r,_=>by simp
 |b::x,cu,r,h=>by
  rw[cons_append]
  conv=>lhs;unfold oI
  rw[h b aF,if_neg aF,Q5 q x (cu++[b]) r (fun c hc=>h c (by simp[hc]))];simp
def oh(r:Nat):Bool:=r==32||r==9
theorem Zl(n j u E I:Nat)(h:j<128):decodeN n j u E I=(j,1):=by unfold decodeN;rw[if_pos h]
theorem Zm(n j u E I:Nat)(h:¬j<128):128<=(decodeN n j u E I).1:=by grind [decodeN]
def nG(l:aj)(x:Nat×Nat):aj:=(l.drop x.1).take (x.2 - x.1)
def Ez(l:aj)(u:Option Nat)(j:Nat):aj:=match u with|some a=>nG l (a,j)|none=>[]
theorem Q7(l:aj)(a j k:Nat)(h:a<=j):nG l (a,j)++(l.drop j).take k=nG l (a,j+k):=by
 unfold nG;simp only;have e:l.drop j=(l.drop a).drop (j - a):=by rw[drop_drop];congr 1;omega
 rw[e,show j+k - a=(j - a)+k by omega,<-take_add]
theorem U4(l:aj){a j:Nat}(h:a<j)(u:j<=l.length):nG l (a,j)≠[]:=by grind [nG,List.length,length_take,length_drop,length_nil]
theorem Zn(s:ByteArray):∀(f u:Nat) (R:Option Nat) (E:List (Nat×Nat)),s.size<=u+f->u<=s.size->(∀a,R=some a->a<u)->
 (closeSpans s (spansFromP oh s f u R E)).map (nG s.data.toList)=E.map (nG s.data.toList)++oI vw (Ez s.data.toList R u) (s.data.toList.drop u):=by
 have mU:s.data.toList.length=s.size:=by first|rfl|simp
 have ap:∀(u:Nat) (R:Option Nat) (E:List (Nat×Nat)),¬u<s.size->u<=s.size->(∀a,R=some a->a<u)->(closeSpans s (E,R)).map (nG s.data.toList)=E.map (nG s.data.toList)++oI vw (Ez s.data.toList R u) (s.data.toList.drop u):=by
  intro u R E aq af aa;obtain rfl:u=s.size:=J;rw[drop_of_length_le J];unfold closeSpans oI Ez;cases R with
  |none=>simp
  |some a=>
   have:=U4 s.data.toList (aa a F) J;simp[this]
 intro f;induction f with
 |zero=>
  intro u R E aq af aa;exact ap u R E J af aa
 |succ f ab=>
  intro u R E aq af aa;by_cases ae:u<s.size
  ·have ac:=decode_N s u;have a3:=decode_width_pos s u ae;obtain⟨b,hb⟩:∃b,s.data.toList[u]? =some b:=⟨s.data.toList[u]'J,aF⟩;have ax:s.data.toList.getD u 0=b:=by rw[getD_eq_getElem?_getD,hb];rfl
   have aw:s.data.toList.drop u=b::s.data.toList.drop (u+1):=by
    obtain⟨a7,a5⟩:=List.getElem?_eq_some_iff.1 hb;rw[<-a5];exact drop_eq_getElem_cons a7
   obtain⟨r,I,ao⟩:∃r I,Utf8.decode s u=(r,I):=⟨_,_,F⟩;rw[ax]at ac;have ai:spansFromP oh s (f+1) u none E=if oh r=true then spansFromP oh s f (u+I) none E else spansFromP oh s f (u+I) (some u) E:=by
    conv=>lhs;unfold spansFromP
    rw[if_pos ae,ao]
   have al:∀a,spansFromP oh s (f+1) u (some a) E=if oh r=true then spansFromP oh s f (u+I) none (E++[(a,u)])else spansFromP oh s f (u+I) (some a) E:=by
    intro a
    conv=>lhs;unfold spansFromP
    rw[if_pos ae,ao]
   rw[ao]at ac a3;simp only at a3;by_cases aE:b.toNat<128
   ·rw[Zl _ _ _ _ _ aE]at ac;injection ac with a8 a_;subst a8 a_;have u7:oh b.toNat=vw b:=by
     unfold oh vw
     congr 1
     ·rw[Bool.eq_iff_iff,beq_iff_eq,beq_iff_eq,<-UInt8.toNat_inj];rfl
     ·rw[Bool.eq_iff_iff,beq_iff_eq,beq_iff_eq,<-UInt8.toNat_inj];rfl
    rw[aw]
    conv=>rhs;rw[oI]
    cases ag:vw b with
    |true=>
     cases R with
     |none=>
      have:=ab (u+1) none E J J (fun a h=>by cases h);rw[ai,u7,ag,if_pos F,this];rfl
     |some a=>
      have:=ab (u+1) none (E++[(a,u)]) J J (fun a h=>by cases h);rw[al,u7,ag,if_pos F,this];have hn:¬Ez s.data.toList (some a) u=[]:=U4 s.data.toList (aa a F) J;rw[if_pos F,if_neg hn];simp[Ez]
    |false=>
     have a2:(s.data.toList.drop u).take 1=[b]:=by rw[aw];rfl
     cases R with
     |none=>
      have:=ab (u+1) (some u) E J J (fun a h=>by cases h;omega);rw[ai,u7,ag,if_neg aF,if_neg aF,this]
      congr 2
      show nG s.data.toList (u,u+1)=[]++[b];unfold nG;simp only;rw[show u+1 - u=1 by omega,a2];rfl
     |some a=>
      have ha:=aa a F;have:=ab (u+1) (some a) E J J (fun a' h=>by cases h;omega);rw[al,u7,ag,if_neg aF,if_neg aF,this]
      congr 2
      show nG s.data.toList (a,u+1)=nG s.data.toList (a,u)++[b];rw[<-Q7 _ _ _ _ J,a2]
   ·have a1:=Zm (s.data.toList.length - u) b.toNat (s.data.toList.getD (u+1) 0).toNat (s.data.toList.getD (u+2) 0).toNat (s.data.toList.getD (u+3) 0).toNat aE;have am:=decodeN_conts (s.data.toList.length - u) b.toNat (s.data.toList.getD (u+1) 0).toNat (s.data.toList.getD (u+2) 0).toNat (s.data.toList.getD (u+3) 0).toNat;have az:=decodeN_le_n' (s.data.toList.length - u) b.toNat (s.data.toList.getD (u+1) 0).toNat (s.data.toList.getD (u+2) 0).toNat (s.data.toList.getD (u+3) 0).toNat J;rw[<-ac]at a1 am az;simp only at a1 am az;have a0:oh r=false:=by unfold oh;rw[beq_eq_false_iff_ne.2 J,beq_eq_false_iff_ne.2 J];rfl
    have a4:∀c∈(s.data.toList.drop u).take I,vw c=false:=by
     intro c hc;obtain⟨j,an⟩:=List.getElem?_of_mem hc;have a6:j<I:=by
      have:=(List.getElem?_eq_some_iff.1 an).1;rw[length_take]at this;omega
     rw[List.getElem?_take_of_lt a6,List.getElem?_drop]at an;have ar:128<=c.toNat:=by
      have ad:s.data.toList.getD (u+j) 0=c:=by rw[getD_eq_getElem?_getD,an];rfl
      obtain⟨k1,k2,k3,k4⟩:=am;rcases(show j=0∨j=1∨j=2∨j=3 by omega)with rfl|rfl|rfl|rfl
      ·rw[Nat.add_zero,ax]at ad;rw[<-ad];omega
      ·have:=(k1 J).1;rw[ad]at this;omega
      ·have:=(k2 J).1;rw[ad]at this;omega
      ·have:=(k3 J).1;rw[ad]at this;omega
     unfold vw;rw[Bool.or_eq_false_iff,beq_eq_false_iff_ne,beq_eq_false_iff_ne];exact⟨fun e=>by subst e;exact absurd ar aX,fun e=>by subst e;exact absurd ar aX⟩
    have a9:s.data.toList.drop u=(s.data.toList.drop u).take I++s.data.toList.drop (u+I):=by
     rw[<-drop_drop,take_append_drop]
    rw[a9,Q5 _ _ _ _ a4];cases R with
    |none=>
     have:=ab (u+I) (some u) E J J (fun a h=>by cases h;omega);rw[ai,a0,if_neg aF,this]
     congr 2
     show nG s.data.toList (u,u+I)=[]++(s.data.toList.drop u).take I;unfold nG;simp only;rw[show u+I - u=I by omega];rfl
    |some a=>
     have ha:=aa a F;have:=ab (u+I) (some a) E J J (fun a' h=>by cases h;omega);rw[al,a0,if_neg aF,this]
     congr 2
     show nG s.data.toList (a,u+I)=nG s.data.toList (a,u)++(s.data.toList.drop u).take I;rw[<-Q7 _ _ _ _ J]
  ·rw[spansFromP_end oh s (f+1) u R E ae];exact ap u R E ae af aa
theorem Zo(s:ByteArray):(goFieldsP oh s).map (fun x=>x.data.toList)=vC s.data.toList:=by
 have h:=Zn s s.size 0 none [] J J (fun a h=>by cases h);unfold goFieldsP spansOfP;rw[map_map];have j:((fun x:ByteArray=>x.data.toList)∘fun x:Nat×Nat=>s.extract x.1 x.2)=nG s.data.toList:=by
  funext x
  show(s.extract x.1 x.2).data.toList=nG s.data.toList x;rw[extract_data];rfl
 rw[j,h];rfl
end
def GJ(l:aj):Nat:=l.foldl (fun n b=>10*n+(b.toNat - 48)) 0
def jv(l:aj):Bool:= !l.isEmpty&&decide (l.length<=3)&& !(decide (l.headD 0=48)&& !decide (l=[48]))&&l.all uy
def EC(l:aj):Bool:=GD l&&decide (0<=gV l)&&decide (l.length<=3)&&decide (Lib.itoa (gV l)=l)
theorem Zp(u:Nat):(Lib.decDigits u).headD 0=48->u=0:=by
 induction u using Nat.strongRecOn with
 |_ u ab=>
  intro j;rw[Lib.decDigits]at j;by_cases h:u<10
  ·rw[dif_pos h]at j;have I:=Ew u h;have R:UInt8.ofNat (48+u)=48:=by simpa using j
   rw[R]at I;have:(48:UInt8).toNat=48:=F;omega
  ·rw[dif_neg h]at j;have aa:=KJ (u / 10);cases E:Lib.decDigits (u / 10)with
   |nil=>exact absurd E aa
   |cons x r=>
    rw[E]at j;have:=ab (u / 10) J (by rw[E];simpa using j);omega
theorem wI{b:UInt8}(h:uy b=true):48<=b.toNat/\b.toNat<=57:=by
 unfold uy at h;simpa using h
theorem Q8{b:UInt8}(h:uy b=true):UInt8.ofNat (48+(b.toNat - 48))=b:=by simp_all [wI]
theorem KP{x:Nat}{b:UInt8}(j:0<x)(h:uy b=true):Lib.decDigits (10*x+(b.toNat - 48))=Lib.decDigits x++[b]:=by
 have:=wI h;rw[Lib.decDigits,dif_neg J,show(10*x+(b.toNat - 48)) / 10=x by omega,show(10*x+(b.toNat - 48))%10=b.toNat - 48 by omega,Q8 h]
theorem KQ{b:UInt8}(h:uy b=true):Lib.decDigits (b.toNat - 48)=[b]:=by
 have:=wI h;rw[Lib.decDigits,dif_pos J,Q8 h]
theorem Q9{l:aj}(h:jv l=true):GJ l<1000:=by
 unfold jv at h;simp only[Bool.and_eq_true,decide_eq_true_eq]at h;obtain⟨⟨⟨_,u⟩,_⟩,j⟩:=h;rw[all_eq_true]at j
 match l,u,j with
 |[],_,_=>decide
 |[a],_,j=>
  have:=wI (j a aF);show 10*0+(a.toNat - 48)<1000;omega
 |[a,b],_,j=>
  have:=wI (j a aF);have:=wI (j b aF);show 10*(10*0+(a.toNat - 48))+(b.toNat - 48)<1000;omega
 |[a,b,c],_,j=>
  have:=wI (j a aF);have:=wI (j b aF);have:=wI (j c aF);show 10*(10*(10*0+(a.toNat - 48))+(b.toNat - 48))+(c.toNat - 48)<1000;omega
theorem Q_{a:UInt8}(h:uy a=true)(j:a≠48):0<a.toNat - 48:=by
 have:=wI h;have:a.toNat≠48:=fun e=>j (UInt8.toNat_inj.1 e);omega
theorem Rf{l:aj}(h:jv l=true):Lib.decDigits (GJ l)=l:=by
 unfold jv at h;simp only[Bool.and_eq_true,decide_eq_true_eq]at h;obtain⟨⟨⟨hn,aa⟩,E⟩,j⟩:=h;rw[all_eq_true]at j
 match l,hn,aa,E,j with
 |[a],_,_,_,j=>
  have u:=j a aF;show Lib.decDigits (10*0+(a.toNat - 48))=[a];rw[Nat.mul_zero,Nat.zero_add];exact KQ u
 |[a,b],_,_,E,j=>
  have u:=j a aF;have I:=j b aF;have ha:a≠48:=by
   rintro rfl;simp at E
  show Lib.decDigits (10*(10*0+(a.toNat - 48))+(b.toNat - 48))=[a,b];rw[Nat.mul_zero,Nat.zero_add,KP (Q_ u ha) I,KQ u];rfl
 |[a,b,c],_,_,E,j=>
  have u:=j a aF;have I:=j b aF;have R:=j c aF;have ha:a≠48:=by
   rintro rfl;simp at E
  have:=Q_ u ha;show Lib.decDigits (10*(10*(10*0+(a.toNat - 48))+(b.toNat - 48))+(c.toNat - 48))=[a,b,c];rw[Nat.mul_zero,Nat.zero_add,KP J R,KP this I,KQ u];rfl
theorem Hq(l:aj):EC l=jv l/\(jv l=true->gV l=GJ l):=by
 have I:jv l=true->GD l=true/\gV l=GJ l:=by
  intro h;have u:=Rf h;have j3:=Q9 h;have e:Lib.itoa (GJ l:Int)=l:=by rw[Ey J,Int.toNat_natCast,u]
  have k1:=Zh (n:=(GJ l:Int)) J J;have k2:=Zi (n:=(GJ l:Int)) J J;rw[e]at k1 k2;exact⟨k1,k2⟩
 refine⟨?_,fun h=>(I h).2⟩;rw[Bool.eq_iff_iff]
 constructor
 ·intro h;unfold EC at h;simp only[Bool.and_eq_true,decide_eq_true_eq]at h;obtain⟨⟨⟨_,R⟩,ac⟩,j⟩:=h;rw[Ey R]at j;unfold jv;simp only[Bool.and_eq_true,decide_eq_true_eq];refine⟨⟨⟨?_,ac⟩,?_⟩,?_⟩
  ·rw[<-j];cases u:Lib.decDigits (gV l).toNat with
   |nil=>exact absurd u (KJ _)
   |cons x r=>rfl
  ·by_cases E:l.headD 0=48
   ·rw[<-j]at E;have aa:=Zp _ E;rw[aa]at j;have ab:l=[48]:=by
     rw[<-j,Lib.decDigits,dif_pos aX];rfl
    simp[ab]
   ·rw[aP E];rfl
  ·rw[all_eq_true];rw[<-j];exact QX _
 ·intro h;obtain⟨k1,k2⟩:=I h;have j3:=Q9 h;unfold EC;simp only[Bool.and_eq_true,decide_eq_true_eq];refine⟨⟨⟨k1,J⟩,?_⟩,?_⟩
  ·unfold jv at h;simp only[Bool.and_eq_true,decide_eq_true_eq]at h;exact h.1.1.2
  ·rw[k2,Ey J,Int.toNat_natCast];exact Rf h
def vF:ByteArray:=⟨#[100,101,110,121]⟩
def Ai:ByteArray:=⟨#[97,108,108,111,119]⟩
def sQ:ByteArray:=⟨#[114,111,108,101]⟩
def qE:ByteArray:=⟨#[97,99,116]⟩
def sS:ByteArray:=⟨#[111,110]⟩
def qF:ByteArray:=⟨#[97,116]⟩
def qG:ByteArray:=⟨#[110,101,101,100]⟩
def pR:aT:=[⟨#[112,111,108,105,99,121]⟩,⟨#[101,110,114,111,108,108]⟩,⟨#[100,105,115,109,105,115,115]⟩,⟨#[99,114,101,97,116,101]⟩,⟨#[114,111,116,97,116,101]⟩,⟨#[117,115,101]⟩,⟨#[114,101,118,111,107,101]⟩,⟨#[97,112,112,114,111,118,101]⟩,⟨#[101,115,99,114,111,119]⟩,⟨#[114,101,99,111,118,101,114]⟩,⟨#[98,97,99,107,117,112]⟩,⟨#[114,101,115,116,111,114,101]⟩]
def xK(x:ByteArray):Bool:=decide (x=sQ)||decide (x=qE)||decide (x=sS)||decide (x=qF)||decide (x=qG)
def je(nm:ByteArray):aT->Bool
 |[]=>false
 |x::_=>decide (x=nm)
def xM(ws:aT):Nat:=(ws.takeWhile fun x=> !xK x).length
def oZ(nm:ByteArray)(ws:aT):aT:=if je nm ws then ws.tail.take (xM ws.tail)else[]
def uz(nm:ByteArray)(ws:aT):aT:=if je nm ws then ws.tail.drop (xM ws.tail)else ws
theorem Rh{ws:aT}{k:Nat}(hk:k<=ws.length)(E:∀x∈ws.take k,xK x=false)(u:∀x,ws[k]? =some x->xK x=true):xM ws=k:=by
 induction ws generalizing k with
 |nil=>simp at hk;subst hk;rfl
 |cons y ws I=>
  unfold xM at I⊢;cases k with
  |zero=>
   have:=u y F;simp[this]
  |succ k=>
   have R:=E y aF;have aa:=I (k:=k) (by simpa using hk) (fun x j=>E x (by simp[j])) (fun x j=>u x (by simpa using j));simp[R,aa]
def pU(x:ByteArray):aT->Option Nat
 |[]=>none
 |y::r=>if y=x then some 0 else(pU x r).map (· +1)
theorem Ri{x:ByteArray}:∀{l:aT},pU x l=none↔x∉l
 |[]=>by simp[pU]
 |y::r=>by
  unfold pU;by_cases h:y=x
  ·subst h;simp
  ·rw[if_neg h];simp only[Option.map_eq_none_iff,Ri (l:=r),mem_cons,not_or];exact⟨fun k=>⟨fun e=>h e.symm,k⟩,fun k=>k.2⟩
theorem Rj{x:ByteArray}:∀{l:aT} {k:Nat},l[k]? =some x->x∉l.take k->pU x l=some k
 |[],k,h,_=>by simp at h
 |y::r,0,h,_=>by
  simp at h;unfold pU;rw[if_pos h]
 |y::r,k+1,h,hn=>by
  rw[List.getElem?_cons_succ]at h;rw[take_succ_cons,mem_cons,not_or]at hn;unfold pU;rw[if_neg (fun e=>hn.1 e.symm),Rj h hn.2];rfl
def rO(x:ByteArray)(l:aT):Int:=match pU x l with|some k=>k|none=> -1
theorem Rk{x:ByteArray}:∀{l:aT} {k:Nat},pU x l=some k->k<l.length
 |[],k,h=>by simp[pU]at h
 |y::r,k,h=>by
  unfold pU at h;by_cases e:y=x
  ·rw[if_pos e]at h;injection h with h;subst h;simp
  ·rw[if_neg e]at h;cases hr:pU x r with
   |none=>rw[hr]at h;cases h
   |some j=>
    rw[hr]at h;have:=Rk hr;simp at h;simp;omega
theorem Zq(x:ByteArray)(l:aT): -1<=rO x l/\rO x l<l.length:=by
 unfold rO;cases h:pU x l with
 |none=>exact⟨aX,by show(-1:Int)<_;omega⟩
 |some k=>
  have:=Rk h;exact⟨by show(-1:Int)<=(k:Int);omega,by show(k:Int)<_;omega⟩
def mG(x:ByteArray):Int:=rO x pR+1
def wJ(l:aT):Bool:=l.all fun x=>decide (mG x≠0)
theorem Rl(x:ByteArray):0<=mG x/\mG x<=12:=by
 have h:=Zq x pR;have j:pR.length=12:=F;unfold mG;omega
theorem Zr(x:ByteArray):rO x (⟨#[]⟩::pR)=if x=⟨#[]⟩then 0 else if mG x=0 then -1 else mG x:=by grind [rO,pU,mG]
theorem Zt:mG ⟨#[]⟩=0:=aX
theorem Zu(x:ByteArray):decide (rO x (⟨#[]⟩::pR)<1)=decide (mG x=0)/\(mG x≠0->rO x (⟨#[]⟩::pR)=mG x):=by grind [mG,rO,pR,Rl,Zr,Zt]
def pV(x:ByteArray):aj×aj×Bool:=Lib.cut x.data.toList [45]
def bL(ws:aT):Bool:=je vF ws||je Ai ws
def Ea(x:ByteArray):Bool:=(pV x).2.2&&jv (pV x).1&&jv (pV x).2.1
def sU:aT->Bool
 |[x]=>Ea x
 |_=>false
def xO:aT->Bool
 |[x,_]=>jv x.data.toList
 |_=>false
def Hr:aT->Int
 |[x]=>GJ (pV x).1
 |_=>0
def Ht:aT->Int
 |[x]=>GJ (pV x).2.1
 |_=>0
def Hu:aT->Int
 |[x,_]=>GJ x.data.toList
 |_=>0
def Hw:aT->ByteArray
 |[_,y]=>y
 |_=>⟨#[]⟩
structure aeE where
 roles:aT
 acts:aT
 labels:aT
 at_:aT
 need:aT
 rest:aT
def BZ(ws:aT):aT:=ws.tail
def Dj(ws:aT):aT:=uz sQ (BZ ws)
def Fg(ws:aT):aT:=uz qE (Dj ws)
def Dl(ws:aT):aT:=uz sS (Fg ws)
def B_(ws:aT):aT:=uz qF (Dl ws)
def yP(ws:aT):aT:=uz qG (B_ ws)
def oJ(ws:aT):aT:=oZ sQ (BZ ws)
def kX(ws:aT):aT:=oZ qE (Dj ws)
def oK(ws:aT):aT:=oZ sS (Fg ws)
def iG(ws:aT):aT:=oZ qF (Dl ws)
def jk(ws:aT):aT:=oZ qG (B_ ws)
def aR(ws:aT):Bool:=
 bL ws&&(!je sQ (BZ ws)|| !(oJ ws).isEmpty)&&(!je qE (Dj ws)||(wJ (kX ws)&& !(kX ws).isEmpty))&&
 (!je sS (Fg ws)|| !(oK ws).isEmpty)&&(!je qF (Dl ws)||sU (iG ws))&&(!je qG (B_ ws)||xO (jk ws))&&(yP ws).isEmpty
def Aj(ws:aT):aS:=
 {
  deny:=je vF ws,ra:=none,rn:=(oJ ws).length,rc:=0,roles:=oJ ws,aa:=none,an:=(kX ws).length,ac:=0,acts:=(kX ws).map mG,
  la:=none,ln:=(oK ws).length,lc:=0,labels:=oK ws,fr:=Hr (iG ws),tt:=Ht (iG ws),nd:=Hu (jk ws),ow:=Hw (jk ws)}
def NH(ws:aT):Bool:=
 bL ws&&(!je sQ (BZ ws)|| !(oJ ws).isEmpty)&&(!je qE (Dj ws)|| !(kX ws).isEmpty)&&(!je sS (Fg ws)|| !(oK ws).isEmpty)&&
 (!je qF (Dl ws)|| !(iG ws).isEmpty)&&(!je qG (B_ ws)|| !(jk ws).isEmpty)&&(yP ws).isEmpty&&wJ (kX ws)&&((iG ws).isEmpty||sU (iG ws))&&((jk ws).isEmpty||xO (jk ws))
theorem Hy{nm:ByteArray}{ws:aT}(h:je nm ws=false):oZ nm ws=[]:=by
 unfold oZ;rw[h];rfl
theorem Ny(ws:aT):NH ws=aR ws:=by
 unfold NH aR;have j:je qE (Dj ws)=false->kX ws=[]:=Hy;have u:je qF (Dl ws)=false->iG ws=[]:=Hy;have E:je qG (B_ ws)=false->jk ws=[]:=Hy;have al:wJ []=true:=F;have e2:([]:aT).isEmpty=true:=F;have aL:(iG ws).isEmpty=true->sU (iG ws)=false:=by
  intro h;rw[isEmpty_iff.1 h];rfl
 have ap:(jk ws).isEmpty=true->xO (jk ws)=false:=by
  intro h;rw[isEmpty_iff.1 h];rfl
 cases am:je qE (Dj ws)<;>cases an:je qF (Dl ws)<;>cases ao:je qG (B_ ws)
 all_goals
  (try rw[j am])
  (try rw[u an])
  (try rw[E ao])
  generalize bL ws=I;generalize (!je sQ (BZ ws)|| !(oJ ws).isEmpty)=R;generalize (!je sS (Fg ws)|| !(oK ws).isEmpty)=aa;generalize (yP ws).isEmpty=ab
 all_goals (revert aL ap;(try simp only[al,e2]);generalize (iG ws).isEmpty=ac;generalize (jk ws).isEmpty=ad;generalize (kX ws).isEmpty=ae;generalize sU (iG ws)=af;generalize xO (jk ws)=ag;generalize wJ (kX ws)=ai;revert I R aa ab ac ad ae af ag ai;decide)
def bB(l:aj):aT:=(vC (Lib.cut l [35]).1).map aY
def lU(s:aj):List (aT):=(kH 10 s).map bB
def Ak(ws:aT):Bool:=ws.isEmpty||aR ws
def wK(ls:List (aT)):List aS:=(ls.filter fun ws=> !ws.isEmpty).map Aj
def uD:List (aT)->Option Nat
 |[]=>none
 |ws::r=>if Ak ws then(uD r).map (· +1)else some 0
theorem Zv{ls:List (aT)}(h:∀ws∈ls,Ak ws=true):uD ls=none:=by induction ls<;>grind [uD]
theorem Zw{ls:List (aT)}{k:Nat}{ws:aT}(hk:ls[k]? =some ws)(j:∀x∈ls.take k,Ak x=true)(hb:Ak ws=false):uD ls=some k:=by
 induction ls generalizing k with
 |nil=>simp at hk
 |cons x ls E=>
  cases k with
  |zero=>
   simp at hk;subst hk;unfold uD;rw[if_neg (by rw[hb];simp)]
  |succ k=>
   rw[List.getElem?_cons_succ]at hk;rw[take_succ_cons]at j;unfold uD;rw[if_pos (j x aF),E hk fun y u=>j y (mem_cons_of_mem _ u)];rfl
theorem Rn{ls:List (aT)}{k:Nat}{ws:aT}(hk:ls[k]? =some ws):wK (ls.take (k+1))=wK (ls.take k)++(if ws.isEmpty then[]else[Aj ws]):=by
 unfold wK;rw[take_add_one,hk,filter_append,map_append]
 congr 1
 cases h:ws.isEmpty with
 |true=>simp[List.filter,h]
 |false=>simp[List.filter,h]
def Zx:Go.Shelf.Ren:=⟨fun|145=>131 |217=>295 |219=>238 |220=>188 |224=>297 |225=>296 |266=>328 |267=>298 |314=>329 |n=>n,fun|3=>3 |4=>4 |5=>5 |9=>9 |46=>141 |51=>239 |59=>214 |146=>393 |n=>n,fun|1=>0 |n=>n⟩
theorem Zy:Go.Proofs.Lays.n145 prog Zx:=by repeat' first|kernel_rfl|(intro _;kernel_rfl)|constructor
def Zz:Go.Shelf.Ren:=⟨fun|129=>224 |171=>141 |243=>195 |246=>255 |283=>305 |284=>306 |285=>307 |286=>308 |317=>336 |318=>337 |319=>338 |320=>339 |337=>347 |338=>348 |n=>n,fun|0=>0 |2=>2 |3=>3 |4=>4 |5=>5 |9=>9 |20=>20 |37=>32 |46=>141 |51=>239 |53=>246 |171=>376 |173=>378 |212=>402 |213=>403 |232=>30 |233=>77 |n=>n,fun|17=>1 |18=>6 |19=>7 |n=>n⟩
theorem Mf:Go.Proofs.LaysM.n171 prog Zz:=by repeat' first|kernel_rfl|(intro _;kernel_rfl)|constructor
def ZB:Go.Shelf.Ren:=⟨fun|129=>224 |171=>141 |172=>239 |205=>346 |243=>195 |244=>299 |245=>300 |246=>255 |247=>330 |279=>331 |280=>332 |281=>333 |282=>334 |283=>305 |284=>306 |285=>307 |286=>308 |287=>344 |316=>345 |317=>336 |318=>337 |319=>338 |320=>339 |321=>350 |322=>351 |337=>347 |338=>348 |n=>n,fun|0=>0 |2=>2 |3=>3 |4=>4 |5=>5 |9=>9 |20=>20 |21=>21 |37=>32 |46=>141 |51=>239 |53=>246 |75=>290 |76=>291 |80=>293 |85=>396 |127=>343 |143=>419 |145=>421 |167=>395 |168=>398 |171=>376 |173=>378 |175=>411 |210=>415 |212=>402 |213=>403 |232=>30 |233=>77 |n=>n,fun|15=>4 |16=>5 |17=>1 |18=>6 |19=>7 |n=>n⟩
theorem KR:Go.Proofs.LaysC.n172 prog ZB:=by repeat' first|kernel_rfl|(intro _;kernel_rfl)|constructor
def ZC:Go.Shelf.Ren:=⟨fun|138=>237 |143=>232 |146=>130 |195=>292 |197=>293 |217=>295 |218=>294 |219=>238 |221=>187 |224=>297 |225=>296 |260=>327 |266=>328 |267=>298 |268=>236 |314=>329 |n=>n,fun|0=>0 |3=>3 |4=>4 |5=>5 |9=>9 |21=>21 |31=>98 |46=>141 |51=>239 |105=>369 |119=>407 |138=>409 |139=>410 |146=>393 |n=>n,fun|1=>0 |3=>2 |4=>3 |n=>n⟩
theorem ZE:Go.Proofs.Lays.n146 prog ZC:=by repeat' first|kernel_rfl|(intro _;kernel_rfl)|constructor
def ZF:Go.Shelf.Ren:=⟨fun|229=>132 |n=>n,fun|0=>0 |3=>3 |4=>4 |9=>9 |21=>21 |31=>98 |40=>217 |152=>274 |154=>276 |n=>n,fun|n=>n⟩
theorem Ma:Go.Proofs.Lays.n229 prog ZF:=by repeat' first|kernel_rfl|(intro _;kernel_rfl)|constructor
structure Cb(w:World):Prop where
 ml:∃m,w.cell? ⟨0,0,none⟩=some (.int .i64 m)
 pw:Lib.TabIs prog w "internal/strconv.uint64pow10" .u64 Lib.pow10Tab
 sy:∃te pe,w.cell? ⟨4,0,none⟩=some (.iface te pe)
 ra:∃te pe,w.cell? ⟨5,0,none⟩=some (.iface te pe)
theorem KT{w w':World}{p:Addr}{v:Value}(h:w.cell? p=some v)(e:X w w'):w'.cell? p=some v:=by
 rw[e.cell (block_lt_of_cell h)];exact h
theorem Ro{w w':World}{j:String}{k:IntKind}{zs:List Int}{g:Nat}(h:Lib.TabIs prog w j k zs)(u:prog.globalNamed j=some g)(e:X w w'):Lib.TabIs prog w' j k zs:=by
 unfold Lib.TabIs World.var? at h⊢;rw[u]at h⊢;simp only[Option.bind_some]at h⊢;have j3:g<w.heap.size:=by
  by_cases E:g<w.heap.size
  ·exact E
  ·rw[Array.getElem?_eq_none J]at h;cases h
 rw[e.block g j3];exact h
theorem Cb.ext{w w':World}(h:Cb w)(e:X w w'):Cb w':=by
 obtain⟨⟨m,j⟩,u,⟨ab,R,E⟩,⟨ac,aa,I⟩⟩:=h;exact⟨⟨m,KT j e⟩,Ro (g:=1) u au e,⟨ab,R,KT E e⟩,⟨ac,aa,KT I e⟩⟩
theorem pW(l:aj):(aY l).data.toList=l:=by simp[aY]
theorem o7(l:aj):(aY l).size=l.length:=by show l.toArray.size=_;simp
theorem Rq(l j:aj)(w:World)(E:l.length<4294967281)(u:∃m,w.cell? ⟨0,0,none⟩=some (.int .i64 m)):
 nW 131 #[.string (aY l),.string (aY j)] w (.tuple #[.string (aY (Lib.cut l j).1),.string (aY (Lib.cut l j).2.1),.bool (Lib.cut l j).2.2]):=by
 obtain⟨m,u⟩:=u;have h:=Any.strings_Cut Zy (aY l) (aY j) m w (by rw[o7];exact E) u;rw[pW,pW]at h;refine h.mono ?_;rintro e w' ⟨rfl,n,rfl⟩;exact⟨F,(X.refl w).drewN n⟩
theorem wL(n:Int)(w:World)(j: -9223372036854775808<=n)(u:n<=9223372036854775807)(ht:Lib.TabIs prog w "internal/strconv.uint64pow10" .u64 Lib.pow10Tab):
 nW 141 #[.int .i64 n] w (.string (aY (Lib.itoa n))):=by
 refine(Any.strconv_Itoa Mf n j u w ht).mono ?_;rintro e w' ⟨rfl,k,E,rfl⟩;exact⟨F,Lib.below_grow _ w l5 k E⟩
theorem ZH(l:aj)(w:World)(u:l.length<=281474976710656)(h:GD l=true):
 nW 239 #[.string (aY l)] w (.tuple #[.int .i64 (gV l),.nilIface]):=by
 unfold GD at h;cases ha:Lib.atoiAll l with
 |range=>rw[ha]at h;cases h
 |ok v=>
  have j:gV l=v:=by unfold gV;rw[ha]
  rw[j];refine(Any.strconv_Atoi_ok KR (aY l) (by rw[o7];omega) v (by rw[pW];exact ha) w).mono ?_;rintro e w' ⟨rfl,rfl|⟨t,rfl⟩⟩
  ·exact⟨F,X.refl _⟩
  ·exact⟨F,Lib.bytesWorld_below _ _ _⟩
 |_=>rw[ha]at h;cases h
theorem ZI(l:aj)(w:World)(aa:l.length<=281474976710656)(h:GD l=false)(R:Cb w):
 Calls prog 239 #[.string (aY l)] w fun e w'=>∃N,e= .returned (.tuple #[.int .i64 (gV l),.iface 398 (.pointer (some ⟨N,0,none⟩))])/\X w w':=by
 obtain⟨_,_,⟨ad,ab,E⟩,⟨ae,ac,I⟩⟩:=R;unfold GD at h;cases ha:Lib.atoiAll l with
 |ok v=>rw[ha]at h;cases h
 |range=>
  have j:gV l=Lib.atoiSat l:=by unfold gV;rw[ha]
  rw[j];have u:=Any.strconv_Atoi_range KR (aY l) (by rw[o7];omega) (by rw[pW];exact ha) _ w I (.inr ⟨_,_,F⟩);rw[pW]at u;refine u.mono ?_;rintro e w' ⟨N,rfl, -, -,hb⟩;exact⟨N,F,hb⟩
 |_=>
  have j:gV l=0:=by unfold gV;rw[ha]
  rw[j];refine(Any.strconv_Atoi_syntax KR (aY l) (by rw[o7];omega) (by rw[pW];exact ha) _ w E (.inr ⟨_,_,F⟩)).mono ?_;rintro e w' ⟨N,rfl, -, -,hb⟩;exact⟨N,F,hb⟩
section
open Go Go.RowKit Go.Shelf Go.Sort
theorem KU(b:ByteArray):aY b.data.toList=b:=by
 cases b with
 |mk d=>simp[aY]
theorem Rt(bs:aT):(bs.map fun b=>b.data.toList).map aY=bs:=by simp_all [map_map,map_id,map_congr_left,KU]
theorem ZJ(l:aj)(c:UInt8):Lib.splitB (aY [c]) 0 (Lib.countB (aY l) (aY [c])) (aY l)=(kH c l).map aY:=by
 have h:=Lib.splitB_data (aY [c]) 0 (Lib.countB (aY l) (aY [c])) (aY l);have hc:Lib.countB (aY l) (aY [c])=Lib.count l [c]:=by
  show Lib.count (aY l).data.toList (aY [c]).data.toList=_;rw[pW,pW]
 rw[pW,pW,hc,KN]at h;rw[hc,<-h,Rt]
theorem ZK(l:aj)(c:UInt8)(w:World)(I:l.length<4294967281)(j:∃m,w.cell? ⟨0,0,none⟩=some (.int .i64 m)):
 Calls prog 130 #[.string (aY l),.string (aY [c])] w fun e w'=>e= .returned (.slice (some ⟨w.heap.size,0,none⟩) (kH c l).length (kH c l).length)/\ah w' w.heap.size (((kH c l).map aY).map bM) 9/\X w w':=by
 obtain⟨m,j⟩:=j;have h:=Any.strings_Split ZE au (aY l) (aY [c]) m w (by rw[o7];exact I) j (by rw[o7];simp);have u:=ZJ l c;have E:Lib.countB (aY l) (aY [c])+1=(kH c l).length:=by
  have:=Lib.splitB_all (aY [c]) (by rw[o7];simp) 0 _ (aY l) F;rw[u,length_map]at this;exact this.symm
 rw[u,E]at h;refine h.mono ?_;rintro e w' ⟨rfl,rfl⟩;exact⟨F,ah.yu w _ _,(X.refl w).alloc _⟩
end
section
open Go Go.RowKit
section
variable {P:Program} {ops:Array Oper} {rest:List Oper} {o:Oper} {a:Act} {w:World} {Q:Exit->Act->World->Prop}
theorem ZL{p:aN}{c k:Nat}{A:Addr}(h:p=some A):∃j,dL p c k=some j/\j.block=A.block:=by grind [dL,Addr.add]
theorem Hz(A:Addr):A.add 0=A:=by unfold Addr.add;split<;>simp_all
theorem Kj{t e:TypeId}{x y:Operand}{p:aN}{n c k:Nat}(I:o.op= .slice t x (some y) none none)(aa:a.eval x= .slice p n c)(ab:a.eval y= .int .i64 (k:Int))(R:P.underlying t=some (.slice e))(hs:(P.info? e).map (·.size)=some 1)(hk:k<=n)(w:World):
 (execOp a.eval o).run P w= .ok (.value (.slice (dL p c k) (n - k) (c - k))) w:=by
 cases j:P.info? e with
 |none=>simp[j]at hs
 |some i=>
  have E:i.size=1:=by simpa[j]using hs
  have u:(0:Int)<=k/\(k:Int)<=n:=J;unfold execOp;simp[I,aa,ab,Instr.sliceAt,Instr.slice,Instr.sliceBounds,Instr.sliceBound,asIntOf,run_underlying R,sizeOf,typeInfo,j,E,u.1,hk,dL]
theorem Ru{t e:TypeId}{x y:Operand}{p:aN}{n c k:Nat}(E:o.op= .slice t x none (some y) none)(R:a.eval x= .slice p n c)(aa:a.eval y= .int .i64 (k:Int))(I:P.underlying t=some (.slice e))(hs:(P.info? e).map (·.size)=some 1)(hk:k<=c)(w:World):
 (execOp a.eval o).run P w= .ok (.value (.slice p k c)) w:=by
 cases j:P.info? e with
 |none=>simp[j]at hs
 |some i=>
  have u:i.size=1:=by simpa[j]using hs
  have ab:(0:Int)<=k/\(k:Int)<=c:=J;have ha:p.map (fun x=>x.add 0)=p:=by
   cases p with
   |none=>rfl
   |some A=>
    show some (A.add 0)=some A;rw[show A.add 0=A by unfold Addr.add;split<;>simp_all]
  unfold execOp;simp[E,R,aa,Instr.sliceAt,Instr.slice,Instr.sliceBounds,Instr.sliceBound,asIntOf,run_underlying I,sizeOf,typeInfo,j,u,hk,ha]
end
theorem Rw(w:World)(r:Option Nat):w.grownBy w r:=⟨F,F,F,Nat.le_refl _,fun _ _ _=>rfl⟩
theorem ZM{w u w2:World}{r:Option Nat}(h:w.grownBy u r)(e:X u w2):w.grownBy w2 r:=
 ⟨e.os.trans h.os,e.tape.trans h.tape,e.output.trans h.output,Nat.le_trans h.size e.size,fun i j E=>(e.block i (Nat.lt_of_lt_of_le j h.size)).trans (h.block i j E)⟩
theorem Rx{w E w2:World}{g:Nat}(h:w.grownBy E (some g))(u:aU E g w2):w.grownBy w2 (some g):=
 ⟨u.os.trans h.os,u.tape.trans h.tape,u.output.trans h.output,Nat.le_trans h.size (Nat.le_of_eq u.size.symm),fun i I j=>(u.block i (fun e=>j (by rw[e]))).trans (h.block i I j)⟩
def xP(B:Nat)(a:aN)(n:Nat):Prop:=n=0∨∃A,a=some A/\B<=A.block
structure gK(w:World)(B:Nat)(a:aN)(n c:Nat)(ws:aT):Prop where
 hl:ws.length=n
 hnc:n<=c
 hm:n<=1000000
 hs:∀s∈ws,s.size<=1000000
 hi:xP B a n
 cell:aK w a (ws.map bM)
theorem gK.nil(w:World)(B:Nat):gK w B none 0 0 []:=⟨F,Nat.le_refl _,J,(fun _ h=>by cases h),.inl F,.inl F⟩
theorem gK.ext{w w':World}{B:Nat}{a:aN}{n c:Nat}{ws:aT}(h:gK w B a n c ws)(e:X w w'):gK w' B a n c ws:=⟨h.hl,h.hnc,h.hm,h.hs,h.hi,h.cell.ext e⟩
theorem gK.drop{w:World}{B:Nat}{a:aN}{n c:Nat}{ws:aT}(h:gK w B a n c ws){k:Nat}(hk:k<=n):gK w B (dL a c k) (n - k) (c - k) (ws.drop k):=by
 have j:=h.hl;have ad:=h.hnc;have ac:=h.hm;refine⟨by rw[length_drop,j],J,J,fun s hs=>h.hs s (mem_of_mem_drop hs),?_,?_⟩
 ·rcases h.hi with ab|⟨A,E,I⟩
  ·exact .inl J
  ·obtain⟨u,R,aa⟩:=ZL (c:=c) (k:=k) E;exact .inr ⟨u,R,by rw[aa];exact I⟩
 ·have:=h.cell.shift c k (n - k) J;rw[<-map_drop,<-map_take,take_of_length_le (by rw[length_drop,j];exact Nat.le_refl _)]at this;exact this
theorem gK.take{w:World}{B:Nat}{a:aN}{n c:Nat}{ws:aT}(h:gK w B a n c ws){k c':Nat}(hk:k<=n)(hc:k<=c'):gK w B a k c' (ws.take k):=by
 have u:=h.hl;have I:=h.hm;refine⟨by rw[length_take,u];omega,hc,J,fun s hs=>h.hs s (mem_of_mem_take hs),?_,?_⟩
 ·rcases h.hi with E|j
  ·exact .inl J
  ·exact .inr j
 ·have:=h.cell.take k;rw[<-map_take]at this;exact this
theorem gK.at{w:World}{B:Nat}{a:aN}{n c:Nat}{ws:aT}(h:gK w B a n c ws){k:Nat}{x:ByteArray}(j:ws[k]? =some x):∃A,a=some A/\w.cell? (A.add k)=some (.string x):=by
 have hk:=(List.getElem?_eq_some_iff.1 j).1;obtain⟨b,o,rfl,hc⟩:=h.cell.gQ (by rw[length_map];omega);refine⟨_,F,?_⟩;rw[dn];exact hc k _ (by rw[List.getElem?_map,j];rfl)
theorem Am(x y:ByteArray):(x.toList==y.toList)=decide (x=y):=by
 by_cases h:x=y
 ·subst h;simp
 ·rw[aP h];exact Bool.eq_false_iff.2 fun e=>h (by
   have e2:=beq_iff_eq.1 e;rw[ByteArray.toList_eq,ByteArray.toList_eq]at e2;cases x;cases y;simpa using e2)
theorem ZN(x:ByteArray):(x.toList==[100,101,110,121])=decide (x=vF):=by
 rw[<-Am,show vF.toList=[100,101,110,121] by rw[ByteArray.toList_eq];rfl]
theorem ZO(x:ByteArray):(x.toList==[97,108,108,111,119])=decide (x=Ai):=by
 rw[<-Am,show Ai.toList=[97,108,108,111,119] by rw[ByteArray.toList_eq];rfl]
theorem rP:(prog.info? 9).map (·.size)=some 1:=au
end
theorem ZP(x:ByteArray)(ls:aT)(a:aN)(n c:Nat)(w:World)(hn:ls.length=n)(Cw:n<=4611686018427387904)(ad:aK w a (ls.map bM)):
 Br 174 #[.slice a n c,.string x] w (.int .i64 (rO x ls)):=by
 obtain⟨u,ae⟩:=aB hn ad;obtain⟨ac,R⟩:=aC (rO x ls);rw[R];have ab:=O R;clear hn ad R;go_enter func174,ntmps174;go_wp2
 go_loop [5,8] (fun _ i=>∃k:Nat,k<=n/\i= .int .i64 (k:Int)/\Hid (x∉ls.take k)) (fun _ i=>n - (intOf i).toNat)
 case atStart=>exact⟨0,J,F,O aF⟩
 case round=>
  obtain⟨k,hk,rfl,ou⟩:=hrel;by_cases j3:k<n
  ·obtain⟨y,Ab⟩:∃y,ls[k]? =some y:=⟨ls[k]'(by rw[u.out];exact j3),aF⟩;obtain⟨A,rfl,nu⟩:∃A,a=some A/\w.cell? (A.add k)=some (.string y):=by
    obtain⟨g,o,rfl,h⟩:=ae.gQ (by rw[length_map,u.out];omega);exact⟨_,F,by rw[dn];exact h k _ (DC Ab)⟩
   have Cr:y≠x->x∉ls.take (k+1):=by
    intro h j;rw[take_add_one,Ab,mem_append]at j;rcases j with j|j
    ·exact ou j
    ·simp at j;exact h j.symm
   obtain⟨I,Ja⟩:=aB Cr Ab;have Cx:=(show((x.toList==y.toList)=true↔y=x)from(FQ x y).trans eq_comm);clear Ab Cr;by_cases ze:y=x
   ·have q:=Cx.2 ze;have aa:=Ja.out;rw[ze]at aa;have E:=O (show ac=(k:Int) by rw[<-ab.out];unfold rO;rw[Rj aa ou.out]);clear Cx aa I ou;go_wp2;go_ret;exact⟨by rw[E.out];rfl,F⟩
   ·have q:_=false:=Bool.eq_false_iff.2 fun h=>ze (Cx.1 h);have Im:=O (I ze);clear Cx ze I;go_wp2
    go_round
    case rel=>exact⟨k+1,J,by go_num,Im⟩
    case measure=>simp[intOf];omega
  ·obtain rfl:k=n:=J;have xL:=ou.out;rw[take_of_length_le (by rw[u.out];exact Nat.le_refl _)]at xL;have E:=O (show ac= -1 by rw[<-ab.out];unfold rO;rw[Ri.2 xL]);clear xL ou;go_wp2;go_ret;exact⟨by rw[E.out];rfl,F⟩
theorem Ry(w:World):
 Calls prog 191 #[] w fun e w'=>e= .returned (.slice (some ⟨w.heap.size,0,none⟩) 13 13)/\aK w' (some ⟨w.heap.size,0,none⟩) (((⟨#[]⟩:ByteArray)::pR).map bM)/\X w w':=by
 go_enter func191,ntmps191;go_wp2;go_ret;exact⟨F,aK.tO (ah.aI F F),(X.refl w).alloc _⟩
theorem Rz:pO prog 106 3 1 8:=⟨underlying106,⟨_,_,(info_parts (show(prog.info? 3).map (fun i=>(i.zero,i.size,i.bytes))=some (some (.int .i64 0),1,8) by kernel_rfl)).choose_spec.1,(info_parts (show(prog.info? 3).map (fun i=>(i.zero,i.size,i.bytes))=some (some (.int .i64 0),1,8) by kernel_rfl)).choose_spec.2.1,(info_parts (show(prog.info? 3).map (fun i=>(i.zero,i.size,i.bytes))=some (some (.int .i64 0),1,8) by kernel_rfl)).choose_spec.2.2.1,(info_parts (show(prog.info? 3).map (fun i=>(i.zero,i.size,i.bytes))=some (some (.int .i64 0),1,8) by kernel_rfl)).choose_spec.2.2.2,F⟩,aX⟩
theorem uF{w w':World}{e:TypeId}{z n B:Nat}{v:Value}{xs:aO}(h:w.ownsRow B e z v n xs)(k:X w w'):w'.ownsRow B e z v n xs:=um h (r:=none) ⟨k.os,k.tape,k.output,k.size,fun i j _=>k.block i j⟩ (fun _ _ h=>by cases h)
theorem rQ(w:World)(o:Obj):(w.alloc o).heap.size=w.heap.size+1:=Array.size_push ..
structure mJ(w:World):Prop where
 lw:Cb w
 sp:∀g,prog.globalNamed "strings.asciiSpace" =some g->Lib.TabIs prog w "strings.asciiSpace" .u8 Lib.asciiSpaceTab
theorem mJ.ext{w w':World}(h:mJ w)(e:X w w'):mJ w':=⟨h.lw.ext e,fun g j=>Ro (g:=g) (h.sp g j) j e⟩
theorem RD(l s:aj):(Lib.cut l s).1.length<=l.length/\(Lib.cut l s).2.1.length<=l.length:=by grind [Lib.cut]
section
open Go Go.RowKit
def aS.bare(r:aS):aS:={r with ra:=none,rc:=0,aa:=none,ac:=0,la:=none,lc:=0}
def xQ(d:Bool):aS:={deny:=d,ra:=none,rn:=0,rc:=0,roles:=[],aa:=none,an:=0,ac:=0,acts:=[],la:=none,ln:=0,lc:=0,labels:=[],fr:=0,tt:=0,nd:=0,ow:=⟨#[]⟩}
structure aS.Hi(B:Nat)(r:aS):Prop where
 r1:xP B r.ra r.rn
 r2:xP B r.aa r.an
 r3:xP B r.la r.ln
structure fH(w W:World)(B G:Nat)(r x:aS):Prop where
 q:r.bare=x
 ro:gK w B r.ra r.rn r.rc r.roles
 la:gK w B r.la r.ln r.lc r.labels
 al:r.acts.length=r.an
 Ad:r.an<=r.ac
 am:r.an<=1000000
 mF:aK W r.aa (r.acts.map lN)
 H6:r.an=0∨∃A,r.aa=some A/\G<A.block
 Hf:∀z∈r.acts,(Lit.int .i64 z).wf=true
 os:r.ow.size<=140737488355328
theorem fH.zero(w W:World)(B G:Nat)(d:Bool):fH w W B G (xQ d) (xQ d):=⟨F,gK.nil _ _,gK.nil _ _,F,Nat.le_refl _,by show 0<=_;omega,.inl F,.inl F,(fun _ h=>by cases h),by show(⟨#[]⟩:ByteArray).size<=_;decide⟩
variable {w W W':World} {B G:Nat} {r x:aS}
theorem fH.ext(h:fH w W B G r x)(e:X W W'):fH w W' B G r x:={h with mF:=h.mF.ext e}
theorem fH.upd{g:Nat}(h:fH w W B G r x)(u:aU W g W')(aa:g<=G):fH w W' B G r x:=by
 refine{h with mF:= ?_};rcases h.H6 with E|⟨A,I,hb⟩
 ·have:r.acts=[]:=length_eq_zero_iff.1 (by rw[h.al];exact E);rw[this];exact .inl F
 ·refine h.mF.grown (r:=some g) ⟨u.os,u.tape,u.output,by rw[u.size];exact Nat.le_refl _,fun i _ R=>u.block i (fun e=>R (by rw[e]))⟩ (fun y j=> ?_);rw[I]at j;injection j with j;rw[<-j];intro e;injection e with e;omega
theorem fH.yQ{g:Nat}(h:fH w W B G r x)(u:W.grownBy W' (some g))(R:g<=G):fH w W' B G r x:=by
 refine{h with mF:= ?_};rcases h.H6 with E|⟨A,I,hb⟩
 ·have:r.acts=[]:=length_eq_zero_iff.1 (by rw[h.al];exact E);rw[this];exact .inl F
 ·refine h.mF.grown (r:=some g) u (fun y j=> ?_);rw[I]at j;injection j with j;rw[<-j];intro e;injection e with e;omega
theorem fH.ok(h:fH w W B G r x)(e:X w W):r.Ok W:=
 ⟨h.ro.hl,h.ro.hnc,Nat.le_trans h.ro.hm J,h.ro.cell.ext e,(fun s hs=>Nat.le_trans (h.ro.hs s hs) J),h.al,h.Ad,Nat.le_trans h.am J,h.mF,h.Hf,h.la.hl,h.la.hnc,Nat.le_trans h.la.hm J,h.la.cell.ext e,(fun s hs=>Nat.le_trans (h.la.hs s hs) J),h.os⟩
theorem fH.hi(h:fH w W B G r x)(E:B<=G):r.Hi B:=
 ⟨h.ro.hi,h.H6.imp id (fun⟨A,j,u⟩=>⟨A,j,J⟩),h.la.hi⟩
theorem fH.roles{a:aN}{n c:Nat}{ws:aT}(h:fH w W B G r x)(k:gK w B a n c ws):
 fH w W B G {r with ra:=a,rn:=n,rc:=c,roles:=ws} {x with rn:=ws.length,roles:=ws}:=
 {h with ro:=k,q:=by rw[<-h.q,k.hl];rfl}
theorem fH.labels{a:aN}{n c:Nat}{ws:aT}(h:fH w W B G r x)(k:gK w B a n c ws):
 fH w W B G {r with la:=a,ln:=n,lc:=c,labels:=ws} {x with ln:=ws.length,labels:=ws}:=
 {h with la:=k,q:=by rw[<-h.q,k.hl];rfl}
theorem fH.need(h:fH w W B G r x)(n:Int)(o:ByteArray)(j:o.size<=140737488355328):fH w W B G {r with nd:=n,ow:=o} {x with nd:=n,ow:=o}:=
 {h with q:=by rw[<-h.q];rfl,os:=j}
theorem fH.acts{a:aN}{n c B0:Nat}{zs:List Int}(h:fH w W B G r x)(k:W.ownsRow B0 3 1 (.slice a n c) zs.length (zs.map lN))(af:G<B0)(R:zs.length<=1000000)(ad:∀z∈zs,(Lit.int .i64 z).wf=true):
 fH w W B G {r with aa:=a,an:=n,ac:=c,acts:=zs} {x with an:=zs.length,acts:=zs}:=by
 obtain⟨ae,c',u,ab,_,hc⟩:=iJ k;injection u with j e2 E;subst j e2 E;refine{h with al:=F,Ad:=ab,am:=R,mF:=hc,H6:= ?_,Hf:=ad,q:=by rw[<-h.q];rfl};rcases k.2 with⟨hn,I⟩|⟨g,cap,cu,u,hb,_⟩
 ·left
  first|exact I|(injection hn)
 ·right
  injection u with j e2 E;exact⟨_,j,by show G<g;omega⟩
theorem fH.to{x':aS}(h:fH w W B G r x)(e:x=x'):fH w W B G r x':=e▸h
theorem ZQ{α:Type}:∀(l:List α),l.length=2->∃x y,l=[x,y]
 |[x,y],_=>⟨x,y,F⟩
variable {G1 G2 G4 n c n' c':Nat} {ok ok':Bool} {ws ws':aT} {a a':aN} {wx wy:World} {x' r':aS}
end
theorem xR(w:World)(o:Obj):(w.alloc o).heap.size=w.heap.size+1:=Array.size_push ..
section
open Go Go.RowKit
section
variable {P:Program} {t e:TypeId} {z y:Nat} {ops:Array Oper} {rest:List Oper} {o:Oper} {a:Act} {w:World} {Q:Exit->Act->World->Prop}
theorem Cc(T:pO P t e z y)(an:z<=100000)(R:o.guard=none){x:Operand}{cs:aO}(ac:o.op= .buildSlice t 1 #[(0,x)])(ag:a.eval x= .agg cs.toArray)(ab:cs.length=z)
 (h:wpList P ops Q rest (a.put o.dst (.slice (some ⟨w.heap.size,0,none⟩) 1 1)) (w.alloc (.cells cs.toArray e))):wpList P ops Q (o::rest) a w:=by
 obtain⟨al,ap,aa,ai,mU,am,ao⟩:=T.info;have ad:=T.pos;refine wpList_plain R fun K E=> ?_;have hf:∀j:Array Value,j.size=z->Instr.fill (fun i=>some (i*z,z)) j [(0,.agg cs.toArray)]=some cs.toArray:=by
  intro j hc;have h:=Great.fill_whole (s:=z) ad [.agg cs.toArray] j (by intro v af;rw[mem_singleton.1 af];simp[Value.cells,ab]) (by simp[hc]);simpa[Value.cells]using h
 have ae:(execOp a.eval o).run P w= .ok (.value (.slice (some ⟨w.heap.size,0,none⟩) 1 1)) (w.alloc (.cells cs.toArray e)):=by
  have h:=run_buildSlice (P:=P) w t e 1 #[(0,.agg cs.toArray)] cs.toArray al _ T.hu aa ai (by rw[mU];omega) (by rw[mU];omega) (by rw[mU];exact hf _ aF);have I:(#[(0,x)].map fun(p:Nat×Operand)=>(p.1,a.eval p.2))= #[(0,.agg cs.toArray)]:=by simp[ag]
  unfold execOp;simp only[ac,Sem.run_bind];have u:(Instr.buildSlice t 1 (#[(0,x)].map fun(p:Nat×Operand)=>(p.1,a.eval p.2))).run P w= .ok (.slice (some ⟨w.heap.size,0,none⟩) 1 1) (w.alloc (.cells cs.toArray e)):=by rw[I];exact h
  rw[u];rfl
 unfold Oper.wp;rw[ae,Oper.upon_value];exact E _ _ h
end
theorem H7:(prog.info? 192).map (fun i=>(i.zero,i.size,i.bytes))=some (some (.agg BX.toArray),8,120):=au
theorem ZR:pO prog 150 192 8 120:=⟨underlying150,⟨_,_,(info_parts H7).choose_spec.1,(info_parts H7).choose_spec.2.1,(info_parts H7).choose_spec.2.2.1,(info_parts H7).choose_spec.2.2.2,F⟩,aX⟩
theorem ZT(b:UInt8)(ls:List (aj))(h:ls≠[]):(Ho b ls).length=ls.length:=by
 cases ls with
 |nil=>exact absurd F h
 |cons x r=>rfl
theorem RF(c:UInt8):∀l:aj,(kH c l).length<=l.length+1
 |[]=>by simp[kH]
 |b::l=>by
  have ih:=RF c l;unfold kH;split
  ·simp;omega
  ·rw[ZT b _ (KO c l),length_cons];omega
theorem RG(c:UInt8):∀(l:aj),∀x∈kH c l,x.length<=l.length
 |[],x,h=>by simp[kH]at h;subst h;simp
 |b::l,x,h=>by
  have ih:=RG c l;unfold kH at h;split at h
  ·rcases mem_cons.1 h with rfl|h
   ·simp
   ·have:=ih x h;simp;omega
  ·cases hs:kH c l with
   |nil=>exact absurd hs (KO c l)
   |cons y r=>
    rw[hs]at h ih;rcases mem_cons.1 h with rfl|h
    ·have:=ih y aF;simp;omega
    ·have:=ih x (mem_cons_of_mem _ h);simp;omega
theorem H8(q:UInt8->Bool):∀(l cu:aj),∀x∈oI q cu l,x.length<=cu.length+l.length
 |[],cu,x,h=>by
  unfold oI at h;split at h
  ·cases h
  ·simp at h;subst h;simp
 |b::l,cu,x,h=>by
  unfold oI at h;split at h
  ·split at h
   ·have:=H8 q l [] x h;simp at this⊢;omega
   ·rcases mem_cons.1 h with rfl|h
    ·simp
    ·have:=H8 q l [] x h;simp at this⊢;omega
  ·have:=H8 q l (cu++[b]) x h;simp at this⊢;omega
theorem H9(q:UInt8->Bool):∀(l cu:aj),(oI q cu l).length<=l.length+1
 |[],cu=>by
  unfold oI;split<;>simp
 |b::l,cu=>by
  unfold oI;split
  ·split
   ·have:=H9 q l [];simp;omega
   ·have:=H9 q l [];simp;omega
  ·have:=H9 q l (cu++[b]);simp;omega
noncomputable def jH(s:aj):Int:=if 65536<s.length then 5 else match uD (lU s)with|some _=>11 |none=>jG (wK (lU s)) (wK (lU s)).length
def wM(s:aj):Int:=if 65536<s.length then 0 else match uD (lU s)with|some k=>(k:Int)|none=>0
noncomputable def mM(s:aj):List aS:=if jH s=0 then wK (lU s)else[]
theorem ZU(r:aS):jd r.bare=jd r:=F
theorem RH:∀rs:List aS,sO (rs.map aS.bare)=sO rs
 |[]=>rfl
 |r::rs=>by
  rw[map_cons];unfold sO;rw[ZU,RH rs]
theorem KW{rs j:List aS}(h:rs.map aS.bare=j)(n:Nat):jG j n=jG rs n:=by
 unfold jG;rw[<-h,RH]
theorem RI{s:aj}(h:65536<s.length):jH s=5/\wM s=0/\mM s=[]:=by grind [jH,wM,mM]
theorem RJ{s:aj}{k:Nat}(h:¬65536<s.length)(hb:uD (lU s)=some k):jH s=11/\wM s=k/\mM s=[]:=by grind [jH,wM,mM]
theorem RN{s:aj}(h:¬65536<s.length)(hb:uD (lU s)=none):jH s=jG (wK (lU s)) (wK (lU s)).length/\wM s=0:=by grind [jH,wM]
def wO(q:Option Nat)(a:aN)(n:Nat):Prop:=n=0∨∃A,a=some A/\q≠some A.block
structure aS.Off(q:Option Nat)(r:aS):Prop where
 r1:wO q r.ra r.rn
 r2:wO q r.aa r.an
 r3:wO q r.la r.ln
theorem xP.off{B:Nat}{a:aN}{n:Nat}{q:Option Nat}(h:xP B a n)(j:∀g,q=some g->g<B):wO q a n:=by grind [xP,wO]
theorem aS.Hi.off{B:Nat}{r:aS}{q:Option Nat}(h:r.Hi B)(j:∀g,q=some g->g<B):r.Off q:=⟨h.r1.off j,h.r2.off j,h.r3.off j⟩
theorem aS.Hi.mono{B B':Nat}{r:aS}(h:r.Hi B)(hb:B'<=B):r.Hi B':=
 ⟨h.r1.imp id (fun⟨A,j,u⟩=>⟨A,j,J⟩),h.r2.imp id (fun⟨A,j,u⟩=>⟨A,j,J⟩),h.r3.imp id (fun⟨A,j,u⟩=>⟨A,j,J⟩)⟩
theorem wO.cells{w w':World}{q:Option Nat}{a:aN}{n:Nat}{xs:aO}(h:wO q a n)(R:xs.length=n)(hc:aK w a xs)(k:w.grownBy w' q):aK w' a xs:=by
 rcases h with I|⟨A,u,E⟩
 ·have:xs=[]:=length_eq_zero_iff.1 J;rw[this];exact .inl F
 ·refine hc.grown k (fun y j=> ?_);rw[u]at j;injection j with j;rw[<-j];exact fun e=>E e.symm
theorem aS.Ok.yQ{w w':World}{r:aS}{q:Option Nat}(h:r.Ok w)(j:r.Off q)(k:w.grownBy w' q):r.Ok w':=
 {h with nU:=j.r1.cells (by rw[length_map];exact h.rl) h.nU k,mF:=j.r2.cells (by rw[length_map];exact h.al) h.mF k,sN:=j.r3.cells (by rw[length_map];exact h.ll) h.sN k}
theorem U6{w:World}{a:aN}{xs:aO}(hc:aK w a xs)(h:xs≠[]):∃A,a=some A/\A.block<w.heap.size:=by
 rcases hc with j|⟨b,o,rfl,hc⟩
 ·exact absurd j h
 ·obtain⟨x,r,rfl⟩:∃x r,xs=x::r:=by
   cases xs with
   |nil=>exact absurd F h
   |cons x r=>exact⟨x,r,F⟩
  have:=hc 0 x F;exact⟨_,F,block_lt_of_cell this⟩
theorem KX{w:World}{a:aN}{n:Nat}{xs:aO}(hc:aK w a xs)(u:xs.length=n):wO (some w.heap.size) a n:=by
 by_cases h:xs=[]
 ·left;rw[<-u,h];rfl
 ·obtain⟨A,j,E⟩:=U6 hc h;exact .inr ⟨A,j,fun e=>by injection e with e;omega⟩
theorem aS.Ok.H_{w:World}{r:aS}(h:r.Ok w):r.Off (some w.heap.size):=
 ⟨KX h.nU (by rw[length_map];exact h.rl),KX h.mF (by rw[length_map];exact h.al),KX h.sN (by rw[length_map];exact h.ll)⟩
structure sV(w:World)(G2 G5 g0 B:Nat)(s:aj)(k:Nat)(a:aN)(c:Nat)(rs:List aS)(wx:World):Prop where
 e:X w wx
 b2:ah wx G2 [.slice none 0 0] 152
 b5:ah wx G5 [.slice a rs.length c] 152
 ln:ah wx g0 (((kH 10 s).map aY).map bM) 9
 own:wx.ownsRow B 192 8 (.slice a rs.length c) rs.length (uw rs)
 ru:rs.map aS.bare=wK ((lU s).take k)
 ok:∀r∈rs,r.Ok wx
 hi:∀r∈rs,r.Hi B
 off:∀r∈rs,r.Off (Value.slice a rs.length c).ownBlock
 good:∀x∈(lU s).take k,Ak x=true
 cnt:rs.length<=k
variable {w wx wy wz:World} {G2 G5 g0 B k c c':Nat} {s:aj} {a a':aN} {rs:List aS} {r:aS}
theorem sV.ext(h:sV w G2 G5 g0 B s k a c rs wx)(e:X wx wy):sV w G2 G5 g0 B s k a c rs wy:=
 {h with e:=h.e.ext e,b2:=h.b2.ext e,b5:=h.b5.ext e,ln:=h.ln.ext e,own:=uF h.own e,ok:=fun r j=>(h.ok r j).ext e}
theorem sV.skip(h:sV w G2 G5 g0 B s k a c rs wx){ws:aT}(hk:(lU s)[k]? =some ws)(u:ws=[]):sV w G2 G5 g0 B s (k+1) a c rs wx:=by
 subst u;refine{h with ru:= ?_,good:= ?_,cnt:=by have:=h.cnt;omega}
 ·rw[Rn hk,h.ru];simp
 ·intro x j;rw[take_add_one,hk,mem_append]at j;rcases j with j|j
  ·exact h.good x j
  ·simp at j;rw[j];rfl
theorem ZV(rs:List aS)(r:aS):uw (rs++[r])=uw rs++r.v:=by grind [uw]
theorem sV.push(h:sV w G2 G5 g0 B s k a c rs wx){ws:aT}(hk:(lU s)[k]? =some ws)(al:ws≠[])(ax:aR ws=true)(a3:w.heap.size<=G2)(ao:G2≠G5)(aq:w.heap.size<=G5)(am:g0≠G5)(a2:G5<B)(ap:G2<B)(an:g0<B)(a0:w.heap.size<=B)
 {g1:Nat}(hb:r.bare=Aj ws)(aE:r.Ok wx)(ab:r.Hi g1)(ar:B<=g1)(az:∀g,(Value.slice a rs.length c).ownBlock=some g->g<g1)
 (ad:wy.ownsRow B 192 8 (.slice a' (rs.length+1) c') (rs.length+1) (uw rs++r.v))(E:wx.grownBy wy (Value.slice a rs.length c).ownBlock)(hn:(Value.slice a' (rs.length+1) c').ownBlock=(Value.slice a rs.length c).ownBlock∨(Value.slice a' (rs.length+1) c').ownBlock=some wx.heap.size)
 (u:aU wy G5 wz)(ai:ah wz G5 [.slice a' (rs.length+1) c'] 152):
 sV w G2 G5 g0 B s (k+1) a' c' (rs++[r]) wz:=by
 have I:(rs++[r]).length=rs.length+1:=aF;have aa:∀g,(Value.slice a rs.length c).ownBlock=some g->B<=g:=fun g e=>(h.own.lt g e).1;have ac:∀g,g<B->some g≠(Value.slice a rs.length c).ownBlock:=fun g E e=>by have:=aa g e.symm;omega
 have R:∀x∈rs++[r],x.Ok wz/\x.Hi B/\x.Off (Value.slice a' (rs.length+1) c').ownBlock:=by
  intro x j;have a1:x.Ok wx/\x.Hi B/\x.Off (Value.slice a rs.length c).ownBlock:=by
   rcases mem_append.1 j with j|j
   ·exact⟨h.ok x j,h.hi x j,h.off x j⟩
   ·rw[mem_singleton]at j;subst j;exact⟨aE,ab.mono ar,ab.off az⟩
  obtain⟨ae,af,ag⟩:=a1;refine⟨(ae.yQ ag E).yQ (af.off (q:=some G5) (fun g e=>by injection e with e;omega)) (qC u),af,?_⟩;rcases hn with hn|hn
  ·rw[hn];exact ag
  ·rw[hn];exact ae.H_
 refine⟨?_,?_,by rw[I];exact ai,?_,?_,?_,fun x j=>(R x j).1,fun x j=>(R x j).2.1,fun x j=>by rw[I];exact(R x j).2.2,?_,by have:=h.cnt;omega⟩
 ·exact u.ext (h.e.grown E (fun g e=>Nat.le_trans a0 (aa g e))) aq
 ·exact(h.b2.grown E (ac _ ap)).upd u ao
 ·exact(h.ln.grown E (ac _ an)).upd u am
 ·rw[I,ZV];refine um ad (qC u) (fun g aw e=> ?_);injection e with e;have:=(ad.lt g aw).1;omega
 ·rw[Rn hk,map_append,h.ru];have:ws.isEmpty=false:=by
   cases ws with
   |nil=>exact absurd F al
   |cons y z=>rfl
  rw[this];simp[hb]
 ·intro x j;rw[take_add_one,hk,mem_append]at j;rcases j with j|j
  ·exact h.good x j
  ·simp at j;rw[j];unfold Ak;rw[ax,Bool.or_true]
theorem sV.pol(h:sV w G2 G5 g0 B s k a c rs wx)(hk:k<=1000000):lG wx a rs.length c rs:=by grind [sV,lG,iJ]
theorem ZW{s:aj}{k:Nat}{l:aj}(h:(kH 10 s)[k]? =some l):(lU s)[k]? =some (bB l):=by grind [lU]
theorem ZX(s:aj):(lU s).length=(kH 10 s).length:=by unfold lU;rw[length_map]
end
def RP:Go.Shelf.Ren:=⟨fun|156=>144 |165=>198 |166=>199 |169=>200 |240=>257 |241=>258 |276=>317 |277=>318 |n=>n,fun|0=>0 |3=>3 |4=>4 |5=>5 |9=>9 |20=>20 |31=>98 |37=>32 |70=>285 |72=>287 |75=>290 |76=>291 |80=>293 |127=>343 |164=>385 |n=>n,fun|n=>n⟩
theorem aev:Go.Proofs.Lays.n156 prog RP:=by repeat' first|kernel_rfl|(intro _;kernel_rfl)|constructor
theorem ZY:Go.Proofs.Builder.Extra prog RP:=by repeat' first|kernel_rfl|(intro _;kernel_rfl)|decide|constructor
def KY(B b:Nat)(l:aj)(w:World):Prop:=Lib.IsBuilder 287 5 B b (Lib.byteCells l) w
theorem KY.ext{B b:Nat}{l:aj}{w w':World}(h:KY B b l w)(e:X w w'):KY B b l w':=by
 have at_:∀p,Lib.BuilderAt 287 5 B b p (Lib.byteCells l) w->Lib.BuilderAt 287 5 B b p (Lib.byteCells l) w':=by
  intro p h;have j3:=h.lt;obtain⟨j,v,u,E,I⟩:=h;exact⟨j,v,(e.block b j3).trans u,uF E e,I⟩
 rcases h with h|h
 ·exact .inl (at_ _ h)
 ·exact .inr (at_ _ h)
theorem KZ(a:aN)(n c:Nat)(xs:aT)(w:World)(ab:xs.length=n)(ad:n<=c)(E:xs≠[])(hn:n<=140737488355328)(aa:aK w a (xs.map bM))
 (ac:(Lib.join (xs.map (·.data.toList)) [32]).length<=140737488355328):
 nW 144 #[.slice a n c,.string (aY [32])] w (.string (aY (Lib.join (xs.map (·.data.toList)) [32]))):=by
 subst ab;obtain⟨u,o,rfl,hc⟩:=aa.gQ (by
  rw[length_map];cases xs with
  |nil=>exact absurd F E
  |cons x r=>simp)
 have I:∀(j:Nat) x,xs[j]? =some x->w.cell? ⟨u,o+j,none⟩=some (.string x):=fun j x h=>hc j _ (by rw[List.getElem?_map,h];rfl);have R:u<w.heap.size:=by
  cases xs with
  |nil=>exact absurd F E
  |cons x r=>exact block_lt_of_cell (I 0 x F)
 have h:=Any.strings_Join aev ZY u o c xs (aY [32]) w I R hn ad (by rw[pW];exact ac);rw[pW]at h;exact h
def qH(z:Int):ByteArray:=pR.getD (z - 1).toNat ⟨#[]⟩
def Ce(f t:Int):ByteArray:=aY (Lib.itoa f++45::Lib.itoa t)
def Ia(r:aS):aT:=if r.roles=[]then[]else sQ::r.roles
def Ci(r:aS):aT:=if r.acts=[]then[]else qE::r.acts.map qH
def Ib(r:aS):aT:=if r.labels=[]then[]else sS::r.labels
def uG(r:aS):aT:=if r.fr=r.tt then[]else[qF,Ce r.fr r.tt]
def FE(r:aS):aT:=if 0<r.nd then[qG,aY (Lib.itoa r.nd),r.ow]else[]
def AL(d:Bool):ByteArray:=if d then vF else Ai
def wP(r:aS):aT:=[AL r.deny]++Ia r++Ci r++Ib r++uG r++FE r
def Ap(r:aS):aj:=Lib.join ((wP r).map (·.data.toList)) [32]
def iR(rs:List aS):aj:=rs.flatMap fun r=>Ap r++[10]
theorem Ic(rs:List aS):iR (rs.map aS.bare)=iR rs:=by
 unfold iR;rw[flatMap_map];rfl
theorem Z4(x y:aj):aY x++aY y=aY (x++y):=by
 apply ByteArray.ext;simp[aY,ByteArray.data_append]
theorem K_{o:Oper}{a:Act}{x y:Operand}{u v:aj}(E:o.op= .binOp .add 9 x y 9)(I:a.eval x= .string (aY u))(R:a.eval y= .string (aY v))(h:u.length+v.length<=9223372036854775807)(w:World):
 (execOp a.eval o).run prog w= .ok (.value (.string (aY (u++v)))) w:=by
 have j:¬9223372036854775807<(aY u).size+(aY v).size:=by
  show¬9223372036854775807<u.toArray.size+v.toArray.size;simp;omega
 unfold execOp;simp only[E,I,R,Sem.run_bind]
 go_simp
 simp[j,Z4]
theorem jf{o:Oper}{a:Act}{x y:Operand}{u v r:aj}(E:u++v=r)(j:o.op= .binOp .add 9 x y 9)(I:a.eval x= .string (aY u))(R:a.eval y= .string (aY v))(h:u.length+v.length<=9223372036854775807)(w:World):
 (execOp a.eval o).run prog w= .ok (.value (.string (aY r))) w:=by
 subst E;exact K_ j I R h w
section
open Go Go.RowKit
theorem Z5{w:World}{B q:Nat}{e:TypeId}{z n cap:Nat}{xs rest:aO}(hb:ah w q (xs++rest) e)(E:(xs++rest).length=cap*z)(j:xs.length=n*z)(u:B<=q)(hn:n<=cap)(hc:cap<=maxLen):
 w.ownsRow B e z (.slice (some ⟨q,0,none⟩) n cap) n xs:=
 ⟨j,.inr ⟨q,cap,(xs++rest).toArray,F,u,hb,hn,hc,by simpa using E,by simp[<-j]⟩⟩
theorem Ie:(prog.info? 9).map (fun i=>(i.zero,i.size,i.bytes))=some (some (.string ⟨#[]⟩),1,16):=au
theorem RQ:pO prog 98 9 1 16:=⟨underlying98,⟨_,_,(info_parts Ie).choose_spec.1,(info_parts Ie).choose_spec.2.1,(info_parts Ie).choose_spec.2.2.1,(info_parts Ie).choose_spec.2.2.2,F⟩,aX⟩
structure Ig(r:aS):Prop where
 n1:r.rn<=16
 n2:r.an<=16
 n3:r.ln<=16
 s1:∀s∈r.roles,s.size<=33
 s3:∀s∈r.labels,s.size<=33
 a1:∀z∈r.acts,1<=z/\z<=12
 f1:0<=r.fr/\r.fr<=24
 t1:0<=r.tt/\r.tt<=24
 d1:0<=r.nd/\r.nd<=16
 o1:r.ow.size<=33
theorem RS{s:ByteArray}(h:rJ s=false):s.size<=33:=by
 unfold rJ jK at h;have j:s.data.toList.length<=32:=by
  simp only[Bool.not_eq_false',Bool.and_eq_true,decide_eq_true_eq]at h;exact h.2
 rw[Array.length_toList]at j;exact Nat.le_trans j J
theorem Z7{s:ByteArray}(h:yO s=false):s.size<=33:=by
 unfold yO BU at h;simp only[Bool.not_eq_false',Bool.or_eq_true,Bool.and_eq_true]at h;have j:(Gd s.data.toList).length<=32:=by
  rcases h with h|h
  ·unfold jK at h;simp only[Bool.and_eq_true,decide_eq_true_eq]at h;exact h.2
  ·rw[isEmpty_iff.1 h.2];simp
 have hs:s.data.toList.length<=(Gd s.data.toList).length+1:=by
  unfold Gd Lib.trimSuffix;split
  ·simp;omega
  ·omega
 rw[Array.length_toList]at hs;exact Nat.le_trans hs J
theorem RU{r:aS}{W:World}(al:r.Ok W)(h:jd r=0):Ig r:=by
 unfold jd at h;split at h
 ·cases h
 rename_i u;split at h
 ·cases h
 rename_i E;split at h
 ·cases h
 rename_i I;split at h
 ·cases h
 rename_i R;split at h
 ·cases h
 split at h
 ·cases h
 rename_i j;unfold k1 at u;unfold k2 at E;unfold k3 at I;unfold k4 at R;unfold k6 at j;simp only[Bool.or_eq_true,decide_eq_true_eq,not_or]at u;simp only[Bool.or_eq_true,Bool.and_eq_true,decide_eq_true_eq,not_or]at j;have r2:r.roles.any rJ=false/\(uq r.ow=true∨rJ r.ow=false):=by
  revert E;cases r.roles.any rJ<;>cases uq r.ow<;>cases rJ r.ow<;>simp
 have ab:r.acts.any Af=false:=by revert I;cases r.acts.any Af<;>simp
 have ac:r.labels.any yO=false:=by revert R;cases r.labels.any yO<;>simp
 rw[any_eq_false]at ab ac;have aa:=r2.1;rw[any_eq_false]at aa;obtain⟨⟨⟨⟨ag,ai⟩,am,an⟩,_⟩,ae,af⟩:=j;refine⟨J,J,J,fun s hs=>RS (by simpa using aa s hs),fun s hs=>Z7 (by simpa using ac s hs),fun z ad=> ?_,⟨J,J⟩,⟨J,J⟩,⟨J,J⟩,?_⟩
 ·have:=ab z ad;unfold Af Ac at this;simp at this;exact this
 ·rcases r2.2 with h|h
  ·unfold uq at h;rw[ByteArray.toList_eq,isEmpty_iff]at h;have:r.ow.data.toList.length=0:=by rw[h];rfl
   rw[Array.length_toList]at this;show r.ow.data.size<=33;omega
  ·exact RS h
theorem ED{n:Int}(j:0<=n)(u:n<=24):(Lib.itoa n).length<=20:=Ah J J
theorem Z8(z:Int):(qH z).size<=60:=by
 unfold qH;rw[getD_eq_getElem?_getD];cases h:pR[(z - 1).toNat]? with
 |none=>show(⟨#[]⟩:ByteArray).size<=60;decide
 |some x=>
  have:=mem_of_getElem? h;exact(show∀x∈pR,x.size<=60 by decide) x this
theorem Z9{r:aS}(h:Ig r):∀x∈wP r,x.size<=60:=by
 intro x j;unfold wP at j;simp only[mem_append]at j;rcases j with((((j|j)|j)|j)|j)|j
 ·rw[mem_singleton]at j;subst j;unfold AL;split
  ·show vF.size<=60;decide
  ·show Ai.size<=60;decide
 ·unfold Ia at j;split at j
  ·cases j
  ·rcases mem_cons.1 j with rfl|j
   ·show sQ.size<=60;decide
   ·have:=h.s1 x j;omega
 ·unfold Ci at j;split at j
  ·cases j
  ·rcases mem_cons.1 j with rfl|j
   ·show qE.size<=60;decide
   ·obtain⟨z,_,rfl⟩:=mem_map.1 j;exact Z8 z
 ·unfold Ib at j;split at j
  ·cases j
  ·rcases mem_cons.1 j with rfl|j
   ·show sS.size<=60;decide
   ·have:=h.s3 x j;omega
 ·unfold uG at j;split at j
  ·cases j
  ·rcases mem_cons.1 j with rfl|j
   ·show qF.size<=60;decide
   ·rw[mem_singleton]at j;subst j;unfold Ce;rw[o7];have u:=ED h.f1.1 h.f1.2;have E:=ED h.t1.1 h.t1.2;simp;omega
 ·unfold FE at j;split at j
  ·rcases mem_cons.1 j with rfl|j
   ·show qG.size<=60;decide
   ·rcases mem_cons.1 j with rfl|j
    ·rw[o7];have u:=ED h.d1.1 (by have:=h.d1.2;omega);omega
    ·rw[mem_singleton]at j;subst j;have:=h.o1;omega
  ·cases j
theorem Z_{r:aS}{W:World}(j:r.Ok W)(h:Ig r):(wP r).length<=60:=by
 have u:(Ia r).length<=17:=by
  have:=j.rl;have:=h.n1;unfold Ia;split
  ·simp
  ·rw[length_cons];omega
 have E:(Ci r).length<=17:=by
  have:=j.al;have:=h.n2;unfold Ci;split
  ·simp
  ·rw[length_cons,length_map];omega
 have I:(Ib r).length<=17:=by
  have:=j.ll;have:=h.n3;unfold Ib;split
  ·simp
  ·rw[length_cons];omega
 have R:(uG r).length<=2:=by unfold uG;split<;>simp
 have aa:(FE r).length<=3:=by unfold FE;split<;>simp
 unfold wP;simp only[length_append,length_cons,length_nil];omega
theorem RV(M:Nat):∀xs:List (aj),(∀x∈xs,x.length<=M)->(Lib.join xs [32]).length<=xs.length*(M+1)
 |[],_=>by simp[Lib.join]
 |[x],h=>by
  have:=h x aF;simp[Lib.join];omega
 |x::y::r,h=>by
  have E:=h x aF;have j:=RV M (y::r) (fun z u=>h z (mem_cons_of_mem _ u));have e:Lib.join (x::y::r) [32]=x++[32]++Lib.join (y::r) [32]:=by simp[Lib.join]
  rw[e,length_append,length_append,length_cons (a:=x),Nat.add_mul];simp only[length_cons,length_nil];simp only[length_cons]at j;omega
theorem RX{r:aS}{W:World}(E:r.Ok W)(h:Ig r):(Ap r).length<=4000:=by
 have j:=RV 60 ((wP r).map (·.data.toList)) (fun x I=>by
  obtain⟨y,R,rfl⟩:=mem_map.1 I;rw[Array.length_toList];exact Z9 h y R)
 have u:=Z_ E h;rw[length_map]at j;show(Lib.join _ _).length<=4000;have:(wP r).length*(60+1)<=60*61:=Nat.mul_le_mul_right _ u;omega
structure La(w:World)(G1 B:Nat)(r:aS)(ws:aT)(a:aN)(c:Nat)(wx:World):Prop where
 e:X w wx
 b1:ah wx G1 r.v 192
 own:wx.ownsRow B 9 1 (.slice a ws.length c) ws.length (ws.map bM)
 sz:B<=wx.heap.size
variable {w wx wy:World} {G1 B:Nat} {r:aS} {ws news:aT} {a a':aN} {c c':Nat}
theorem La.ext(h:La w G1 B r ws a c wx)(e:X wx wy):La w G1 B r ws a c wy:=⟨h.e.ext e,h.b1.ext e,uF h.own e,Nat.le_trans h.sz e.size⟩
end
theorem RY{w:World}{a:aN}{ls:List Int}{k:Nat}{x:Int}(h:aK w a (ls.map lN))(j:ls[k]? =some x):∃A,a=some A/\w.cell? (A.add (k*1))=some (.int .i64 x):=by
 obtain⟨g,o,rfl,u⟩:=h.gQ (by rw[length_map];have:=(List.getElem?_eq_some_iff.1 j).1;omega);refine⟨_,F,?_⟩;rw[dn,Nat.mul_one];exact u k _ (by rw[List.getElem?_map,j];rfl)
theorem RZ:(prog.info? 3).map (·.size)=some 1:=au
end Go.Proofs.YtjlhhnkhcbpnjaaGreatDoor
