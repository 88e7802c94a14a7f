/- Laws that the row leans on; no condition. -/
import Derived.Test.YtjlhhnkhcbpnjaaGreatDoorJ19
namespace Go.Proofs.YtjlhhnkhcbpnjaaGreatDoor
open Go Go.RowKit List Tryz
set_option linter.unusedVariables false
set_option linter.unusedSimpArgs false
set_option maxHeartbeats 40000000
set_option maxRecDepth 100000
theorem R_(ls j:aT)(a b:aN)(n m c d:Nat)(w:World)(aD:ls.length=n)(aE:j.length=m)(hn:n<=140737488355328)(ha:aK w a (ls.map bM))(hb:aK w b (j.map bM)):
 Calls prog 229 #[.slice a n c,.slice b m d] w fun e w'=>e= .returned (.bool (decide (ls=j)))/\X w w':=by
 obtain⟨ac,ad,a0,a1⟩:=bU aD aE ha hb;obtain⟨af,ag⟩:=aC (decide (ls=j));rw[ag];have ae:=O ag;clear aD aE ha hb ag;by_cases am:n≠m
 ·have g1:((n:Int) != (m:Int))=true:=by simp;omega
  have a7:decide ((n:Int)=(m:Int))=false:=aP J;have g3:decide (n=m)=false:=aP am;have ab:=O (show af=false by
   rw[<-ae.out];exact aP (fun e=>am (by rw[<-ac.out,<-ad.out,e])))
  go_enter func229,ntmps229;go_wp2_with fail;go_ret;exact⟨by rw[ab.out];rfl,X.refl _⟩
 obtain rfl:n=m:=J;clear am;go_enter func229,ntmps229;go_wp2_with fail;go_loopw [13] (fun i wr=>∃k:Nat,k<=n/\i= .int .i64 (k:Int)/\Hid (ls.take k=j.take k)/\X w wr) (fun i _=>n - (intOf i).toNat)
 case atStart=>exact⟨0,J,F,O aF,X.refl _⟩
 case round=>
  obtain⟨k,hk,rfl,an,aw⟩:=hrel;have I:=O aw;clear aw;by_cases al:k<n
  ·have a4:decide ((k:Int)<(n:Int))=true:=aQ J;have a6:decide (k<n)=true:=aQ al;obtain⟨x,ap⟩:∃x,ls[k]? =some x:=⟨ls[k]'(by rw[ac.out];omega),List.getElem?_eq_getElem _⟩;obtain⟨y,aq⟩:∃y,j[k]? =some y:=⟨j[k]'(by rw[ad.out];omega),List.getElem?_eq_getElem _⟩;obtain⟨A,rfl,ax⟩:=zC a0 ap;obtain⟨a5,rfl,az⟩:=zC a1 aq;obtain⟨aM,aR,ar,av⟩:=bU (gW ax I) (gW az I) ap aq;clear ax az ap aq;go_upto_region 6 with(fail);obtain⟨C,R,aJ⟩:=jJ wr;refine wp_region_held_drew (S:=C) au ((R _).2 (X.refl wr).drew) (fun Z=> ?_);refine aA 0 ?_;refine aA 1 ?_;refine bD 2 F (bf F (fun u _=>fP (i:=k) F F F underlying98 tV al u)) ?_;refine bD 3 F (bf F (fun u h=>kT F F (gW aM ((R u).1 h)) oO)) ?_;refine aA 4 ?_;refine aA 5 ?_;refine bD 6 F (bf F (fun u _=>fP (i:=k) F F F underlying98 tV al u)) ?_;refine bD 7 F (bf F (fun u h=>kT F F (gW aR ((R u).1 h)) oO)) ?_;have aL:=Am x y;by_cases E:x=y
   ·rw[aQ E]at aL;have a2:=O (show ls.take (k+1)=j.take (k+1) by rw[take_add_one,take_add_one,ar.out,av.out,an.out,E]);clear E;refine aA 8 ?_;refine dH ?_;have ao:=(R _).1 Z;go_wp2_with fail;go_roundw
    case rel=>exact⟨k+1,J,by go_num,a2,I.ext ao⟩
    case measure=>simp[intOf];omega
   ·rw[aP E]at aL;have ab:=O (show af=false by
     rw[<-ae.out];exact aP (fun e=>E (by
      have aa:=ar.out;rw[e,av.out]at aa;injection aa with aa;exact aa.symm)))
    clear E;refine aA 8 ?_;refine dH ?_;have ao:=(R _).1 Z;go_wp2_with fail;go_ret;exact⟨by rw[ab.out];rfl,I.ext ao⟩
  ·obtain rfl:k=n:=J;have a4:decide ((k:Int)<(k:Int))=false:=aP J;have ai:=an.out;rw[take_of_length_le (by rw[ac.out];exact Nat.le_refl _),take_of_length_le (by rw[ad.out];exact Nat.le_refl _)]at ai;have a3:=O (show af=true by rw[<-ae.out];exact aQ ai);clear ai an;go_wp2_with fail;go_ret;exact⟨by rw[a3.out];rfl,I⟩
theorem Z'(ls j:List Int)(a b:aN)(n m c d:Nat)(w:World)(aD:ls.length=n)(aE:j.length=m)(hn:n<=140737488355328)(ha:aK w a (ls.map lN))(hb:aK w b (j.map lN)):
 Calls prog 230 #[.slice a n c,.slice b m d] w fun e w'=>e= .returned (.bool (decide (ls=j)))/\X w w':=by
 obtain⟨ac,ad,a0,a1⟩:=bU aD aE ha hb;obtain⟨af,ag⟩:=aC (decide (ls=j));rw[ag];have ae:=O ag;clear aD aE ha hb ag;by_cases am:n≠m
 ·have g1:((n:Int) != (m:Int))=true:=by simp;omega
  have a7:decide ((n:Int)=(m:Int))=false:=aP J;have g3:decide (n=m)=false:=aP am;have ab:=O (show af=false by
   rw[<-ae.out];exact aP (fun e=>am (by rw[<-ac.out,<-ad.out,e])))
  go_enter func230,ntmps230;go_wp2_with fail;go_ret;exact⟨by rw[ab.out];rfl,X.refl _⟩
 obtain rfl:n=m:=J;clear am;go_enter func230,ntmps230;go_wp2_with fail;go_loopw [13] (fun i wr=>∃k:Nat,k<=n/\i= .int .i64 (k:Int)/\Hid (ls.take k=j.take k)/\X w wr) (fun i _=>n - (intOf i).toNat)
 case atStart=>exact⟨0,J,F,O aF,X.refl _⟩
 case round=>
  obtain⟨k,hk,rfl,an,aw⟩:=hrel;have I:=O aw;clear aw;by_cases al:k<n
  ·have a4:decide ((k:Int)<(n:Int))=true:=aQ J;have a6:decide (k<n)=true:=aQ al;obtain⟨x,ap⟩:∃x,ls[k]? =some x:=⟨ls[k]'(by rw[ac.out];omega),List.getElem?_eq_getElem _⟩;obtain⟨y,aq⟩:∃y,j[k]? =some y:=⟨j[k]'(by rw[ad.out];omega),List.getElem?_eq_getElem _⟩;obtain⟨A,rfl,ax⟩:=RY a0 ap;obtain⟨a5,rfl,az⟩:=RY a1 aq;obtain⟨aM,aR,ar,av⟩:=bU (gW ax I) (gW az I) ap aq;clear ax az ap aq;go_upto_region 6 with(fail);obtain⟨C,R,aJ⟩:=jJ wr;refine wp_region_held_drew (S:=C) au ((R _).2 (X.refl wr).drew) (fun Z=> ?_);refine aA 0 ?_;refine aA 1 ?_;refine bD 2 F (bf F (fun u _=>fP (i:=k) F F F underlying106 RZ al u)) ?_;refine bD 3 F (bf F (fun u h=>kT F F (gW aM ((R u).1 h)) BR)) ?_;refine aA 4 ?_;refine aA 5 ?_;refine bD 6 F (bf F (fun u _=>fP (i:=k) F F F underlying106 RZ al u)) ?_;refine bD 7 F (bf F (fun u h=>kT F F (gW aR ((R u).1 h)) BR)) ?_;have aL:=show((x==y)=decide (x=y))from F;by_cases E:x=y
   ·rw[aQ E]at aL;have a2:=O (show ls.take (k+1)=j.take (k+1) by rw[take_add_one,take_add_one,ar.out,av.out,an.out,E]);clear E;refine aA 8 ?_;refine dH ?_;have ao:=(R _).1 Z;go_wp2_with fail;go_roundw
    case rel=>exact⟨k+1,J,by go_num,a2,I.ext ao⟩
    case measure=>simp[intOf];omega
   ·rw[aP E]at aL;have ab:=O (show af=false by
     rw[<-ae.out];exact aP (fun e=>E (by
      have aa:=ar.out;rw[e,av.out]at aa;injection aa with aa;exact aa.symm)))
    clear E;refine aA 8 ?_;refine dH ?_;have ao:=(R _).1 Z;go_wp2_with fail;go_ret;exact⟨by rw[ab.out];rfl,I.ext ao⟩
  ·obtain rfl:k=n:=J;have a4:decide ((k:Int)<(k:Int))=false:=aP J;have ai:=an.out;rw[take_of_length_le (by rw[ac.out];exact Nat.le_refl _),take_of_length_le (by rw[ad.out];exact Nat.le_refl _)]at ai;have a3:=O (show af=true by rw[<-ae.out];exact aQ ai);clear ai an;go_wp2_with fail;go_ret;exact⟨by rw[a3.out];rfl,I⟩
def vG(x y:aS):Bool:=decide (x.deny=y.deny)&&decide (x.roles=y.roles)&&decide (x.acts=y.acts)&&decide (x.labels=y.labels)&&decide (x.fr=y.fr)&&decide (x.tt=y.tt)&&decide (x.nd=y.nd)&&decide (x.ow=y.ow)
def jY:List aS->List aS->Bool
 |[],[]=>true
 |x::xs,y::ys=>vG x y&&jY xs ys
 |_,_=>false
theorem Si:∀xs ys:List aS,jY xs (ys.map aS.bare)=jY xs ys
 |[],[]=>rfl
 |[],_::_=>rfl
 |_::_,[]=>rfl
 |x::xs,y::ys=>by
  show(vG x y.bare&&jY xs (ys.map aS.bare))=(vG x y&&jY xs ys);rw[Si xs ys];rfl
theorem Sj:∀{xs ys:List aS},jY xs ys=true->xs.length=ys.length
 |[],[],_=>rfl
 |[],_::_,h=>by cases h
 |_::_,[],h=>by cases h
 |x::xs,y::ys,h=>by
  simp only[jY,Bool.and_eq_true]at h;simp[Sj h.2]
theorem aac{xs ys:List aS}{k:Nat}{x y:aS}(j:xs[k]? =some x)(u:ys[k]? =some y)(h:vG x y=false):jY xs ys=false:=by
 induction k generalizing xs ys with
 |zero=>
  cases xs<;>cases ys<;>simp_all [jY]
 |succ k E=>
  cases xs with
  |nil=>simp at j
  |cons p I=>
   cases ys with
   |nil=>simp at u
   |cons q R=>
    simp only[List.getElem?_cons_succ]at j u;simp[jY,E j u]
theorem Sm:∀{xs ys:List aS},xs.length=ys.length->(∀(k:Nat) (x y:aS),xs[k]? =some x->ys[k]? =some y->vG x y=true)->jY xs ys=true
 |[],[],_,_=>rfl
 |[],_::_,h,_=>by simp at h
 |_::_,[],h,_=>by simp at h
 |x::xs,y::ys,h,hk=>by
  simp only[jY,Bool.and_eq_true];exact⟨hk 0 x y F F,Sm (by simpa using h) fun k a b ha hb=>hk (k+1) a b (by simpa using ha) (by simpa using hb)⟩
theorem aad(x y:aS)(w:World)(ab:x.Ok w)(aL:y.Ok w):
 Calls prog 228 #[.agg x.v.toArray,.agg y.v.toArray] w fun e w'=>e= .returned (.bool (vG x y))/\X w w':=by
 obtain⟨I,R⟩:=aB ab aL;have a6:=ab.rm;have a7:=ab.am;have a8:=ab.lm;have a9:(x.deny==y.deny)=decide (x.deny=y.deny):=F;have bm:(x.fr==y.fr)=decide (x.fr=y.fr):=F;have bo:(x.tt==y.tt)=decide (x.tt=y.tt):=F;have bp:(x.nd==y.nd)=decide (x.nd=y.nd):=F;have bq:=Am x.ow y.ow;obtain⟨ax,az,aD⟩:=aW (fun E (h:X w E)=>R_ x.roles y.roles x.ra y.ra x.rn y.rn x.rc y.rc E I.rl R.rl J (I.nU.ext h) (R.nU.ext h)) (fun E (h:X w E)=>Z' x.acts y.acts x.aa y.aa x.an y.an x.ac y.ac E I.al R.al J (I.mF.ext h) (R.mF.ext h)) (fun E (h:X w E)=>R_ x.labels y.labels x.la y.la x.ln y.ln x.lc y.lc E I.ll R.ll J (I.sN.ext h) (R.sN.ext h));have aE:vG x y=(decide (x.deny=y.deny)&&decide (x.roles=y.roles)&&decide (x.acts=y.acts)&&decide (x.labels=y.labels)&&decide (x.fr=y.fr)&&decide (x.tt=y.tt)&&decide (x.nd=y.nd)&&decide (x.ow=y.ow)):=F;rw[aE];clear aE ab aL a6 a7 a8;generalize decide (x.deny=y.deny)=aM at*;generalize decide (x.roles=y.roles)=aR at*;generalize decide (x.acts=y.acts)=a0 at*;generalize decide (x.labels=y.labels)=a1 at*;generalize decide (x.fr=y.fr)=a2 at*;generalize decide (x.tt=y.tt)=a3 at*;generalize decide (x.nd=y.nd)=a4 at*;generalize decide (x.ow=y.ow)=a5 at*;go_enter func228,ntmps228;go_upto_region 1 with(fail);generalize al:World.alloc (World.alloc w _) _=am;have j:ah am w.heap.size x.v 192:=by rw[<-al];exact(ah.aI F F).alloc _
 have u:ah am (w.heap.size+1) y.v 192:=by rw[<-al];exact ah.aI (rQ _ _).symm rfl
 have aw:X w am:=by rw[<-al];exact((X.refl w).alloc _).alloc _
 obtain⟨ar,av,ac⟩:=aW j u aw;have bc:=j.cell' (i:=0) F;have bi:=u.cell' (i:=0) F;have bd:=j.cell' (i:=1) F;have bj:=u.cell' (i:=1) F;clear al j u aw;cases aM with
 |false=>
  go_wp2_with fail;go_ret;exact⟨F,ac⟩
 |true=>
 go_wp2_with fail;refine(ax am ac).mono ?_;rintro e a_ ⟨rfl,af⟩;obtain⟨ad,an,ap⟩:=aW (ac.ext af) (ar.ext af) (av.ext af);have be:=an.cell' (i:=2) F;have bk:=ap.cell' (i:=2) F;clear af ar av ac bc bi bd bj ax a9;cases aR with
 |false=>
  go_wp2_with fail;go_ret;exact⟨F,ad⟩
 |true=>
 go_wp2_with fail;refine(az a_ ad).mono ?_;rintro e ba ⟨rfl,ag⟩;obtain⟨ae,ao,aq⟩:=aW (ad.ext ag) (an.ext ag) (ap.ext ag);have bh:=ao.cell' (i:=3) F;have bl:=aq.cell' (i:=3) F;clear ag an ap ad be bk az;cases a0 with
 |false=>
  go_wp2_with fail;go_ret;exact⟨F,ae⟩
 |true=>
 go_wp2_with fail;refine(aD ba ae).mono ?_;rintro e br ⟨rfl,ai⟩;have aa:=O (ae.ext ai);have j:=ao.ext ai;have u:=aq.ext ai;have bt:=j.cell' (i:=4) F;have bx:=u.cell' (i:=4) F;have bu:=j.cell' (i:=5) F;have bz:=u.cell' (i:=5) F;have bv:=j.cell' (i:=6) F;have bA:=u.cell' (i:=6) F;have bw:=j.cell' (i:=7) F;have bB:=u.cell' (i:=7) F;clear ai j u ao aq ae bh bl aD;cases a1 with
 |false=>
  go_wp2_with fail;go_ret;exact⟨F,aa⟩
 |true=>
 cases a2 with
 |false=>
  go_wp2_with fail;go_ret;exact⟨F,aa⟩
 |true=>
 cases a3 with
 |false=>
  go_wp2_with fail;go_ret;exact⟨F,aa⟩
 |true=>
 cases a4 with
 |false=>
  go_wp2_with fail;go_ret;exact⟨F,aa⟩
 |true=>
 cases a5;all_goals (
  go_wp2_with fail;go_ret;exact⟨F,aa⟩)
theorem aae(xs ys:List aS)(a b:aN)(n m c d:Nat)(w:World)(az:lG w a n c xs)(bj:lG w b m d ys):
 Calls prog 227 #[.slice a n c,.slice b m d,.func (.func 228) #[] #[]] w fun e w'=>e= .returned (.bool (jY xs ys))/\X w w':=by
 obtain⟨aa,ab⟩:=aB az bj;have hn:=az.hm;have R:=O Ag;obtain⟨aq,av⟩:=aC (jY xs ys);rw[av];have an:=O av;clear az bj av;by_cases aw:n≠m
 ·have g1:((n:Int) != (m:Int))=true:=by simp;omega
  have bz:decide ((n:Int)=(m:Int))=false:=aP J;have g3:decide (n=m)=false:=aP aw;have am:=O (show aq=false by
   rw[<-an.out];cases bq:jY xs ys with
   |false=>rfl
   |true=>exact absurd (Sj bq) (by rw[aa.hl,ab.hl];exact aw))
  go_enter func227,ntmps227;go_wp2_with fail;go_ret;exact⟨by rw[am.out];rfl,X.refl _⟩
 obtain rfl:n=m:=J;clear aw;go_enter func227,ntmps227;go_wp2;go_loopw [17] (fun i wr=>∃k:Nat,k<=n/\i= .int .i64 (k:Int)/\Hid (∀(j:Nat) (x y:aS),j<k->xs[j]? =some x->ys[j]? =some y->vG x y=true)/\X w wr) (fun i _=>n - (intOf i).toNat)
 case atStart=>exact⟨0,J,F,O (fun j x y h=>by omega),X.refl _⟩
 case round=>
  obtain⟨k,hk,rfl,bi,bc⟩:=hrel;have E:=O bc;clear bc;by_cases ae:k<n
  ·obtain⟨x,af⟩:∃x,xs[k]? =some x:=⟨xs[k]'(by rw[aa.hl];exact ae),aF⟩;obtain⟨y,ag⟩:∃y,ys[k]? =some y:=⟨ys[k]'(by rw[ab.hl];exact ae),aF⟩;obtain⟨a6,a9⟩:=aB af ag;obtain⟨A,rfl,be⟩:=(aa.ext E).at af;obtain⟨bx,rfl,bh⟩:=(ab.ext E).at ag;obtain⟨a1,a2,a7,a_,ao,ap⟩:=iq be bh ((aa.ext E).ok x (mem_of_getElem? af)) ((ab.ext E).ok y (mem_of_getElem? ag)) (aS.len x) (aS.len y);have br:=nD x;have bt:=nD y;clear be bh af ag;go_wp2_with (first|(refine bF F (fP (i:=k) F F F underlying150 Hl ae _) ?_)|(refine bF F (bQ F F a1 R ao) ?_)|(refine bg F _ (.tmp 8) _ F F F (ah.aI (vs:=BX) F F) R F ao br ?_));intro ai ar bk;have ad:X wr ai:=bk.ext ((X.refl wr).alloc _) bG;obtain⟨aD,aM,a3,al⟩:=bU ar (E.ext ad) (a2.ext ad) ad;have bE:=ar.lt;clear ar bk ad a1 a2 E;generalize wr.heap.size=bB at*;go_wp2_with (first|(refine bF F (fP (i:=k) F F F underlying150 Hl ae _) ?_)|(refine bF F (bQ F F a3 R ap) ?_)|(refine bg F _ (.tmp 9) _ F F F (ah.aI (vs:=BX) F F) R F ap bt ?_));intro bm ba bl;have ac:X ai bm:=bl.ext ((X.refl ai).alloc _) bG;obtain⟨aL,aE,aR,a5,a8⟩:=dM ba (aD.ext ac) (aM.ext ac) ((a7.ext al).ext ac) ((a_.ext al).ext ac);clear ba bl ac a3 aM aD al a7 a_;generalize ai.heap.size=bA at*;go_wp2_with (first|(refine bV F 192 (.tmp 8) F F aE R ao ?_)|(refine bV F 192 (.tmp 9) F F aL R ap ?_));refine(aad x y bm a5 a8).mono ?_;rintro e bN ⟨rfl,bd⟩;have a0:=O (aR.ext bd);clear bd aR aE aL a5 a8;obtain⟨bu,ax⟩:=aC (vG x y);have a4:=O ax;rw[ax];clear ax;cases bu with
   |true=>
    go_wp2_with fail;go_roundw
    case rel=>
     refine⟨k+1,J,by go_num,O (fun j bv bw bL u I=> ?_),a0⟩;by_cases bp:j=k
     ·subst bp;rw[a6.out]at u;rw[a9.out]at I;injection u with u;injection I with I;rw[<-u,<-I];exact a4
     ·exact bi j bv bw J u I
    case measure=>simp[intOf];omega
   |false=>
    have am:=O (show aq=false by rw[<-an.out];exact aac a6 a9 a4);go_wp2_with fail;go_ret;exact⟨by rw[am.out];rfl,a0⟩
  ·obtain rfl:k=n:=J;have bo:=O (show aq=true by
    rw[<-an.out];refine Sm (by rw[aa.hl,ab.hl]) (fun j x y u I=>bi j x y ?_ u I);have:=(List.getElem?_eq_some_iff.1 u).1;rw[aa.hl]at this;exact this)
   go_wp2;go_ret;exact⟨by rw[bo.out];rfl,E⟩
theorem aaf(u:aN)(I E:Nat)(rs:List aS)(R:aN)(ab aa:Nat)(ad:List aS)(w:World)(al:lG w u I E rs)(am:lG w R ab aa ad):
 Calls prog 179 #[.agg #[.slice u I E],.agg #[.slice R ab aa]] w fun e w'=>e= .returned (.bool (jY rs ad))/\X w w':=by
 have an:=O (fun W (h:X w W)=>aae rs ad u R I ab E aa W (al.ext h) (am.ext h));clear al am;go_enter func179,ntmps179;go_upto_region 1 with(fail);generalize j:World.alloc (World.alloc w _) _=ac;have af:ah ac w.heap.size [.slice u I E] 152:=by rw[<-j];exact(ah.aI F F).alloc _
 have ag:ah ac (w.heap.size+1) [.slice R ab aa] 152:=by rw[<-j];exact ah.aI (rQ _ _).symm rfl
 have ai:X w ac:=by rw[<-j];exact((X.refl w).alloc _).alloc _
 have ae:=O ai;have aq:=af.cell' (i:=0) F;have ar:=ag.cell' (i:=0) F;clear j af ag ai;go_wp2_with fail;refine(an ac ae).mono ?_;rintro e ap ⟨rfl,ao⟩;go_wp2_with fail;go_ret;exact⟨F,ae.ext ao⟩
end Go.Proofs.YtjlhhnkhcbpnjaaGreatDoor
