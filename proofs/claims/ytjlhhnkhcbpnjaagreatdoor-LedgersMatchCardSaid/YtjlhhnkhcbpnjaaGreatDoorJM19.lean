/- Laws that the row leans on; no condition. -/
import Derived.Test.YtjlhhnkhcbpnjaaGreatDoorJM18
import Derived.Shelf.SlSortCmp.WholeK
import Derived.Shelf.SlSortCmp.NoneTotal
import Derived.Shelf.SlGeneric
namespace Go.Proofs.YtjlhhnkhcbpnjaaGreatDoor
open Go Go.RowKit Go.Shelf List Tryz
set_option linter.unusedVariables false
set_option linter.unusedSimpArgs false
set_option maxHeartbeats 40000000
set_option maxRecDepth 100000
noncomputable def EW(e:aG):aj:=dY 1 (iZ e)
noncomputable def qM(es:List aG):List (aj):=es.map EW
theorem abY(e:aG):(EW e).length=32:=j_ _ _
theorem MC(es:List aG):jB (qM es):=fun x j=>by
 obtain⟨e,_,rfl⟩:=mem_map.1 j;exact abY e
theorem abZ{es:List aG}{k:Nat}{e:aG}(h:es[k]? =some e):qM (es.take (k+1))=qM (es.take k)++[EW e]:=by
 unfold qM;rw[take_add_one,h,map_append];rfl
theorem ab1(a:aN)(n c:Nat)(es:List aG)(w:World)(h:sK w a n c es)(a2:∀e∈es,dN e=0)(hn:n<=65536):
 Calls prog 26 #[.slice a n c] w fun x w'=>∃v,x= .returned v/\w'.ownsRow w.heap.size 31 32 v n (dB (qM es))/\X w w':=by
 obtain⟨I,HV⟩:=aB h a2;clear h a2;go_enter func26,ntmps26;go_wp2;go_loopw [3,10] (fun u i wr=>∃k:Nat,k<=n/\i= .int .i64 (k:Int)/\wr.ownsRow w.heap.size 31 32 u k (dB (qM (es.take k)))/\X w wr) (fun _ i _=>n - (intOf i).toNat)
 case atStart=>exact⟨0,J,F,⟨F,.inl ⟨F,F⟩⟩,X.refl _⟩
 case round=>
  obtain⟨k,hk,rfl,own,a0⟩:=hrel;obtain⟨j,OW⟩:=aB a0 own;clear a0 own;by_cases j3:k<n
  ·obtain⟨r,E⟩:∃r,es[k]? =some r:=⟨es[k]'(by rw[I.hl];exact j3),aF⟩;obtain⟨A,rfl,nu⟩:=(I.ext j).at E;obtain⟨rz,R,aw⟩:=aW nu ((I.ext j).ok r (mem_of_getElem? E)) (HV r (mem_of_getElem? E));obtain⟨ae,nA⟩:=aB (aG.len R) (abZ E);have a5:=O (qy R aw).2.2.2.2.2.2;clear nu E;go_wp2_with (first|(refine bF F (fP (i:=k) F F F underlying24 Kz j3 _) ?_)|(refine bF F (bQ F F rz cZ ae) ?_)|(refine bg F _ (.tmp 5) _ F F F (ah.aI (vs:=dS.v) F F) cZ dZ ae (i_ r) ?_));intro wB aE a4;have aa:X wr wB:=a4.ext ((X.refl wr).alloc _) l5;obtain⟨an,ao,ad,ax⟩:=bU aE (j.ext aa) (R.ext aa) (dQ OW aa);clear aE a4 aa R rz OW j;generalize wr.heap.size=bi at*;go_wp2_with (refine bV F 34 (.tmp 5) F F an cZ ae ?_);refine(QE r wB ad).mono ?_;rintro x bh ⟨ai,⟨z,v,rfl,ow⟩|⟨z,rfl⟩⟩
   ·have ap:=O (ao.ext ai);have az:=O (dQ ax ai);obtain⟨a8,a9,rfl,a_,ba,bc,a1⟩:=nT ow;obtain⟨aq,bd⟩:=aB a1 (show(iZ r).length=121+r.bn from GR ad);clear ow z a1 ai ao ad ax an a_ ba bc;go_wp2_with fail;refine(abS (iZ r) a8 (121+r.bn) a9 bh bd (by have:=a5.out;omega) aq).mono ?_;rintro bk wD ⟨rfl,al⟩;obtain⟨ac,ag⟩:=aB (ap.ext al) (dQ az al);obtain⟨lf,ab⟩:=aC (dY 1 (iZ r));obtain⟨a6,ar⟩:=aB (show EW r=lf from ab) (show lf.length=32 by rw[<-ab];exact j_ _ _);rw[ab];have bj:=ac.size;clear al ap az aq ab;go_wp2_with (first|(refine TR F F F ar ?_)|(refine TS F _ _ F w.heap.size F F (dQ ag ((X.refl _).alloc _)) ar (ah.aI (vs:=lf.map Y) F F) J (by rw[gU];omega) ?_));intro v' w' El C8 _;have am:X wD (World.alloc wD (.cells (lf.map Y).toArray 31)):=(X.refl _).alloc _;have a3:=dQ ag am;obtain⟨af,a7⟩:=aB (show X w w' from(ac.ext am).grown C8 (fun q be=>(a3.lt q be).1)) (show w'.ownsRow w.heap.size 31 32 v' (k+1) (dB (qM (es.take (k+1)))) by rw[nA.out,a6.out];exact El);clear El C8 ag ac am a3;go_wp2;go_roundw
    case rel=>exact⟨k+1,J,by go_num,a7,af⟩
    case measure=>simp[intOf];omega
   ·exact absurd aw.out z
  ·obtain rfl:k=n:=J;have om:es.take k=es:=take_of_length_le (by rw[I.hl];exact Nat.le_refl _);rw[om]at OW;have af:=O j.out;go_wp2
   (try go_ret)
   exact⟨_,F,OW,af⟩
theorem TT(C T:Int)(u r2:aj):∀v∈iY C T u r2,v.oneCell'=true:=by
 intro v j;unfold iY at j;rcases mem_cons.1 j with rfl|j
 ·rfl
 rcases mem_cons.1 j with rfl|j
 ·rfl
 rcases mem_append.1 j with h|h
 ·exact b_ _ v h
 ·exact b_ _ v h
theorem TU{w:World}{B:Nat}{e:TypeId}{z n c:Nat}{a:aN}{m:Nat}{xs:aO}(h:w.ownsRow B e z (.slice a n c) m xs):c<=9223372036854775807:=by
 rcases h.2 with⟨j,_⟩|⟨g,cap,cu,j,_,_,_,E,_⟩
 ·injection j with _ _ u;omega
 ·injection j with _ _ u;subst u;unfold maxLen at E;omega
noncomputable def vJ(es:List aG):aO:=match es.getLast? with
 |none=>iY 0 0 iK iK
 |some e=>iY es.length e.time (ig e) (mX iO (qM es))
noncomputable def ab2(n:Nat):Array Oper:=xZ f16 n
theorem ab3(a:aN)(n c:Nat)(es:List aG)(w:World)(h:sK w a n c es)(aa:∀e∈es,dN e=0)(hn:n<=65536):
 nW 16 #[.slice a n c] w (.agg (vJ es).toArray):=by
 obtain⟨bi,HV⟩:=aB h aa;by_cases ao:n=0
 ·have a5:es=[]:=length_eq_zero_iff.1 (by rw[h.hl,ao]);subst ao;have bl:=O (show vJ es=iY 0 0 iK iK by rw[a5];rfl);clear h aa a5;go_enter func16,ntmps16;go_wp2_with (refine bg F _ _ _ F F F (ah.aI (vs:=iY 0 0 iK iK) F F) BI (by rfl) (xs:=iY 0 0 iK iK) (by rfl) aX ?_);intro j bu bz;go_wp2_with fail;exact gG F F bu BI (by rfl) F ⟨by rw[bl.out],bz.ext ((X.refl w).alloc _) l5⟩
 ·obtain⟨r,R⟩:∃r,es[n - 1]? =some r:=⟨es[n - 1]'(by rw[h.hl];omega),aF⟩;have a6:es.getLast? =some r:=by rw[List.getLast?_eq_getElem?,h.hl];exact R
  obtain⟨ae,br⟩:=aB (h.ok r (mem_of_getElem? R)) (aa r (mem_of_getElem? R));obtain⟨af,bk⟩:=aB (aG.len ae) (show vJ es=iY n r.time (ig r) (mX iO (qM es)) by unfold vJ;rw[a6,h.hl]);obtain⟨A,rfl,nu⟩:=h.at R;obtain⟨rz,aE,CX⟩:=aW nu (nZ r) (show(mX iO (qM es)).length=32 from yX iO tY (MC es));have j3:n - 1<n:=J;have b3:((n:Int) - 1)=((n - 1:Nat):Int):=J;have b1:decide ((n:Int)=0)=false:=aP J;have b2:decide (n=0)=false:=aP ao;have bo:=O (fun j (bv:X w j)=>ab1 (some A) n c es j (h.ext bv) aa hn);clear h aa R a6 nu;go_enter func16,ntmps16;go_upto_region 3 with fail;generalize iX:World.alloc w _=ab;have a1:ah ab w.heap.size (iY 0 0 iK iK) 46:=by rw[<-iX];exact ah.aI F F
  have al:X w ab:=by rw[<-iX];exact(X.refl w).alloc _
  obtain⟨B0,ax,az⟩:=aW a1 al (rz.ext al);clear iX a1 al rz;obtain⟨an,ac⟩:=aC w.heap.size;have bj:=O ac;rw[ac]at B0
  conv=>rw[ac]
  clear ac;go_upto_region 4 with(first|(refine bF F (fP (i:=n - 1) F F F underlying24 Kz j3 _) ?_)|(refine bF F (bQ F F az cZ af) ?_)|(refine bg F _ (.tmp 3) _ F F F (ah.aI (vs:=dS.v) F F) cZ dZ af (i_ r) ?_));intro v3 a2 a8;have am:X ab v3:=a8.ext ((X.refl _).alloc _) l5;obtain⟨ad,B2,be⟩:=aW a2 (B0.ext am) (ax.ext am);have bt:=O ae.out;have bp:=O (show an<ab.heap.size from B0.lt);clear a2 a8 am B0 ax az ae;generalize ab.heap.size=g3 at*;go_upto_region 4 with fail;obtain⟨C,iB,aJ,bP⟩:=iw (show bT w v3 [g3] [(an,66,46)] v3 from bT.yw be (dV.one ad.lt) B2 (GK _ _ F F));have a3:∀j,C j->j.cell? ⟨g3,1,none⟩=some (.int .i64 r.time):=fun j bw=>(((iB j).1 bw).blk ad aF).cell' (aG.rH r);refine fJ (ops:=(ab2 4)) fun Z=> ?_;refine aA 0 ?_;refine aA 1 ?_;refine aA 2 ?_;refine dA 3 (a3) ?_;refine bD 4 F (oC F 34 _ F F (fun j h=>((iB j).1 h).blk ad aF) cZ af) ?_;refine aA 6 ?_;generalize World.drew v3=a_ at Z⊢;refine aZ 5 ?_;intro E u;go_wp2_with fail;refine((GN r a_ (bt.ext ((iB a_).1 Z).base) br)).mono ?_;rintro e ba ⟨rfl,I⟩;replace Z:=aJ _ _ Z I;go_wp2_with fail;refine u _ _ Z ?_;clear u E I;refine aH ?_;refine aZ 7 ?_;intro E u;go_wp2_with fail;refine(bo ba ((iB ba).1 Z).base).mono ?_;rintro b5 b0 ⟨vl,rfl,ar,a4⟩;obtain⟨bx,a7,rfl,Ka, -,Dk⟩:=iJ ar;have FR:a7<=9223372036854775807:=TU ar;have ap:=aJ _ _ Z a4;have bm:=O Dk;go_wp2_with fail;refine u _ _ ap ?_;clear u E Z ar a4 Dk;have Z:=ap;clear ap;refine aH ?_;refine aZ 8 ?_;intro E u;go_wp2_with fail;refine((abQ n (qM es) a7 bx b0 (by unfold qM;rw[length_map,bi.hl]) J hn (MC es) Ka FR bm)).mono ?_
  rintro e bc ⟨rfl,I⟩;replace Z:=aJ _ _ Z I;go_wp2_with fail;refine u _ _ Z ?_;clear u E I;refine aH ?_;refine bD 9 F (bf F (fun j _=>QF F F F F F aE CX j)) ?_;obtain⟨b4,F3,zb⟩:=((iB bc).1 Z).Dn (r:=an) (n:=66) (T:=46) aF;obtain⟨a0,tQ,ag⟩:=aW zb F3 (GK (n:Int) r.time aE CX);clear zb F3;refine aZ 10 ?_;intro E u;go_wp2_with (refine bg F _ _ _ F F F a0 BI tQ ag (TT _ _ _ _) ?_);intro aw ai a9;have aq:C aw:=(iB aw).2 (((iB bc).1 Z).store a9 ai (by simp[ag.out]) (by have:=bj.out;omega) (by simp;have:=bp.out;omega));have bd:=O ai;go_wp2_with fail;refine u _ _ aq ?_;have bh:=O ((iB aw).1 aq).base;clear u E Z ai a9 a0 tQ aq;refine aH ?_;refine dH ?_;clear aJ iB bP a3 C;go_wp2_with fail;exact gG F F bd BI ag F ⟨by rw[bk.out],bh⟩
theorem ab4(a:aN)(n c:Nat)(w:World)(hn:n<=65536):
 Br 100 #[.slice a n c] w (.int .i64 (if n=0 then 10 else 0)):=by
 by_cases h:n=0
 ·subst h;go_enter func100,ntmps100;go_wp2;go_ret;exact⟨F,F⟩
 ·rw[if_neg h];have j:((n:Int)==0)=false:=by simp;omega
  have u:(n==0)=false:=by simp[h]
  have E:decide (65536<n)=false:=aP J;have I:decide ((65536:Int)<(n:Int))=false:=aP J;go_enter func100,ntmps100;go_wp2;go_ret;exact⟨F,F⟩
def x8(ls:List (aj)):aj×Int:=if ls.length=0 then(iK,10)else(mX iO ls,0)
theorem ab5(ls:List (aj))(a:aN)(n c:Nat)(w:World)(R:ls.length=n)(hn:n<=65536)(nE:jB ls)(am:n<=c)(Db:c<=9223372036854775807)(ac:aK w a (dB ls)):
 nW 59 #[.slice a n c] w (Kw (x8 ls)):=by
 have hf:=O (fun w=>ab4 a n c w hn);obtain⟨V,j⟩:=aC (x8 ls);rw[j];unfold x8 at j;rw[R]at j;by_cases I:n=0
 ·rw[if_pos I]at j;rw[if_pos I]at hf;subst j;clear ac nE R;subst I;go_enter func59,ntmps59;go_upto_region 1 with(fail);generalize iX:World.alloc w _=u;have zA:ah u w.heap.size (List.replicate 32 (.int .u8 0)) 31:=by rw[<-iX];exact ah.aI F F
  have E:X w u:=by rw[<-iX];exact(X.refl w).alloc _
  clear iX;obtain⟨ZA,EA⟩:=aB zA E;clear zA E;go_wp2_with (first|(go_at_call 100;refine(hf _).mono ?_;rintro e w' ⟨rfl,rfl⟩)|(refine bg F _ _ _ F F F ZA bY aF (xs:=List.replicate 32 (.int .u8 0)) aF (JI 32) ?_));intro ap aa ad;go_wp2;refine iy F F aa bY aF F ⟨by unfold Kw;rw[Yl];rfl,ad.ext EA l5⟩
 ·rw[if_neg I]at j;rw[if_neg I]at hf;have an:=O (fun w' tF=>abP n ls c a w' R J hn nE am Db tF);have af:=yX iO tY nE;generalize mX iO ls=p at*;have ae:Hid ((p.map Y).length=32):=O (by rw[length_map,af]);have ao:=b_ p;have ai:=O ac;subst j;clear ac nE R af;go_enter func59,ntmps59;go_upto_region 1 with(fail);generalize iX:World.alloc w _=u;have zA:ah u w.heap.size (List.replicate 32 (.int .u8 0)) 31:=by rw[<-iX];exact ah.aI F F
  have E:X w u:=by rw[<-iX];exact(X.refl w).alloc _
  clear iX;obtain⟨ZA,EA⟩:=aB zA E;clear zA E;go_wp2_with (first|(go_at_call 100;refine(hf _).mono ?_;rintro e w' ⟨rfl,rfl⟩));refine(an u (ai.ext EA)).mono ?_;rintro e aq ⟨rfl,ab⟩;obtain⟨al,ag⟩:=aB (ZA.ext ab) (EA.ext ab);clear ab ZA EA;go_wp2_with (refine bg F _ _ _ F F F al bY aF ae ao ?_);intro ap aa ad;go_wp2;refine iy F F aa bY ae F ⟨F,ad.ext ag l5⟩
def kP(n:Int):Nat:=(BitVec.ofInt 64 n &&& BitVec.ofInt 64 (3:Int)).toNat
theorem rX(n:Int)(m:Nat)(j:m<9223372036854775808):(BitVec.ofInt 64 n &&& BitVec.ofInt 64 (m:Int)).toNat<=m:=by
 rw[BitVec.toNat_and];refine Nat.le_trans Nat.and_le_right ?_;rw[BitVec.toNat_ofInt];omega
theorem TV(n:Int):kP n<=3:=rX n 3 J
theorem rY(n:Int)(m:Nat)(j:m<9223372036854775808):bits BinOp.and IntKind.i64 n (m:Int)=((BitVec.ofInt 64 n &&& BitVec.ofInt 64 (m:Int)).toNat:Int):=by
 have h:bits BinOp.and IntKind.i64 n (m:Int)=IntKind.i64.wrap ((BitVec.ofInt 64 n &&& BitVec.ofInt 64 (m:Int)).toNat:Int):=F;rw[h];exact IntWalk.i64_in _ (by have:=rX n m j;omega)
theorem TW(n:Int):bits BinOp.and IntKind.i64 n 3=(kP n:Int):=rY n 3 J
def kQ(i:Nat):aj:=List.replicate 15 0++[UInt8.ofNat (1+i)]
def CY(i:Nat):aj:=7::(List.replicate 14 0++[UInt8.ofNat i])
theorem qN(i:Nat):(kQ i).length=16:=by unfold kQ;simp
theorem MF(i:Nat):(CY i).length=16:=by unfold CY;simp
theorem tC(n:Int)(w:World):Calls prog 47 #[.int .i64 n] w fun x w'=>x= .returned (.agg ((kQ (kP n)).map Y).toArray)/\X w w':=by
 have af:=TW n;have ag:=TV n;generalize kP n=i at*;have ab:wrap64 1=1:=by unfold wrap64;omega
 have ac:wrap64 2=2:=by unfold wrap64;omega
 have ad:wrap64 3=3:=by unfold wrap64;omega
 have ae:wrap64 4=4:=by unfold wrap64;omega
 rcases(show i=0∨i=1∨i=2∨i=3 by omega)with rfl|rfl|rfl|rfl
 all_goals
  (
   go_enter func47,ntmps47;go_upto_region 1 with fail;generalize iX:World.alloc w _=E;have j:ah E w.heap.size (List.replicate 16 (.int .u8 0)) 29:=by rw[<-iX];exact ah.aI F F
   have u:X w E:=by rw[<-iX];exact(X.refl w).alloc _
   obtain⟨I,EA⟩:=aB j u;clear iX j u;go_wp2_with (refine bg F _ _ _ F F F I dh aF F (by repeat (first|exact forall_mem_nil _|refine forall_mem_cons.2 ⟨F,?_⟩)) ?_);intro wB R aa;go_wp2_with fail;exact gG F F R dh F F ⟨F,aa.ext EA l5⟩)
theorem MG(n:Int)(w:World):Calls prog 49 #[.int .i64 n] w fun x w'=>x= .returned (.agg ((CY (kP n)).map Y).toArray)/\X w w':=by
 have af:=TW n;have ag:=TV n;generalize kP n=i at*;have ab:wrap64 1=1:=by unfold wrap64;omega
 have ac:wrap64 2=2:=by unfold wrap64;omega
 have ad:wrap64 3=3:=by unfold wrap64;omega
 have ae:wrap64 4=4:=by unfold wrap64;omega
 rcases(show i=0∨i=1∨i=2∨i=3 by omega)with rfl|rfl|rfl|rfl
 all_goals
  (
   go_enter func49,ntmps49;go_upto_region 1 with fail;generalize iX:World.alloc w _=E;have j:ah E w.heap.size (List.replicate 16 (.int .u8 0)) 29:=by rw[<-iX];exact ah.aI F F
   have u:X w E:=by rw[<-iX];exact(X.refl w).alloc _
   obtain⟨I,EA⟩:=aB j u;clear iX j u;go_wp2_with (refine bg F _ _ _ F F F I dh aF F (by repeat (first|exact forall_mem_nil _|refine forall_mem_cons.2 ⟨F,?_⟩)) ?_);intro wB R aa;go_wp2_with fail;exact gG F F R dh F F ⟨F,aa.ext EA l5⟩)
section
open Go Go.RowKit Go.Shelf Go.Sort
section
variable {α:Type} [Inhabited α] {enc:α->aO} {k:Nat}
def fU(enc:α->aO)(ls:List α):aO:=ls.flatMap enc
variable (hk:∀x,(enc x).length=k)
include hk
omit [Inhabited α]in
theorem yY(ls:List α):(fU enc ls).length=k*ls.length:=by
 unfold fU;induction ls with
 |nil=>rfl
 |cons x l j=>rw[flatMap_cons,length_append,hk,j,length_cons,Nat.mul_succ];omega
omit [Inhabited α]in
theorem MH{j:Nat}(hj:j<k){x:α}:∀(ls:List α) (i:Nat),ls[i]? =some x->(fU enc ls)[k*i+j]? =(enc x)[j]?
 |[],_,h=>by simp at h
 |y::ls,0,h=>by
  simp only[List.getElem?_cons_zero,Option.some.injEq]at h;subst h;show(enc y++fU enc ls)[k*0+j]? =_;rw[List.getElem?_append_left (by rw[hk];omega),Nat.mul_zero,Nat.zero_add]
 |y::ls,i+1,h=>by
  rw[List.getElem?_cons_succ]at h;show(enc y++fU enc ls)[k*(i+1)+j]? =_;rw[List.getElem?_append_right (by rw[hk,Nat.mul_succ];omega),hk,show k*(i+1)+j - k=k*i+j by rw[Nat.mul_succ];omega];exact MH hj ls i h
theorem TY(d:Array α):flatK enc k d=(fU enc d.toList).toArray:=by
 have aa:(fU enc d.toList).length=d.size*k:=by rw[yY hk,Nat.mul_comm];simp
 refine ext_get! (by rw[size_flatK];simp[aa]) fun t ht=> ?_;rw[size_flatK]at ht;rw[get_flatK enc k d t ht];have E:0<k:=by
  rcases Nat.eq_zero_or_pos k with h|h
  ·subst h;simp at ht
  ·exact h
 have j:t / k<d.size:=Nat.div_lt_of_lt_mul (by rw[Nat.mul_comm];exact ht);have ab:d.toList[t / k]? =some (d[t / k]'j):=by rw[Array.getElem?_toList,Array.getElem?_eq_getElem j]
 have u:=MH hk (Nat.mod_lt t E) d.toList (t / k) ab;rw[Nat.div_add_mod]at u;have R:(enc d[t / k]!)[t%k]! =(enc (d[t / k]'j))[t%k]! :=by rw[getElem!_pos d (t / k) j]
 rw[R];have j3:t%k<(enc (d[t / k]'j)).length:=by rw[hk];exact Nat.mod_lt t E
 have I:t<(fU enc d.toList).length:=J;rw[getElem!_pos (enc (d[t / k]'j)) (t%k) j3,getElem!_pos (fU enc d.toList).toArray t (by simpa using I)];rw[List.getElem?_eq_getElem j3,List.getElem?_eq_getElem I]at u;simpa using(Option.some.inj u).symm
theorem ab6{w:World}{g:Nat}{d:Array α}{rest:aO}{T:TypeId}(hb:ah w g (fU enc d.toList++rest) T):HoldsK enc k w g 0 d:=by
 unfold HoldsK;rw[TY hk];intro j E;have u:j<(fU enc d.toList).length:=by simpa using E
 refine⟨?_,hb.frozen _⟩;rw[Nat.zero_add];refine hb.cell' ?_;rw[List.getElem?_append_left u,List.getElem?_eq_getElem u,getElem!_pos _ _ (by simpa using u)];simp
theorem ab7{w:World}{g:Nat}{ls:List α}{rest:aO}{T:TypeId}(hb:ah w g (fU enc ls++rest) T)(d:Array α)(n:Nat)(j:Array Obj)(hs:d.size=ls.length):
 ah (sortWorldK enc k w g 0 n d j) g (fU enc d.toList++rest) T/\w.grownBy (sortWorldK enc k w g 0 n d j) (some g):=by
 have E:=hb.lt;have R:(fU enc d.toList).length=(fU enc ls).length:=by rw[yY hk,yY hk];simp[hs]
 constructor
 ·unfold ah at hb⊢;unfold sortWorldK putRowK putRow mapBlock grow;show(Array.modify w.heap g _++j)[g]? =_;rw[Array.getElem?_append_left (by simpa using E),Array.getElem?_modify,if_pos F,hb,TY hk];simp only[Option.map_some,onCells,Option.some.injEq,Obj.cells.injEq,and_true];unfold putCells;apply Array.ext_getElem?;intro i;simp only[Array.getElem?_mapIdx,List.getElem?_toArray,Nat.zero_add,Nat.zero_le,true_and,Nat.sub_zero,id_eq,size_toArray];by_cases u:i<(fU enc ls).length
  ·rw[List.getElem?_append_left u,List.getElem?_eq_getElem u,List.getElem?_append_left J,List.getElem?_eq_getElem (by omega:i<(fU enc d.toList).length)];simp only[Option.map_some];rw[if_pos J,getElem!_pos _ _ (by simpa using(by omega:i<(fU enc d.toList).length))];simp
  ·rw[List.getElem?_append_right J,List.getElem?_append_right J,R];cases rest[i - (fU enc ls).length]? with
   |none=>rfl
   |some v=>
    simp only[Option.map_some];rw[if_neg J]
 ·refine⟨F,F,F,?_,fun i u aa=> ?_⟩
  ·unfold sortWorldK putRowK putRow mapBlock grow;show w.heap.size<=(Array.modify w.heap g _++j).size;simp
  ·unfold sortWorldK putRowK putRow mapBlock grow;show(Array.modify w.heap g _++j)[i]? =_;have I:¬g=i:=fun h=>aa (by rw[h]);rw[Array.getElem?_append_left (by simpa using u),Array.getElem?_modify,if_neg I];try rfl
omit hk in
theorem ab8{E:α->α->Int}{d u:Array α}{n:Nat}(hn:d.size=n)(ag:PermIn 0 n d u)(hs:SortedIn (ltOf E) 0 n u):
 u.size=n/\u.toList.Perm d.toList/\u.toList.Pairwise (fun x y=>¬E y x<0):=by
 obtain⟨ai,_,I⟩:=ag;have mU:u.size=n:=J;have R:(u.extract 0 n).toList=u.toList:=by rw[<-mU];simp
 have e2:(d.extract 0 n).toList=d.toList:=by rw[<-hn];simp
 rw[R,e2]at I;refine⟨mU,I,?_⟩;refine pairwise_iff_getElem.2 fun i j ab ae ad=> ?_;have ac:i<u.size:=by simpa using ab
 have af:j<u.size:=by simpa using ae
 have h:=hs i j (Nat.zero_le _) ad J;rw[getElem!_pos u i ac,getElem!_pos u j af]at h;have aa:decide (E u[j] u[i]<0)=false:=h;simpa using aa
end
theorem MI{P:Program}{E:Ren}{α:Type}[Inhabited α]{enc:α->aO}{k:Nat}(L:SlLaysF0.n6 P E)(ae:∀w,(isAgg (E.t 24)).run P w= .ok true w)(a0:∀w,(Go.sizeOf (E.t 24)).run P w= .ok k w)(hk:∀x,(enc x).length=k)(am:∀x,∀v∈enc x,v.oneCell'=true)
 (j:α->α->Int)(ao:SWO (ltOf j))(f:Nat)(hf:∀(x y:α) (w:World),Calls P f #[.agg (enc x).toArray,.agg (enc y).toArray] w fun e w'=>e= .returned (.int .i64 (j x y))/\iT w w')(al:∀ab w,(callFunc f ab).run P w= .ok (.enter f ab) w)
 {w:World}{B n:Nat}{e:TypeId}{v:Value}{ls:List α}(own:w.ownsRow B e k v n (fU enc ls))(hn:ls.length=n)(ax:n<4611686018427387904):
 Calls P (E.f 6) #[v,.func (.func f) #[] #[]] w fun x w'=>x= .returned (.tuple #[])/\∃es,es.Perm ls/\es.Pairwise (fun x y=>¬j y x<0)/\w'.ownsRow B e k v n (fU enc es)/\w.grownBy w' v.ownBlock:=by
 rcases own.2 with⟨rfl,rfl⟩|⟨g,cap,cu,rfl,hb,aw,ad,ap,aq,ar⟩
 ·refine(AnyF.slices_SortFunc_none L none 0 (.func (.func f) #[] #[]) w).mono ?_;rintro x w' ⟨rfl,rfl⟩;have:ls=[]:=length_eq_zero_iff.1 hn;subst this;exact⟨F,[],List.Perm.refl _,List.Pairwise.nil,own,I6 w' _⟩
 ·have I:ah w g (fU enc ls++cu.toList.drop (n*k)) e:=by
   unfold ah;rw[aw,<-ar,take_append_drop]
  have an:HoldsK enc k w g 0 ls.toArray:=ab6 hk (rest:=cu.toList.drop (n*k)) (T:=e) (by simpa using I);have ac:=AnyQ.slices_SortFunc L k ae a0 enc hk am j ao f #[] g 0 cap ls.toArray w al (fun m aa ai _ x y=>hf x y (sortWorldK enc k w g 0 m ai aa)) an I.lt (by simpa[hn]using ax);have hs:ls.toArray.size=n:=by simpa using hn
  rw[hs]at ac;refine ac.mono ?_;rintro x w' ⟨rfl,u,n',aa,aE,az,rfl⟩;obtain⟨k1,k2,k3⟩:=ab8 hs aE az;obtain⟨af,ag⟩:=ab7 hk I u n' aa (by rw[k1,hn]);refine⟨F,u.toList,by simpa using k2,k3,?_,ag⟩;have R:(fU enc u.toList).length=n*k:=by rw[yY hk,Nat.mul_comm];simp[k1]
  refine⟨R,.inr ⟨g,cap,(fU enc u.toList++cu.toList.drop (n*k)).toArray,F,hb,af,ad,ap,?_,?_⟩⟩
  ·have:=own.1;rw[size_toArray,length_append,R,length_drop,Array.length_toList,aq];have:n*k<=cap*k:=Nat.mul_le_mul_right _ ad;omega
  ·rw[<-R];simp
theorem MJ{P:Program}{f:FuncId}{B:Func}(h:(((P.funcs[f]?).map (fun x=>x.name)).getD "" == "runtime.NumGoroutine")=false)(j:P.funcs[f]? =some {B with name:=((P.funcs[f]?).map (fun x=>x.name)).getD ""}):Bears P f B:=⟨_,h,j⟩
end
def ab9:Go.Shelf.Ren:=⟨fun|6=>196 |15=>176 |14=>256 |28=>223 |29=>224 |20=>309 |21=>310 |22=>311 |23=>312 |24=>313 |25=>314 |26=>315 |27=>316 |46=>340 |47=>286 |48=>287 |49=>341 |50=>342 |57=>349 |n=>n,fun|22=>225 |24=>228 |25=>284 |3=>3 |39=>141 |0=>0 |53=>239 |55=>246 |4=>4 |46=>314 |45=>313 |50=>82 |5=>5 |9=>9 |66=>360 |70=>364 |76=>389 |77=>390 |n=>n,fun|n=>n⟩
theorem acd:Go.Proofs.SlLaysF0.n6 prog ab9:=by repeat' first|kernel_rfl|(intro _;kernel_rfl)|exact MJ au au|constructor
structure lJ where
 id:aj
 r:iF
def lJ.v(m:lJ):aO:=m.id.map Y++[m.r.v]
def lJ.zero:lJ:=⟨fO,.nil⟩
theorem EX:(prog.info? 228).map (fun i=>(i.zero,i.size,i.bytes))=some (some (.agg lJ.zero.v.toArray),17,40):=au
theorem ace:(prog.underlying 228).bind (fun d=>match d with| .struct j=>j.toList.mapM (fun f=>(prog.info? f.type).map fun i=>(f.offset,i.size))|_=>none)=some [(0,16),(16,1)]:=au
structure nK where
 ask:aj
 who:aj
 x:dX
def nK.v(r:nK):aO:=r.ask.map Y++(r.who.map Y++[r.x.r.v,.int .i64 r.x.t])
def nK.zero:nK:=⟨kN,fO,.zero⟩
theorem EY:(prog.info? 232).map (fun i=>(i.zero,i.size,i.bytes))=some (some (.agg nK.zero.v.toArray),50,80):=au
theorem acf:(prog.underlying 232).bind (fun d=>match d with| .struct j=>j.toList.mapM (fun f=>(prog.info? f.type).map fun i=>(f.offset,i.size))|_=>none)=some [(0,32),(32,16),(48,2)]:=au
theorem acg(x:aj)(sa:aN)(sn sc:Nat)(l:aT)(j:x.length=16):prog.built 228 [(0,Value.agg (x.map Y).toArray),(1,Value.slice sa sn sc)]=some (lJ.v ⟨x,⟨sa,sn,sc,l⟩⟩).toArray:=by
 obtain⟨aa,u,E,R,I⟩:=info_parts EX;have hf:=ace;rw[underlying228]at hf;simp only[Option.bind_some]at hf;unfold Program.built;rw[u,underlying228];simp only[E,hf];have g0:(Value.agg lJ.zero.v.toArray).cells=((([]:aO))++(zb 16)++([Value.slice none 0 0])).toArray:=F;rw[g0,jh (([]:aO)) (zb 16) ([Value.slice none 0 0]) F (by simp[zb,j]) (by simp[Value.cells,j]) (by simp[zb])];have g1:(([]:aO))++(Value.agg (x.map Y).toArray).cells.toList++([Value.slice none 0 0])=((x.map Y))++[Value.slice none 0 0]++(([]:aO)):=by simp[Value.cells,zb]
 rw[g1,jh ((x.map Y)) [Value.slice none 0 0] (([]:aO)) F (by simp[zb,j]) (by simp[Value.cells,j]) (by simp[zb])];rw[Instr.fill];simp[Value.cells,zb,lJ.v,iF.v]
theorem ach{o:Oper}{a:Act}{j u:Operand}{x:aj}{sa:aN}{sn sc:Nat}{l:aT}(ab:o.op= .build 228 #[(0,j),(1,u)])(E:a.eval j=Value.agg (x.map Y).toArray)(I:a.eval u=Value.slice sa sn sc)(ac:x.length=16)(w:World):(execOp a.eval o).run prog w= .ok (.value (.agg (lJ.v ⟨x,⟨sa,sn,sc,l⟩⟩).toArray)) w:=by
 have h:=run_build (P:=prog) w 228 #[(0,Value.agg (x.map Y).toArray),(1,Value.slice sa sn sc)] _ (acg x sa sn sc l ac);have aa:(#[(0,j),(1,u)].map fun(r:Nat×Operand)=>(r.1,a.eval r.2))= #[(0,Value.agg (x.map Y).toArray),(1,Value.slice sa sn sc)]:=by simp[E,I]
 unfold execOp;simp only[ab,Sem.run_bind];have R:(Instr.build 228 (#[(0,j),(1,u)].map fun(r:Nat×Operand)=>(r.1,a.eval r.2))).run prog w= .ok (.agg (lJ.v ⟨x,⟨sa,sn,sc,l⟩⟩).toArray) w:=by rw[aa];exact h
 rw[R];rfl
theorem aci(x y:aj)(sa:aN)(sn sc:Nat)(l:aT)(t:Int)(j:x.length=32)(u:y.length=16):prog.built 232 [(0,Value.agg (x.map Y).toArray),(1,Value.agg (y.map Y).toArray),(2,Value.agg #[Value.slice sa sn sc,Value.int .i64 t])]=some (nK.v ⟨x,y,⟨⟨sa,sn,sc,l⟩,t⟩⟩).toArray:=by
 obtain⟨ac,I,R,ab,aa⟩:=info_parts EY;have hf:=acf;rw[underlying232]at hf;simp only[Option.bind_some]at hf;unfold Program.built;rw[I,underlying232];simp only[R,hf];have g0:(Value.agg nK.zero.v.toArray).cells=((([]:aO))++(zb 32)++((zb 16)++[Value.slice none 0 0,Value.int .i64 0])).toArray:=F;rw[g0,jh (([]:aO)) (zb 32) ((zb 16)++[Value.slice none 0 0,Value.int .i64 0]) F (by simp[zb,j,u]) (by simp[Value.cells,j,u]) (by simp[zb])];have g1:(([]:aO))++(Value.agg (x.map Y).toArray).cells.toList++((zb 16)++[Value.slice none 0 0,Value.int .i64 0])=((x.map Y))++(zb 16)++([Value.slice none 0 0,Value.int .i64 0]):=by simp[Value.cells,zb]
 rw[g1,jh ((x.map Y)) (zb 16) ([Value.slice none 0 0,Value.int .i64 0]) F (by simp[zb,j,u]) (by simp[Value.cells,j,u]) (by simp[zb])];have E:((x.map Y))++(Value.agg (y.map Y).toArray).cells.toList++([Value.slice none 0 0,Value.int .i64 0])=((x.map Y)++(y.map Y))++[Value.slice none 0 0,Value.int .i64 0]++(([]:aO)):=by simp[Value.cells,zb]
 rw[E,jh ((x.map Y)++(y.map Y)) [Value.slice none 0 0,Value.int .i64 0] (([]:aO)) F (by simp[zb,j,u]) (by simp[Value.cells,j,u]) (by simp[zb])];rw[Instr.fill];simp[Value.cells,zb,nK.v,iF.v]
theorem acj{o:Oper}{a:Act}{j u E:Operand}{x y:aj}{sa:aN}{sn sc:Nat}{l:aT}{t:Int}(ac:o.op= .build 232 #[(0,j),(1,u),(2,E)])(I:a.eval j=Value.agg (x.map Y).toArray)(R:a.eval u=Value.agg (y.map Y).toArray)(e2:a.eval E=Value.agg #[Value.slice sa sn sc,Value.int .i64 t])(ad:x.length=32)(ae:y.length=16)(w:World):(execOp a.eval o).run prog w= .ok (.value (.agg (nK.v ⟨x,y,⟨⟨sa,sn,sc,l⟩,t⟩⟩).toArray)) w:=by
 have h:=run_build (P:=prog) w 232 #[(0,Value.agg (x.map Y).toArray),(1,Value.agg (y.map Y).toArray),(2,Value.agg #[Value.slice sa sn sc,Value.int .i64 t])] _ (aci x y sa sn sc l t ad ae);have ab:(#[(0,j),(1,u),(2,E)].map fun(r:Nat×Operand)=>(r.1,a.eval r.2))= #[(0,Value.agg (x.map Y).toArray),(1,Value.agg (y.map Y).toArray),(2,Value.agg #[Value.slice sa sn sc,Value.int .i64 t])]:=by simp[I,R,e2]
 unfold execOp;simp only[ac,Sem.run_bind];have aa:(Instr.build 232 (#[(0,j),(1,u),(2,E)].map fun(r:Nat×Operand)=>(r.1,a.eval r.2))).run prog w= .ok (.agg (nK.v ⟨x,y,⟨⟨sa,sn,sc,l⟩,t⟩⟩).toArray) w:=by rw[ab];exact h
 rw[aa];rfl
def acn:Go.Shelf.Ren:=⟨fun|6=>139 |15=>176 |14=>194 |28=>223 |29=>224 |20=>247 |21=>248 |22=>249 |23=>250 |24=>251 |25=>252 |26=>253 |27=>254 |46=>302 |47=>286 |48=>287 |49=>303 |50=>304 |57=>335 |n=>n,fun|22=>166 |24=>159 |25=>224 |3=>3 |39=>141 |0=>0 |53=>239 |55=>246 |4=>4 |46=>314 |45=>313 |50=>82 |5=>5 |9=>9 |66=>360 |70=>364 |76=>389 |77=>390 |n=>n,fun|n=>n⟩
theorem aco:Go.Proofs.SlLaysF0.n6 prog acn:=by repeat' first|kernel_rfl|(intro _;kernel_rfl)|exact MJ au au|constructor
section
open Go Go.RowKit Go.Shelf Go.Sort
structure qg where
 k:bC
 ok:k.Ok
instance:Inhabited qg:=⟨⟨bC.zero,bC.vk⟩⟩
def uK(x:qg):aO:=x.k.v
theorem Aw(x:qg):(uK x).length=84:=bC.len x.ok
theorem MK(x:qg):∀v∈uK x,v.oneCell'=true:=yT x.k
def CZ(x y:qg):Int:=eH x.k.key y.k.key
theorem acp:Sort.SWO (ltOf CZ) where
 irrefl x:=Ju x.k.key
 trans x y z h1 h2:=FT h1 h2
 ntrans x y z h1 h2:=Jv h1 h2
theorem acr(x y:qg)(w:World):Calls prog 140 #[.agg (uK x).toArray,.agg (uK y).toArray] w fun e w'=>e= .returned (.int .i64 (CZ x y))/\iT w w':=by
 obtain⟨hc,I,HY,Dr,GA⟩:=dM (fun w=>Gg x.k.key y.k.key w x.ok.hk y.ok.hk) (bC.F4 x.ok) (bC.F4 y.ok) (show(x.k.key.map Y).length=16 by rw[length_map];exact x.ok.hk) (show(y.k.key.map Y).length=16 by rw[length_map];exact y.ok.hk);go_enter func140,ntmps140;go_upto_region 1 with(fail);generalize iX:World.alloc (World.alloc w _) _=j;have xA:ah j w.heap.size x.k.v 159:=by rw[<-iX];exact(ah.aI F F).alloc _
 have yA:ah j (w.heap.size+1) y.k.v 159:=by rw[<-iX];exact ah.aI aF F
 have EA:Hid (iT w j):=by rw[<-iX];exact O (((iT.refl w).alloc _).alloc _)
 obtain⟨R,aa⟩:=aB xA yA;clear iX xA yA;go_wp2_with (first|(refine bF F (bQ F F (dF R I) dh Dr) ?_)|(refine bF F (bQ F F (dF aa HY) dh GA) ?_));refine(hc j).mono ?_;rintro e w' ⟨rfl,u⟩;have E:=O (EA.trans u);clear u;go_wp2_with fail;go_ret;exact⟨F,E⟩
theorem acs:∀j w,(callFunc 140 j).run prog w= .ok (.enter 140 j) w:=enters_of func140 au F
theorem acu{w:World}{B n:Nat}{v:Value}{ls:List qg}(own:w.ownsRow B 159 84 v n (fU uK ls))(hn:ls.length=n)(j:n<4611686018427387904):
 Calls prog 139 #[v,.func (.func 140) #[] #[]] w fun x w'=>x= .returned (.tuple #[])/\∃es,es.Perm ls/\es.Pairwise (fun x y=>¬CZ y x<0)/\w'.ownsRow B 159 84 v n (fU uK es)/\w.grownBy w' v.ownBlock:=
 MI aco isAgg159 sizeOf159 Aw MK CZ acp _ acr acs own hn j
theorem T_:pO prog 166 159 84 120:=⟨underlying166,⟨_,_,(info_parts EM).choose_spec.1,(info_parts EM).choose_spec.2.1,(info_parts EM).choose_spec.2.2.1,(info_parts EM).choose_spec.2.2.2,F⟩,aX⟩
theorem ML{α:Type}(enc:α->aO)(ls:List α)(x:α):fU enc (ls++[x])=fU enc ls++enc x:=by grind [fU]
theorem Ua{K V:Type}[DecidableEq K]{hs:List (K×V)}(h:(hs.map Prod.fst).Nodup):∀l:List (K×V),(∀x∈l,x∈hs)->(l.map Prod.fst).filterMap (fun q=>bW hs q)=l.map Prod.snd
 |[],_=>rfl
 |x::l,hl=>by
  rw[map_cons,map_cons,filterMap_cons,xI h (k:=x.1) (v:=x.2) (hl x aF)];exact congrArg (x.2:: ·) (Ua h l (fun y hy=>hl y (mem_cons_of_mem _ hy)))
theorem Ub(p:Nat)(S:aV)(w:World)(h:dJ w p S)(hn:S.ks.length<=65536):
 Calls prog 87 #[.pointer (some ⟨p,0,none⟩)] w fun x w'=>∃v es,x= .returned v/\w'.ownsRow w.heap.size 159 84 v S.ks.length (fU uK es)/\(es.map qg.k).Perm (S.ks.map Prod.snd)/\es.Pairwise (fun x y=>0<=CZ y x)/\X w w':=by
 have nA:=O h;have b7:=h.blk.cell' (aV.nV h.hl h.hf);have al:=O h.ek.nodup;have b0:=O h.kr;obtain⟨ce,ap⟩:=jE (fun x w'=>∃v es,x= .returned v/\w'.ownsRow w.heap.size 159 84 v S.ks.length (fU uK es)/\(es.map qg.k).Perm (S.ks.map Prod.snd)/\es.Pairwise (fun x y=>0<=CZ y x)/\X w w':Ending->World->Prop);rw[<-ap];have b4:=O ap;clear h ap;go_enter func87,ntmps87;go_wp2_with (at_range;refine zZ F 143 29 159 underlying143 _ F F nA.key ?_);intro cc bi a8 mU;obtain⟨an,EA⟩:=aB bi a8;clear bi a8 b7;obtain⟨j,bk⟩:=aC w.heap.size;have E:=O (show w.heap.size<=j/\j<cc.heap.size by omega);rw[bk]at an⊢;clear bk mU;go_wp2_with fail;go_loopw [3] (fun v wr=>∃lf es,gJ eX bC.va wr S.gk j S.ks lf/\lf.Nodup/\es.length+lf.length=S.ks.length/\(es.map (fun x:qg=>x.k)++(lf.filterMap fun q=>bW S.ks q)).Perm (S.ks.map Prod.snd)/\wr.ownsRow (j+1) 159 84 v es.length (fU uK es)/\X w wr) (fun _ wr=>wr.rangeLeft S.gk j)
 case atStart=>
  refine⟨S.ks.map Prod.fst,[],an,al,aF,?_,⟨F,.inl ⟨F,F⟩⟩,EA⟩;rw[map_nil,nil_append,Ua al.out S.ks (fun _ h=>h)]
 case round=>
  obtain⟨lf,es,aw,bd,ba,bh,own,a7⟩:=hrel;obtain⟨a1,Ct,ai,a0,OW,R⟩:=iq aw bd ba bh own a7;have cb:=aw.qL;clear aw bd ba bh own a7 an EA;go_wp2_with (at_next;refine z_ F (fun x y h=>xJ h) _ F F a1 ?_ ?_)
  ·intro ca;subst ca;have b':es.length=S.ks.length:=by have:=ai.out;simpa using this
   go_wp2_with fail;refine(acu OW F J).mono ?_;rintro cf w2 ⟨rfl,b8,be,bl,bm,a9⟩;obtain⟨aa,ac,b2,b5⟩:=bU (R.grown a9 (fun q u=>by have:=(OW.lt q u).1;have:=E.out;omega)) bm be bl;clear bm a9 be bl OW R;go_wp2_with fail
   (try go_ret)
   rw[b4.out];refine⟨_,b8,F,?_,?_,b5,aa⟩
   ·rw[<-b'];exact mg ac (by have:=E.out;omega)
   ·have:=a0.out;simp only[filterMap_nil,append_nil]at this;exact(b2.map _).trans this
  ·intro x k w2 lf2 tT ar sP bj ax bc;obtain⟨b1,a2,am,aE⟩:=bU (Au Ct ar) bj sP (b0 _ tT);have ab:=O (bC.len aE);obtain⟨I,aq⟩:=jE (⟨k,aE⟩:qg);obtain⟨bz,bx⟩:=aB (show uK I=k.v by rw[aq];rfl) (show I.k=k by rw[aq]);clear aq;obtain⟨b3,bw,aa,ac⟩:=bU ar (xI al tT) (ax.ext R E.1) (um OW (qC ax) (fun g b9=>by have:=(OW.lt g b9).1;simp;omega));rw[show bC.va k= .agg k.v.toArray from F]at bc⊢;clear tT ar bj ax a1 sP OW R;go_wp2_with (refine bg F _ (.tmp 5) _ F F F (ah.aI (vs:=bC.zero.v) F F) pX (bC.len bC.vk) ab (yT k) ?_);intro az a6 bp;have ad:X w2 az:=bp.ext ((X.refl _).alloc _) l5;obtain⟨bt,bu,a5,a3⟩:=bU a6 (aa.ext ad) (dQ ac ad) (a2.ext ad);have cj:=a3.lt;clear a6 bp ad bc ac a2 aa;generalize w2.heap.size=cg at*;have ci:es.length+1<=65536:=by have:=ai.out;have:=am.out;omega
   go_wp2_with (first|(refine bV F 159 (.tmp 5) F F bt pX ab ?_)|(refine Cc T_ aX F F F ab ?_)|(refine qB T_ F _ _ F (j+1) (m:=1) (news:=k.v) F F (dQ a5 ((X.refl _).alloc _)) (by rw[ab.out]) l5 (by intro h;cases h) (aK.tO (ah.aI (vs:=k.v) F F)) (yT k) J J (by rw[gU];omega) ?_));intro cd br bo ao _;have ae:X az (World.alloc az (.cells k.v.toArray 159)):=(X.refl _).alloc _;have ag:=dQ a5 ae;have bv:Hid (X w br):=O ((bu.ext ae).grown ao (fun q u=>by have:=(ag.lt q u).1;have:=E.out;omega));obtain⟨a4,b6⟩:=aB ((a3.ext ae).grown ao (fun u=>by have a_:=(ag.lt _ u.symm).1;have af:=nA.key.lt;have ch:=E.out;omega) (fun u=>by have:=(ag.lt j u.symm).1;omega)) (show br.ownsRow (j+1) 159 84 cd (es++[I]).length (fU uK (es++[I])) by rw[ML,length_append,bz.out];exact bo);clear bo ao ae ag;go_wp2_with fail;go_roundw
   case rel=>
    refine⟨lf2,es++[I],a4,b1.2,?_,?_,b6,bv⟩
    ·rw[length_append,length_singleton];have:=ai.out;have:=am.out;omega
    ·have a_:=a0.out;refine List.Perm.trans ?_ a_;rw[map_append,append_assoc];refine List.Perm.append_left _ ?_;have af:=(b3.filterMap (fun q=>bW S.ks q)).symm;rw[filterMap_cons,bw.out]at af;rw[<-bx.out]at af;exact af
   case measure=>rw[a4.qL,cb,am.out];omega
end
section
open Go Go.RowKit Go.Shelf Go.Sort
structure mY where
 m:lJ
 h:m.id.length=16
instance:Inhabited mY:=⟨⟨lJ.zero,F⟩⟩
def qh(x:mY):aO:=x.m.v
theorem EZ(x:mY):(qh x).length=17:=by unfold qh lJ.v;simp[x.h]
theorem MN(x:mY):∀v∈qh x,v.oneCell'=true:=by
 intro v j;unfold qh lJ.v at j;rcases mem_append.1 j with h|h
 ·exact b_ _ v h
 ·rw[mem_singleton.1 h];rfl
def C9(x y:mY):Int:=eH x.m.id y.m.id
theorem acv:Sort.SWO (ltOf C9) where
 irrefl x:=Ju x.m.id
 trans x y z h1 h2:=FT h1 h2
 ntrans x y z h1 h2:=Jv h1 h2
theorem Uc:iH prog 228 17:=⟨⟨_,underlying228,F⟩,au⟩
theorem lJ.MO{m:lJ}(h:m.id.length=16):(m.v.drop 0).take 16=m.id.map Y:=by grind [lJ.v]
theorem acw(x y:mY)(w:World):Calls prog 197 #[.agg (qh x).toArray,.agg (qh y).toArray] w fun e w'=>e= .returned (.int .i64 (C9 x y))/\iT w w':=by
 obtain⟨hc,I,HY,Dr,GA⟩:=dM (fun w=>Gg x.m.id y.m.id w x.h y.h) (lJ.MO x.h) (lJ.MO y.h) (show(x.m.id.map Y).length=16 by rw[length_map];exact x.h) (show(y.m.id.map Y).length=16 by rw[length_map];exact y.h);go_enter func197,ntmps197;go_upto_region 1 with(fail);generalize iX:World.alloc (World.alloc w _) _=j;have xA:ah j w.heap.size x.m.v 228:=by rw[<-iX];exact(ah.aI F F).alloc _
 have yA:ah j (w.heap.size+1) y.m.v 228:=by rw[<-iX];exact ah.aI aF F
 have EA:Hid (iT w j):=by rw[<-iX];exact O (((iT.refl w).alloc _).alloc _)
 obtain⟨R,aa⟩:=aB xA yA;clear iX xA yA;go_wp2_with (first|(refine bF F (bQ F F (dF R I) dh Dr) ?_)|(refine bF F (bQ F F (dF aa HY) dh GA) ?_));refine(hc j).mono ?_;rintro e w' ⟨rfl,u⟩;have E:=O (EA.trans u);clear u;go_wp2_with fail;go_ret;exact⟨F,E⟩
theorem acy:∀j w,(callFunc 197 j).run prog w= .ok (.enter 197 j) w:=enters_of func197 au F
theorem acz{w:World}{B n:Nat}{v:Value}{ls:List mY}(own:w.ownsRow B 228 17 v n (fU qh ls))(hn:ls.length=n)(j:n<4611686018427387904):
 Calls prog 196 #[v,.func (.func 197) #[] #[]] w fun x w'=>x= .returned (.tuple #[])/\∃es,es.Perm ls/\es.Pairwise (fun x y=>¬C9 y x<0)/\w'.ownsRow B 228 17 v n (fU qh es)/\w.grownBy w' v.ownBlock:=
 MI acd isAgg228 sizeOf228 EZ MN C9 acv _ acw acy own hn j
theorem Ud:pO prog 225 228 17 40:=⟨underlying225,⟨_,_,(info_parts EX).choose_spec.1,(info_parts EX).choose_spec.2.1,(info_parts EX).choose_spec.2.2.1,(info_parts EX).choose_spec.2.2.2,F⟩,aX⟩
theorem MP:pO prog 98 9 1 16:=⟨underlying98,⟨_,_,(info_parts (show(prog.info? 9).map (fun i=>(i.zero,i.size,i.bytes))=some (some (.string ⟨#[]⟩),1,16) by kernel_rfl)).choose_spec.1,(info_parts (show(prog.info? 9).map (fun i=>(i.zero,i.size,i.bytes))=some (some (.string ⟨#[]⟩),1,16) by kernel_rfl)).choose_spec.2.1,(info_parts (show(prog.info? 9).map (fun i=>(i.zero,i.size,i.bytes))=some (some (.string ⟨#[]⟩),1,16) by kernel_rfl)).choose_spec.2.2.1,(info_parts (show(prog.info? 9).map (fun i=>(i.zero,i.size,i.bytes))=some (some (.string ⟨#[]⟩),1,16) by kernel_rfl)).choose_spec.2.2.2,F⟩,aX⟩
theorem acA(xs:aO)(a:aN)(n c:Nat)(w:World)(u:xs.length=n)(hn:n<=1000)(al:n<=c)(E:∀v∈xs,v.oneCell'=true)(j:aK w a xs):
 Calls prog 119 #[.slice a n c] w fun e w'=>∃v,e= .returned v/\w'.ownsRow w.heap.size 9 1 v n xs/\X w w':=by
 obtain⟨ac,ad,ab,af⟩:=bU j u E MP;have ao:∀(w:World) (a:aN) (n c n' c':Nat),(binOp .eql 98 (.slice a n c) (.slice none n' c')).run prog w= .ok (.bool a.isNone) w:=fun w a n c n' c'=>Lib.run_eql_slice_nil w _ _ a n c n' c' underlying98;cases a with
 |none=>
  have an:xs=[]:=by
   rcases j with h|⟨_,_,h,_⟩
   ·exact h
   ·cases h
  subst an;have ai:n=0:=u.symm;subst ai;clear u E j;go_enter func119,ntmps119;go_wp2;go_ret;exact⟨_,F,⟨F,.inl ⟨F,F⟩⟩,X.refl _⟩
 |some A=>
  clear u E j;go_enter func119,ntmps119;go_wp2_with (refine qB (n:=0) (m:=n) (c:=c) (xs:=[]) (news:=xs) af F _ _ F w.heap.size F F (World.ownsRow_made w #[] 0 l5 (Nat.zero_le _) aF) (by have:=ad.out;omega) al (fun h=>by cases h) (ac.ext ((X.refl w).alloc _)) ab J J (by rw[gU];omega) ?_);intro v' aa R I am;have ag:X w aa:=((X.refl w).alloc _).grown I (by intro k hk;simp[Value.ownBlock]at hk;omega);have ae:Hid (aa.ownsRow w.heap.size 9 1 v' n xs):=O (by simpa using R);clear I R am;go_wp2;go_ret;exact⟨v',F,ae,ag⟩
def mY.Own(w:World)(B:Nat)(x:mY):Prop:=w.ownsRow B 9 1 x.m.r.v x.m.r.n (x.m.r.l.map bM)
def mY.p(x:mY):aj×aT:=(x.m.id,x.m.r.l)
theorem MQ{K V U:Type}[DecidableEq K](f:V->U){hs:List (K×V)}(h:(hs.map Prod.fst).Nodup):∀l:List (K×V),(∀x∈l,x∈hs)->(l.map Prod.fst).filterMap (fun q=>(bW hs q).map fun v=>(q,f v))=l.map fun x=>(x.1,f x.2)
 |[],_=>rfl
 |x::l,hl=>by
  rw[map_cons,map_cons,filterMap_cons,xI h (k:=x.1) (v:=x.2) (hl x aF)];exact congrArg ((x.1,f x.2):: ·) (MQ f h l (fun y hy=>hl y (mem_cons_of_mem _ hy)))
theorem acB(p:Nat)(S:aV)(w:World)(h:dJ w p S)(hn:S.ms.length<=65536):
 Calls prog 143 #[.pointer (some ⟨p,0,none⟩)] w fun x w'=>∃v es,x= .returned v/\w'.ownsRow w.heap.size 228 17 v S.ms.length (fU qh es)/\(es.map mY.p).Perm S.p.ms/\es.Pairwise (fun x y=>0<=C9 y x)/\(∀x∈es,x.Own w' w.heap.size/\x.m.r.n<=16/\∀s∈x.m.r.l,s.size<=32)/\X w w':=by
 have nA:=O h;have cD:=h.blk.cell' (aV.mD h.hl h.hf);have a0:=O h.em.nodup;have CF:=O h.em.good;have bz:=O h.mr;obtain⟨cP,be⟩:=jE (fun x w'=>∃v es,x= .returned v/\w'.ownsRow w.heap.size 228 17 v S.ms.length (fU qh es)/\(es.map mY.p).Perm S.p.ms/\es.Pairwise (fun x y=>0<=C9 y x)/\(∀x∈es,x.Own w' w.heap.size/\x.m.r.n<=16/\∀s∈x.m.r.l,s.size<=32)/\X w w':Ending->World->Prop);rw[<-be];have cy:=O be;clear h be;go_enter func143,ntmps143;go_wp2_with (at_range;refine zZ F 142 29 98 underlying142 _ F F nA.mem ?_);intro cM ci ca mU;obtain⟨a6,EA⟩:=aB ci ca;clear ci ca cD;obtain⟨j,ck⟩:=aC w.heap.size;have ab:=O (show w.heap.size<=j/\j<cM.heap.size by omega);rw[ck]at a6⊢;clear ck mU;go_wp2_with fail;go_loopw [3] (fun v wr=>∃lf es,gJ eX iF.v wr S.gm j S.ms lf/\lf.Nodup/\es.length+lf.length=S.ms.length/\(es.map mY.p++(lf.filterMap fun q=>(bW S.ms q).map fun v=>(q,v.l))).Perm S.p.ms/\wr.ownsRow (j+1) 228 17 v es.length (fU qh es)/\(∀x∈es,x.Own wr (j+1)/\x.m.r.n<=16/\∀s∈x.m.r.l,s.size<=32)/\X w wr) (fun _ wr=>wr.rangeLeft S.gm j)
 case atStart=>
  refine⟨S.ms.map Prod.fst,[],a6,a0,aF,?_,⟨F,.inl ⟨F,F⟩⟩,aF,EA⟩;rw[map_nil,nil_append,MQ (fun v:iF=>v.l) a0.out S.ms (fun _ h=>h)];exact List.Perm.refl _
 case round=>
  obtain⟨lf,es,bo,cf,cc,ch,own,cg,b'⟩:=hrel;obtain⟨a7,Ct,aE,b1,OW,ad,ai⟩:=su bo cf cc ch own cg b';have cJ:=bo.qL;clear bo cf cc ch own cg b' a6 EA;go_wp2_with (at_next;refine z_ F (fun x y h=>xJ h) _ F F a7 ?_ ?_)
  ·intro cH;subst cH;have cG:es.length=S.ms.length:=by have:=aE.out;simpa using this
   go_wp2_with fail;refine(acz OW F J).mono ?_;rintro cE w2 ⟨rfl,cb,bl,cl,cm,bd⟩;obtain⟨ap,ar,cv,cA⟩:=bU (ai.grown bd (fun q R=>by have:=(OW.lt q R).1;have:=ab.out;omega)) cm bl cl;have ac:=O (show∀x∈cb,x.Own w2 (j+1)/\x.m.r.n<=16/\∀s∈x.m.r.l,s.size<=32 from fun x hx=>by
    have I:=ad.out x (bl.mem_iff.1 hx);exact⟨(nP.yL OW I.1 aX).keep I.1 bd,I.2⟩)
   clear cm bd bl cl OW ai ad;go_wp2_with fail
   (try go_ret)
   rw[cy.out];refine⟨_,cb,F,?_,?_,cA,fun x hx=>⟨mg (ac x hx).1 (by have:=ab.out;omega),(ac x hx).2⟩,ap⟩
   ·rw[<-cG];exact mg ar (by have:=ab.out;omega)
   ·have:=b1.out;simp only[filterMap_nil,append_nil]at this;exact(cv.map _).trans this
  ·intro id r w2 lf2 tT bm sP cj an cd;obtain⟨cs,b3,a2,a1⟩:=bU (Au Ct bm) cj sP (show id.length=16 from CF _ tT);obtain⟨bw,b5,cw,cr,ap,b6,ar,ac⟩:=jg (show(id.map Y).length=16 by rw[length_map];exact a1) ((bz _ tT)) bm (xI a0 tT) (an.ext ai ab.1) (show r.Hi w2 (p+1)from((bz _ tT).ext ai).fF an.fF (.inr (CW a7))) (um OW (qC an) (fun g bi=>by have:=(OW.lt g bi).1;simp;omega)) (show∀x∈es,x.Own w2 (j+1)/\x.m.r.n<=16/\∀s∈x.m.r.l,s.size<=32 from fun x hx=>⟨um (ad x hx).1 (qC an) (fun g bi=>by have:=((ad x hx).1.lt g bi).1;simp;omega),(ad x hx).2⟩);rw[show iF.v r= .slice r.a r.n r.c from F]at cd⊢;clear tT bm cj an a7 sP OW ai ad;go_upto_region 5 with(refine bg F _ (.tmp 4) _ F F F (ah.aI (vs:=List.replicate 16 (.int .u8 0)) F F) dh aF bw (b_ id) ?_);intro ao b9 cp;have ae:X w2 ao:=cp.ext ((X.refl _).alloc _) l5;obtain⟨bu,az,b7,a4,a8,b2⟩:=iq b9 (ap.ext ae) (dQ ar ae) (show∀x∈es,x.Own ao (j+1)/\x.m.r.n<=16/\∀s∈x.m.r.l,s.size<=32 from fun x hx=>⟨dQ (ac x hx).1 ae,(ac x hx).2⟩) (b3.ext ae) (b6.ext ae);have cz:=O a8.lt;clear b9 cp ae cd ar b3 ap ac b6;generalize w2.heap.size=g4 at*;go_upto_region 5 with fail;obtain⟨C,iB,aJ⟩:=jJ ao;have bP:C ao:=(iB _).2 (X.refl _);have cR:es.length+1<=65536:=by have:=aE.out;have:=a2.out;omega
   refine jQ (W:=[6]) fun Z=> ?_;refine bK 0 ?_;refine k_ 1 F (oC F 29 _ F F (fun br h=>bu.ext ((iB br).1 h)) dh bw) ?_;refine bK 2 ?_;refine fC 3 ?_;generalize World.drew ao=ag at Z⊢;have aq:=O (b2.ext ((iB ag).1 Z));intro al E;go_wp2_with fail;refine(acA (r.l.map bM) r.a r.n r.c ag (by rw[length_map];exact aq.hl) (by have:=aq.n16;omega) aq.nc (fun v cL=>by obtain⟨s,_,rfl⟩:=mem_map.1 cL;rfl) aq.cell.cells).mono ?_;rintro cE aa ⟨v,rfl,bp,u⟩;have bh:=aJ _ _ Z u;obtain⟨ba,bc,rfl,cS, -, -⟩:=iJ bp;have b8:=O bp;have cF:w.heap.size<=ag.heap.size:=(az.ext ((iB ag).1 Z)).size;have ce:j+1<=ag.heap.size:=by have I:=((iB ag).1 Z).size;have ax:=cz.out;omega
   go_wp2_with fail;refine E _ _ bh ?_;clear E al Z bp u;have Z:=bh;clear bh;refine aH ?_;refine FW 4 F (bf F (fun br _=>ach (x:=id) (sa:=ba) (sn:=r.n) (sc:=bc) (l:=r.l) F F F a1 br)) ?_;obtain⟨mk,bk⟩:=jE (⟨⟨id,⟨ba,r.n,bc,r.l⟩⟩,a1⟩:mY);rw[show lJ.v ⟨id,⟨ba,r.n,bc,r.l⟩⟩=qh mk by rw[bk];rfl];obtain⟨bx,a3⟩:=aB (EZ mk) bk;clear bk;refine fC 5 ?_;intro al E;go_wp2_with (refine Cc Ud aX F F F bx ?_);refine E _ _ (aJ _ _ Z ((X.refl aa).alloc _)) ?_;clear E al;have u:=(iB aa).1 Z;have co:=dQ b7 u;obtain⟨bv,a9,a5,b0,a_⟩:=dM (az.ext u) (a8.ext u) (show∀x∈es,x.Own aa (j+1)/\x.m.r.n<=16/\∀s∈x.m.r.l,s.size<=32 from fun x hx=>⟨dQ (a4 x hx).1 u,(a4 x hx).2⟩) (mg b8 ce) co;clear u co Z b8 ce cF az b7 a8 a4 b2 bu iB aJ bP;refine aH ?_;refine iU 6 ?_;intro al E;go_wp2_with (refine qB Ud F _ _ F (j+1) (m:=1) (news:=qh mk) F F (dQ a_ ((X.refl _).alloc _)) (by rw[bx.out]) l5 (by intro h;cases h) (aK.tO (ah.aI (vs:=qh mk) F F)) (MN mk) J J (by have:=a9.lt;rw[gU];omega) ?_);intro cN bt cn aw _;refine E _ _ trivial ?_;clear E al;refine aH ?_;refine bK 7 ?_;refine jR ?_;have af:X aa (World.alloc aa (.cells (qh mk).toArray 228)):=(X.refl _).alloc _;have am:=dQ a_ af;obtain⟨cq,b4⟩:=aB ((bv.ext af).grown aw (fun q R=>by have:=(am.lt q R).1;have:=ab.out;omega)) ((a9.ext af).grown aw (fun R=>by have I:=(am.lt _ R.symm).1;have ax:=nA.mem.lt;have cQ:=ab.out;omega) (fun R=>by have:=(am.lt j R.symm).1;omega));have bj:∀x:mY,x.Own aa (j+1)->x.Own bt (j+1):=fun x hx=>(nP.yL am (dQ hx af) aX).keep (dQ hx af) aw;have ct:=O (show∀x∈es++[mk],x.Own bt (j+1)/\x.m.r.n<=16/\∀s∈x.m.r.l,s.size<=32 from fun x hx=>by
    rcases mem_append.1 hx with hx|hx
    ·exact⟨bj x (a5 x hx).1,(a5 x hx).2⟩
    ·rw[mem_singleton.1 hx];have cI:mk.Own aa (j+1):=by rw[a3.out];exact b0
     refine⟨bj mk cI,?_⟩;rw[a3.out];exact⟨b5.n16,b5.sz⟩)
   obtain⟨cC,cx⟩:=aB (show bt.ownsRow (j+1) 228 17 cN (es++[mk]).length (fU qh (es++[mk])) by rw[ML,length_append];exact cn) (show mk.p=(id,r.l) by rw[a3.out];rfl);clear cn aw af am bj a5 a9 bv a_ b0;go_wp2_with fail;go_roundw
   case rel=>
    refine⟨lf2,es++[mk],b4,cs.2,?_,?_,cC,ct,cq⟩
    ·rw[length_append,length_singleton];have:=aE.out;have:=a2.out;omega
    ·have I:=b1.out;refine List.Perm.trans ?_ I;rw[map_append,append_assoc];refine List.Perm.append_left _ ?_;have ax:=(cw.filterMap (fun q=>(bW S.ms q).map fun v=>(q,v.l))).symm;rw[filterMap_cons,cr.out]at ax;rw[map_singleton,cx.out];exact ax
   case measure=>rw[b4.qL,cJ,a2.out];omega
end
section
open Go Go.RowKit
section
variable {P:Program} {ops:Array Oper} {rest:List Oper} {o:Oper} {a:Act} {w:World} {Q:Exit->Act->World->Prop}
theorem acC{g off:Nat}{vs:aO}{v:Value}{T ty:TypeId}(hb:ah w g vs T)(hs:(P.info? ty).map (·.size)=some 1)(hc:v.cells= #[v])(hn:off<vs.length)(E:v.oneCell'=true):
 (storeVar ty ⟨g,off,none⟩ v).run P w= .ok () (w.setRow g (fV vs off [v]).toArray):=by
 have u:=run_storeCells_at P g off T [v] 0 vs.toArray w hb (by simp;omega) (by simpa using E);cases j:P.info? ty with
 |none=>simp[j]at hs
 |some i=>
  have I:i.size=1:=by simpa[j]using hs
  simp only[Nat.add_zero,toList_toArray]at u;simp[storeVar,sizeOf,typeInfo,j,hc,I,u,fV]
theorem acD{vs:aO}{off:Nat}{v:Value}(h:off<vs.length):fV vs off [v]=vs.set off v:=by
 unfold fV;rw[set_eq_take_append_cons_drop,if_pos h];simp
theorem kY(E:o.guard=none)(ty:TypeId)(x y:Operand)(I:o.op= .store ty x y){g off:Nat}{vs:aO}{v:Value}{T:TypeId}
 (R:a.eval x= .pointer (some ⟨g,off,none⟩))(aa:a.eval y=v)(hb:ah w g vs T)(hs:(P.info? ty).map (·.size)=some 1)(hc:v.cells= #[v])(hn:off<vs.length)(j:v.oneCell'=true)
 (h:∀w',ah w' g (vs.set off v) T->aU w g w'->wpList P ops Q rest (a.put o.dst undef) w'):wpList P ops Q (o::rest) a w:=
 wpList_plain E fun K u=>by
  unfold Oper.wp execOp;simp only[I,R,aa,Instr.storeAt,Instr.sureAddr,Sem.run_bind,Sem.run_pure,Result.andThen_ok,acC hb hs hc hn j];refine u _ _ (h _ ?_ (aU.setRow _));rw[<-acD hn];exact hb.setRow _
end
theorem uM:(prog.info? 3).map (·.size)=some 1:=au
theorem IJ:(prog.info? 98).map (·.size)=some 1:=au
theorem Ue:(prog.info? 99).map (·.size)=some 1:=au
structure jD where
 wait:Int
 act:Int
 bI:Int
 key:Int
 n:Int
 m:Int
def jD.v(a:jD):aO:=[.int .i64 a.wait,.int .i64 a.act,.int .i64 a.bI,.int .i64 a.key,.int .i64 a.n,.int .i64 a.m]
theorem C_:iH prog 103 6:=⟨⟨_,underlying103,F⟩,au⟩
theorem Uf(a:jD):∀v∈a.v,v.oneCell'=true:=by
 intro v j;unfold jD.v at j;simp only[mem_cons,not_mem_nil,or_false]at j;rcases j with rfl|rfl|rfl|rfl|rfl|rfl<;>rfl
structure rA(w0:World)(g3 g4 g5 g6:Nat)(a:jD)(k:bC)(hb:aN)(hn hc:Nat)(hs:List (aj))(w:World):Prop where
 ex:X w0 w
 b3:ah w g3 a.v 103
 b4:ah w g4 dI.v 101
 n4:g4<g5
 Ug:w0.heap.size<=g4
 b6:ah w g6 k.v 159
 ok:k.Ok
 hl:hs.length=hn
 hnc:hn<=hc
 h3:hn<=3
 h16:oP hs
 hcell:bJ w (g5+1) hb (dB hs)
 ge:w0.heap.size<=g5
 bo:∃b:ay,b.Fit/\bJ w (g5+1) b.ra (b.roles.map bM)/\bJ w (g5+1) b.ha (dB b.mK)/\ah w g5 b.v 101
section
variable {w0 w w':World} {g3 g4 g5 g6:Nat} {a:jD} {k:bC} {hb:aN} {hn hc:Nat} {hs:List (aj)}
theorem rA.ext(h:rA w0 g3 g4 g5 g6 a k hb hn hc hs w)(e:X w w'):rA w0 g3 g4 g5 g6 a k hb hn hc hs w':=by
 obtain⟨b,j,u,E,I⟩:=h.bo;exact{h with ex:=h.ex.ext e,b3:=h.b3.ext e,b4:=h.b4.ext e,b6:=h.b6.ext e,hcell:=h.hcell.ext e,bo:=⟨b,j,u.ext e,E.ext e,I.ext e⟩}
theorem rA.fT(h:rA w0 g3 g4 g5 g6 a k hb hn hc hs w):g3≠g5:=by
 intro e;subst e;obtain⟨b,_,_,_,u⟩:=h.bo;have j:=h.b3;unfold ah at u j;rw[u]at j;injection j with j;injection j with _ j _;exact absurd j aX
theorem rA.gD(h:rA w0 g3 g4 g5 g6 a k hb hn hc hs w):g6≠g5:=by
 intro e;subst e;obtain⟨b,_,_,_,u⟩:=h.bo;have j:=h.b6;unfold ah at u j;rw[u]at j;injection j with j;injection j with _ j _;exact absurd j aX
theorem rA.store(h:rA w0 g3 g4 g5 g6 a k hb hn hc hs w)(u:aU w g5 w'){b:ay}(hf:b.Fit)(I:bJ w (g5+1) b.ra (b.roles.map bM))(E:bJ w (g5+1) b.ha (dB b.mK))(j:ah w' g5 b.v 101):rA w0 g3 g4 g5 g6 a k hb hn hc hs w':=
 {h with ex:=u.ext h.ex h.ge,b3:=h.b3.upd u h.fT,b4:=h.b4.upd u (Nat.ne_of_lt h.n4),b6:=h.b6.upd u h.gD,hcell:=h.hcell.upd u (Nat.lt_succ_self _),bo:=⟨b,hf,I.upd u (Nat.lt_succ_self _),E.upd u (Nat.lt_succ_self _),j⟩}
variable {bb:ay}
theorem rA.E5(h:rA w0 g3 g4 g5 g6 a k hb hn hc hs w)(u:aU w g5 w')(hf:bb.Fit)(I:bJ w (g5+1) bb.ra (bb.roles.map bM))(E:bJ w (g5+1) bb.ha (dB bb.mK)){n:Int}(j:ah w' g5 (bb.v.set 51 (.int .i64 n)) 101):rA w0 g3 g4 g5 g6 a k hb hn hc hs w':=by
 rw[ay.D6 bb _ hf.hm hf.hcm]at j;exact h.store u (b:={bb with epoch:=n}) {hf with} I E j
theorem rA.acE(h:rA w0 g3 g4 g5 g6 a k hb hn hc hs w)(u:aU w g5 w')(hf:bb.Fit)(I:bJ w (g5+1) bb.ra (bb.roles.map bM))(E:bJ w (g5+1) bb.ha (dB bb.mK)){n:Int}(j:ah w' g5 (bb.v.set 52 (.int .i64 n)) 101):rA w0 g3 g4 g5 g6 a k hb hn hc hs w':=by
 rw[ay.JY bb _ hf.hm hf.hcm]at j;exact h.store u (b:={bb with purpose:=n}) {hf with} I E j
theorem rA.acF(h:rA w0 g3 g4 g5 g6 a k hb hn hc hs w)(u:aU w g5 w')(hf:bb.Fit)(I:bJ w (g5+1) bb.ra (bb.roles.map bM))(E:bJ w (g5+1) bb.ha (dB bb.mK)){n:Int}(j:ah w' g5 (bb.v.set 53 (.int .i64 n)) 101):rA w0 g3 g4 g5 g6 a k hb hn hc hs w':=by
 rw[ay.JZ bb _ hf.hm hf.hcm]at j;exact h.store u (b:={bb with reason:=n}) {hf with} I E j
theorem rA.acG(h:rA w0 g3 g4 g5 g6 a k hb hn hc hs w)(u:aU w g5 w')(hf:bb.Fit)(I:bJ w (g5+1) bb.ra (bb.roles.map bM))(E:bJ w (g5+1) bb.ha (dB bb.mK)){n:Int}(j:ah w' g5 (bb.v.set 54 (.int .i64 n)) 101):rA w0 g3 g4 g5 g6 a k hb hn hc hs w':=by
 rw[ay.J3 bb _ hf.hm hf.hcm]at j;exact h.store u (b:={bb with need:=n}) {hf with} I E j
theorem rA.Uh(h:rA w0 g3 g4 g5 g6 a k hb hn hc hs w)(u:aU w g5 w')(hf:bb.Fit)(I:bJ w (g5+1) bb.ra (bb.roles.map bM))(E:bJ w (g5+1) bb.ha (dB bb.mK)){n:Int}(j:ah w' g5 (bb.v.set 55 (.int .i64 n)) 101):rA w0 g3 g4 g5 g6 a k hb hn hc hs w':=by
 rw[ay.J4 bb _ hf.hm hf.hcm]at j;exact h.store u (b:={bb with version:=n}) {hf with} I E j
theorem rA.acH(h:rA w0 g3 g4 g5 g6 a k hb hn hc hs w)(u:aU w g5 w')(hf:bb.Fit)(I:bJ w (g5+1) bb.ra (bb.roles.map bM))(E:bJ w (g5+1) bb.ha (dB bb.mK)){n:Int}(j:ah w' g5 (bb.v.set 56 (.int .i64 n)) 101):rA w0 g3 g4 g5 g6 a k hb hn hc hs w':=by
 rw[ay.J5 bb _ hf.hm hf.hcm]at j;exact h.store u (b:={bb with count:=n}) {hf with} I E j
theorem rA.st0(h:rA w0 g3 g4 g5 g6 a k hb hn hc hs w)(u:aU w g5 w')(hf:bb.Fit)(I:bJ w (g5+1) bb.ra (bb.roles.map bM))(E:bJ w (g5+1) bb.ha (dB bb.mK)){s:ByteArray}(j:ah w' g5 (bb.v.set 0 (.string s)) 101)(R:s.size<=140737488355328):rA w0 g3 g4 g5 g6 a k hb hn hc hs w':=
 h.store u (b:={bb with text:=s}) {hf with ts:=R} I E j
theorem rA.MR(h:rA w0 g3 g4 g5 g6 a k hb hn hc hs w)(u:aU w g5 w')(hf:bb.Fit)(I:bJ w (g5+1) bb.ra (bb.roles.map bM))(E:bJ w (g5+1) bb.ha (dB bb.mK)){s:ByteArray}(j:ah w' g5 (bb.v.set 18 (.string s)) 101)(R:s.size<=140737488355328):rA w0 g3 g4 g5 g6 a k hb hn hc hs w':=by
 rw[ay.D5 bb _ hf.hm]at j;exact h.store u (b:={bb with label:=s}) {hf with ls:=R} I E j
theorem rA.Ui(h:rA w0 g3 g4 g5 g6 a k hb hn hc hs w)(u:aU w g5 w')(hf:bb.Fit)(E:bJ w (g5+1) bb.ra (bb.roles.map bM))(j:ah w' g5 (bb.v.set 57 (.slice hb hn hc)) 101):rA w0 g3 g4 g5 g6 a k hb hn hc hs w':=by
 rw[ay.J6 bb _ _ _ hs hf.hm hf.hcm]at j;exact h.store u (b:={bb with ha:=hb,hn:=hn,hc:=hc,mK:=hs}) {hf with hl:=h.hl,hnc:=h.hnc,vZ:=(show hn<=256 from Nat.le_trans h.h3 J),h16:=h.h16} E h.hcell j
theorem rA.IK(h:rA w0 g3 g4 g5 g6 a k hb hn hc hs w)(u:aU w g5 w')(hf:bb.Fit)(ac:bJ w (g5+1) bb.ha (dB bb.mK)){ra:aN}{rn rc:Nat}(rs:aT)(j:ah w' g5 (bb.v.set 17 (.slice ra rn rc)) 101)(E:rs.length=rn)(I:rn<=rc)(R:rn<=256)(aa:∀s∈rs,s.size<=140737488355328)(ab:bJ w (g5+1) ra (rs.map bM)):rA w0 g3 g4 g5 g6 a k hb hn hc hs w':=by
 rw[ay.DZ bb _ _ _ rs hf.hm]at j;exact h.store u (b:={bb with ra:=ra,rn:=rn,rc:=rc,roles:=rs}) {hf with rl:=E,qZ:=I,rm:=R,rs:=aa} ab ac j
theorem rA.x9(h:rA w0 g3 g4 g5 g6 a k hb hn hc hs w)(u:aU w g5 w')(hf:bb.Fit)(R:bJ w (g5+1) bb.ra (bb.roles.map bM))(I:bJ w (g5+1) bb.ha (dB bb.mK)){x:aj}(j:ah w' g5 (fV bb.v 19 (x.map Y)) 101)(E:x.length=32):rA w0 g3 g4 g5 g6 a k hb hn hc hs w':=by
 rw[ay.Gn bb _ hf.hm hf.hcm E]at j;exact h.store u (b:={bb with commit:=x}) {hf with hcm:=E} R I j
theorem rA.st1(h:rA w0 g3 g4 g5 g6 a k hb hn hc hs w)(u:aU w g5 w')(hf:bb.Fit)(R:bJ w (g5+1) bb.ra (bb.roles.map bM))(I:bJ w (g5+1) bb.ha (dB bb.mK)){x:aj}(j:ah w' g5 (fV bb.v 1 (x.map Y)) 101)(E:x.length=16):rA w0 g3 g4 g5 g6 a k hb hn hc hs w':=by
 rw[ay.JX bb _ hf.hm E]at j;exact h.store u (b:={bb with member:=x}) {hf with hm:=E} R I j
end
def E8:aT:=[⟨#[97,108,108,111,119,10]⟩,⟨#[97,108,108,111,119,32,114,111,108,101,32,97,100,109,105,110,10,97,108,108,111,119,32,114,111,108,101,32,117,115,101,114,32,97,99,116,32,117,115,101,32,97,112,112,114,111,118,101,32,111,110,32,97,112,112,42,10]⟩,⟨#[97,108,108,111,119,32,114,111,108,101,32,97,100,109,105,110,32,110,101,101,100,32,49,32,117,115,101,114,10,97,108,108,111,119,32,114,111,108,101,32,117,115,101,114,32,97,99,116,32,117,115,101,10,100,101,110,121,32,97,99,116,32,114,101,118,111,107,101,32,97,116,32,48,45,54,10]⟩,⟨#[97,108,108,111,119,32,114,111,108,101,32,97,100,109,105,110,32,97,99,116,32,112,111,108,105,99,121,32,101,110,114,111,108,108,32,100,105,115,109,105,115,115,32,99,114,101,97,116,101,32,110,101,101,100,32,50,32,117,115,101,114,10,97,108,108,111,119,32,97,99,116,32,114,111,116,97,116,101,32,117,115,101,32,101,115,99,114,111,119,32,114,101,99,111,118,101,114,32,98,97,99,107,117,112,32,111,110,32,97,112,112,42,32,100,98,10,100,101,110,121,32,114,111,108,101,32,117,115,101,114,32,97,99,116,32,114,101,118,111,107,101,10]⟩,⟨#[100,101,110,121,32,97,99,116,32,97,112,112,114,111,118,101,32,114,111,108,101,32,117,115,101,114,10,97,108,108,111,119,32,114,111,108,101,32,97,100,109,105,110,10]⟩,⟨#[97,108,108,111,119,32,97,99,116,32,101,110,114,111,108,108,32,112,111,108,105,99,121,32,99,114,101,97,116,101,32,117,115,101,32,114,111,116,97,116,101,10,97,108,108,111,119,32,97,99,116,32,100,105,115,109,105,115,115,32,114,101,118,111,107,101,32,114,101,115,116,111,114,101,32,110,101,101,100,32,49,32,97,100,109,105,110,10]⟩]
theorem acI:∀s∈E8,s.size<=1000:=by decide+kernel
theorem acJ(w:World):Calls prog 88 #[] w fun x w'=>x= .returned (.slice (some ⟨w.heap.size,0,none⟩) 6 6)/\aK w' (some ⟨w.heap.size,0,none⟩) (E8.map bM)/\X w w':=by
 go_enter func88,ntmps88;go_wp2_with fail;go_ret;exact⟨F,aK.tO (ah.aI (vs:=E8.map bM) F F),(X.refl w).alloc _⟩
theorem acK(x y z:aj)(E:x.length=16)(I:y.length=16)(R:z.length=16)(j:Array Value)(hc:j.size=48):Instr.fill (fun i=>some (i*16,16)) j [(0,.agg (x.map Y).toArray),(1,.agg (y.map Y).toArray),(2,.agg (z.map Y).toArray)]=some (dB [x,y,z]).toArray:=by
 have h:=Great.fill_whole (s:=16) J [.agg (x.map Y).toArray,.agg (y.map Y).toArray,.agg (z.map Y).toArray] j (by intro v u;simp only[mem_cons,not_mem_nil,or_false]at u;rcases u with rfl|rfl|rfl<;>simp[Value.cells,E,I,R]) (by simp[hc]);simpa[Value.cells,dB]using h
theorem acL{ops:Array Oper}{rest:List Oper}{o:Oper}{a:Act}{w:World}{Q:Exit->Act->World->Prop}(R:o.guard=none){p q r:Operand}{x y z:aj}(ab:o.op= .buildSlice 99 3 #[(0,p),(1,q),(2,r)])(ac:a.eval p= .agg (x.map Y).toArray)(ad:a.eval q= .agg (y.map Y).toArray)(j:a.eval r= .agg (z.map Y).toArray)(ae:x.length=16)(af:y.length=16)(ag:z.length=16)
 (h:wpList prog ops Q rest (a.put o.dst (.slice (some ⟨w.heap.size,0,none⟩) 3 3)) (w.alloc (.cells (dB [x,y,z]).toArray 29))):wpList prog ops Q (o::rest) a w:=by
 obtain⟨al,aa,ai,mU,am⟩:=info_parts J7;refine wpList_plain R fun K E=> ?_;have j:(execOp a.eval o).run prog w= .ok (.value (.slice (some ⟨w.heap.size,0,none⟩) 3 3)) (w.alloc (.cells (dB [x,y,z]).toArray 29)):=by
  have h:=run_buildSlice (P:=prog) w 99 29 3 #[(0,.agg (x.map Y).toArray),(1,.agg (y.map Y).toArray),(2,.agg (z.map Y).toArray)] (dB [x,y,z]).toArray al _ underlying99 aa ai (by rw[mU];omega) (by rw[mU];omega) (by rw[mU];exact acK x y z ae af ag _ aF);have I:(#[(0,p),(1,q),(2,r)].map fun(p:Nat×Operand)=>(p.1,a.eval p.2))= #[(0,.agg (x.map Y).toArray),(1,.agg (y.map Y).toArray),(2,.agg (z.map Y).toArray)]:=by simp[ac,ad,j]
  unfold execOp;simp only[ab,Sem.run_bind];have u:(Instr.buildSlice 99 3 (#[(0,p),(1,q),(2,r)].map fun(p:Nat×Operand)=>(p.1,a.eval p.2))).run prog w= .ok (.slice (some ⟨w.heap.size,0,none⟩) 3 3) (w.alloc (.cells (dB [x,y,z]).toArray 29)):=by rw[I];exact h
  rw[u];rfl
 unfold Oper.wp;rw[j,Oper.upon_value];exact E _ _ h
theorem bJ.front{w:World}{B:Nat}{a:aN}{xs ys:aO}(h:bJ w B a (xs++ys)):bJ w B a xs:=by
 rcases h with h|⟨b,off,ha,hb,h⟩
 ·exact .inl (append_eq_nil_iff.1 h).1
 ·exact .inr ⟨b,off,ha,hb,fun i u j=>h i u (by rw[List.getElem?_append_left (List.getElem?_eq_some_iff.1 j).1];exact j)⟩
theorem acM(a b:List (aj)):dB (a++b)=dB a++dB b:=by grind [dB]
theorem bJ.FP{w:World}{B:Nat}{a:aN}{l:List (aj)}(n:Nat)(h:bJ w B a (dB l)):bJ w B a (dB (l.take n)):=by
 rw[<-take_append_drop n l,acM]at h;exact h.front
theorem IL{w:World}{B g:Nat}{xs:aO}{T:TypeId}(h:ah w g xs T)(hb:B<=g):bJ w B (some ⟨g,0,none⟩) xs:=
 .inr ⟨g,0,F,hb,fun i u j=>by rw[Nat.zero_add];exact h.cell' j⟩
end
noncomputable def lK(es:List dW):aj:=es.flatMap fun e=>iZ e.r
noncomputable def rZ(es:List dW):List (aj):=es.map fun e=>dY 1 (iZ e.r)
noncomputable def Az:List dW->Nat->List Int
 |[],_=>[]
 |e::es,b=>((b+(iZ e.r).length:Nat):Int)::Az es (b+(iZ e.r).length)
noncomputable def wV(es:List dW):Int:=match es.getLast? with|none=>0 |some e=>e.time
theorem Uj(es:List dW)(e:dW):lK (es++[e])=lK es++iZ e.r:=by grind [lK]
theorem acN(es:List dW)(e:dW):rZ (es++[e])=rZ es++[dY 1 (iZ e.r)]:=by unfold rZ;rw[map_append];rfl
theorem acO(es:List dW)(e:dW):wV (es++[e])=e.time:=by grind [wV]
theorem acP(es:List dW)(e:dW):∀b,Az (es++[e]) b=Az es b++[((b+(lK es).length+(iZ e.r).length:Nat):Int)]:=by
 induction es with
 |nil=>intro b;unfold lK;simp[Az]
 |cons x es j=>
  intro b;rw[cons_append,Az,Az,j,cons_append];have:(lK (x::es)).length=(iZ x.r).length+(lK es).length:=by unfold lK;rw[flatMap_cons,length_append]
  rw[this,Nat.add_assoc b,Nat.add_assoc b]
theorem oF:∀(es:List dW) (b:Nat),(Az es b).length=es.length
 |[],_=>rfl
 |_::es,b=>by rw[Az,length_cons,length_cons,oF es]
theorem Uk(es:List dW):jB (rZ es):=fun x j=>by
 obtain⟨e,_,rfl⟩:=mem_map.1 j;exact j_ _ _
theorem acQ{es:List aG}(h:∀e∈es,e.body.length=e.bn):lK (es.map aG.p)=kG es:=by
 induction es with
 |nil=>rfl
 |cons x es E=>
  have j:=E (fun e u=>h e (mem_cons_of_mem _ u));unfold lK kG at*;rw[map_cons,flatMap_cons,flatMap_cons,j,J2 x (h x aF)]
theorem acR{es:List aG}(h:∀e∈es,e.body.length=e.bn):rZ (es.map aG.p)=qM es:=by
 unfold rZ qM;rw[map_map];refine map_congr_left fun x j=> ?_;show dY 1 (iZ x.p.r)=EW x;rw[J2 x (h x j)];rfl
noncomputable def MS(es:List aG):aj:=match es.getLast? with|none=>kN|some e=>ig e
theorem acS{es:List aG}(h:∀e∈es,e.body.length=e.bn):lq (es.map aG.p)=MS es:=by
 unfold lq MS;rw[List.getLast?_map];cases j:es.getLast? with
 |none=>rfl
 |some e=>exact Ii e (h e (mem_of_getLast? j))
def oM(vo ve:Value)(T:Int)(j:aj)(vl:Value):aO:=vo::ve:: .int .i64 T::(j.map Y++[vl])
theorem yZ{vo ve:Value}{T:Int}{j:aj}{vl:Value}(h:j.length=32):(oM vo ve T j vl).length=36:=by unfold oM;simp[h]
theorem Ul{vo ve:Value}{T:Int}{j:aj}{vl:Value}(h:j.length=32):((oM vo ve T j vl).drop 3).take 32=j.map Y:=by
 show((j.map Y++[vl])).take 32=_;rw[take_left' (by rw[length_map,h])]
theorem Um{vo ve:Value}{T:Int}{j:aj}{vl:Value}(h:j.length=32):(oM vo ve T j vl)[35]? =some vl:=by grind [oM]
structure nM(w:World)(B g:Nat)(es:List dW):Prop where
 ex:∃vo ve vl,ah w g (oM vo ve (wV es) (lq es) vl) 117/\w.ownsRow B 5 1 vo (lK es).length ((lK es).map Y)/\w.ownsRow B 3 1 ve es.length ((Az es 0).map lN)/\w.ownsRow B 31 32 vl es.length (dB (rZ es))
 le:B<=w.heap.size
 n:es.length<=65536
 sz:(lK es).length<=32889*es.length
theorem nM.ext{w w':World}{B g:Nat}{es:List dW}(h:nM w B g es)(e:X w w'):nM w' B g es:=by
 obtain⟨vo,ve,vl,j,u,E,I⟩:=h.ex;exact⟨⟨vo,ve,vl,j.ext e,dQ u e,dQ E e,dQ I e⟩,Nat.le_trans h.le e.size,h.n,h.sz⟩
theorem nM.lower{w:World}{B B' g:Nat}{es:List dW}(h:nM w B g es)(hb:B'<=B):nM w B' g es:=by
 obtain⟨vo,ve,vl,j,u,E,I⟩:=h.ex;exact⟨⟨vo,ve,vl,j,mg u hb,mg E hb,mg I hb⟩,Nat.le_trans hb h.le,h.n,h.sz⟩
theorem acT(w:World):Calls prog 20 #[] w fun x w'=>∃g,x= .returned (.pointer (some ⟨g,0,none⟩))/\w.heap.size<=g/\nM w' w.heap.size g []/\X w w':=by
 go_enter func20,ntmps20;go_wp2_with fail;go_ret;exact⟨w.heap.size,F,Nat.le_refl _,⟨⟨_,_,_,ah.aI (vs:=oM (.slice none 0 0) (.slice none 0 0) 0 kN (.slice none 0 0)) F F,⟨F,.inl ⟨F,F⟩⟩,⟨F,.inl ⟨F,F⟩⟩,⟨F,.inl ⟨F,F⟩⟩⟩,by rw[gU];omega,aF,by simp[lK]⟩,(X.refl w).alloc _⟩
theorem acU(B g:Nat)(es:List dW)(w:World)(h:nM w B g es):
 nW 12 #[.pointer (some ⟨g,0,none⟩)] w (.int .i64 (es.length:Int)):=by
 obtain⟨vo,ve,vl,j,R,u,aa⟩:=h.ex;obtain⟨E,I,rfl, -, -, -⟩:=iJ u;have ab:=j.cell' (i:=1) (v:= .slice E es.length I) F;clear h j R u aa;go_enter func12,ntmps12;go_wp2_with fail;go_ret;exact⟨F,X.refl _⟩
theorem acV(B g:Nat)(es:List dW)(w:World)(h:nM w B g es):
 Calls prog 14 #[.pointer (some ⟨g,0,none⟩)] w fun x w'=>∃v,x= .returned v/\w'.ownsRow w.heap.size 5 1 v (lK es).length ((lK es).map Y)/\X w w':=by
 have hn:=h.n;have hs:=h.sz;obtain⟨vo,ve,vl,u,E,ac,ad⟩:=h.ex;obtain⟨R,aa,rfl, -, -,I⟩:=iJ E;have ae:=u.cell' (i:=0) (v:= .slice R (lK es).length aa) F;have uE:=O I;clear h u E ac ad I;go_enter func14,ntmps14;go_wp2_with fail;refine(DL (lK es) R (lK es).length aa w F J uE).mono ?_;rintro x w' ⟨v,rfl,ow, -,j⟩;obtain⟨OW,ab⟩:=aB ow j;clear ow j;go_wp2_with fail;go_ret;exact⟨v,F,OW,ab⟩
noncomputable def E9(es:List dW):aO:=iY es.length (wV es) (lq es) (x8 (rZ es)).1
noncomputable def acW(n:Nat):Array Oper:=xZ f15 n
theorem acX(B g:Nat)(es:List dW)(w:World)(h:nM w B g es):
 nW 15 #[.pointer (some ⟨g,0,none⟩)] w (.agg (E9 es).toArray):=by
 have hn:=h.n;obtain⟨vo,ve,vl,u,aw,ba,ax⟩:=h.ex;obtain⟨b2,b3,rfl, -, -, -⟩:=iJ ba;obtain⟨bj,bk,rfl,Ka, -,Dk⟩:=iJ ax;have FR:=TU ax;obtain⟨E,an,uE⟩:=aW (Lh es) u Dk;have Ev:=u.cell' (Um E);have be:(rZ es).length=es.length:=by unfold rZ;rw[length_map]
 have ab:=O (show((x8 (rZ es)).1).length=32 by
  unfold x8;split
  ·rfl
  ·exact yX iO tY (Uk es))
 obtain⟨CX,aa⟩:=aB (fun j (I:X w j)=>ab5 (rZ es) bj es.length bk j be hn (Uk es) Ka FR (Dk.ext I)) (show E9 es=iY es.length (wV es) (lq es) (x8 (rZ es)).1 from F);clear h u aw ba ax Dk be;obtain⟨b5,bh⟩:=aC ((x8 (rZ es)));rw[bh]at CX ab aa;obtain⟨R,bl⟩:=b5;have a4:=O (show(R.map Y).length=32 by rw[length_map];exact ab);obtain⟨b4,aE⟩:=aC (lq es);obtain⟨bm,bi⟩:=aC (wV es);obtain⟨b6,bd⟩:=aC (E9 es);rw[aE,bi]at an aa;rw[aE]at E;rw[bd]at aa⊢;have bw:=O (show(b4.map Y).length=32 by rw[length_map];exact E);generalize es.length=n at*;clear bh aE bi bd;go_enter func15,ntmps15;go_upto_region 1 with fail;generalize iX:World.alloc w _=ag;have a7:ah ag w.heap.size (iY 0 0 iK iK) 46:=by rw[<-iX];exact ah.aI F F
 have ad:X w ag:=by rw[<-iX];exact(X.refl w).alloc _
 obtain⟨B0,am,a5⟩:=aW a7 ad (an.ext ad);have ar:=Ev;have Ev:ag.cell? ⟨g,35,none⟩=some (.slice bj n bk):=by rw[ad.cell (block_lt_of_cell ar)];exact ar
 clear iX a7 ad ar;obtain⟨ae,af⟩:=aC w.heap.size;have a3:=O af;rw[af]at B0
 conv=>rw[af]
 clear af;go_wp2_with fail;refine(CX ag am).mono ?_;rintro b8 ai ⟨rfl,I⟩;obtain⟨al,a2,ap,b0⟩:=bU (B0.ext I) (am.ext I) (a5.ext I) (show Kw (R,bl)= .tuple #[.agg (R.map Y).toArray,.int .i64 bl]from F);rw[b0.out];clear I B0 am a5 Ev;go_upto_region 2 with(refine bg F _ (.tmp 3) _ F F F (ah.aI (vs:=List.replicate 32 (.int .u8 0)) F F) bY aF (xs:=R.map Y) a4 (b_ R) ?_);intro v2 a8 bo;have e2:X ai v2:=bo.ext ((X.refl _).alloc _) l5;obtain⟨a1,B2,bu,ac,bx⟩:=dM a8 (al.ext e2) (a2.ext e2) (ap.ext e2) (show ae<ai.heap.size/\g<ai.heap.size from⟨al.lt,ap.lt⟩);clear a8 bo e2 al a2 ap;generalize ai.heap.size=g3 at*;go_upto_region 2 with fail;have bz:=O (show g≠ae from fun h=>by have u:=an.lt;have aw:=a3.out;omega);obtain⟨C,iB,aJ,bP⟩:=iw (show bT w v2 [g3,g] [(ae,66,46)] v2 from bT.yw bu (dV.two a1.lt ac.lt) B2 (GK _ _ F F));have a9:∀j,C j->j.cell? ⟨g,1,none⟩=some (.slice b2 n b3):=fun j u=>(((iB j).1 u).blk ac aF).cell' F;have a_:∀j,C j->j.cell? ⟨g,2,none⟩=some (.int .i64 bm):=fun j u=>(((iB j).1 u).blk ac aF).cell' F;refine fJ (ops:=(acW 2)) fun Z=> ?_;refine aA 0 ?_;refine aA 1 ?_;refine aA 2 ?_;refine dA 3 (a9) ?_;refine aA 4 ?_;refine aA 5 ?_;refine aA 6 ?_;refine aA 7 ?_;refine dA 8 (a_) ?_;refine aA 9 ?_;refine aA 10 ?_;refine aA 11 ?_;refine bD 12 F (bf F (fun j h=>bQ F F (dF (((iB j).1 h).blk ac aF) (Ul E)) bY bw)) ?_;refine bD 13 F (oC F 31 _ F F (fun j h=>((iB j).1 h).blk a1 aF) bY a4) ?_;refine bD 14 F (bf F (fun j _=>QF F F F F F E ab j)) ?_;generalize World.drew v2=br at Z⊢;obtain⟨b7,F3,zb⟩:=((iB br).1 Z).Dn (r:=ae) (n:=66) (T:=46) aF
 obtain⟨a6,tQ,ao⟩:=aW zb F3 (GK (n:Int) bm E ab);clear zb F3;refine aZ 15 ?_;intro b1 bc;go_wp2_with (refine bg F _ _ _ F F F a6 BI tQ ao (TT _ _ _ _) ?_);intro a0 aq bp;have az:C a0:=(iB a0).2 (((iB br).1 Z).store bp aq (by simp[ao.out]) (by have:=a3.out;omega) (by have u:=bx.out;have aw:=bz.out;simp;omega));have bt:=O aq;go_wp2_with fail;refine bc _ _ az ?_;have bv:=O ((iB a0).1 az).base;clear bc b1 Z aq bp a6 tQ az;refine aH ?_;refine dH ?_;clear aJ iB bP a9 a_ C;go_wp2_with fail;exact gG F F bt BI ao F ⟨by rw[aa.out],bv⟩
noncomputable def qO(es:List dW)(e:dW):Int:=if jX e≠0 then jX e else if e.num≠(es.length:Int)then 9 else if e.prev≠lq es then 13 else 0
noncomputable def y5(es:List dW)(e:dW):List dW:=if qO es e=0 then es++[e]else es
theorem acY{vo ve:Value}{T:Int}{j:aj}{vl:Value}(h:j.length=32)(v:Value):(oM vo ve T j vl).set 35 v=oM vo ve T j v:=by simp_all [oM]
theorem acZ{vo ve:Value}{T:Int}{u j:aj}{vl:Value}(h:u.length=32)(hb:j.length=32):fV (oM vo ve T u vl) 3 (j.map Y)=oM vo ve T j vl:=by grind [oM,fV]
theorem ac0{W w:World}{L:List Nat}{b o:Nat}{xs:aO}(k:dV W L w)(hb:b∈L)(h:dP W ⟨b,o,none⟩ xs):dP w ⟨b,o,none⟩ xs:=by
 intro j u I;have E:=h j u I;rw[dn]at E⊢;exact wu E (k.2.2 b hb)
theorem ac1:(prog.info? 32).map (·.size)=some 1:=au
theorem ac2:(prog.info? 106).map (·.size)=some 1:=au
theorem ac3:(prog.info? 59).map (·.size)=some 1:=au
theorem ac4{w:World}{b o B:Nat}{xs:aO}(h:aK w (some ⟨b,o,none⟩) xs)(hb:B<=b):bJ w B (some ⟨b,o,none⟩) xs:=by
 rcases h with h|⟨u,E,e,h⟩
 ·exact .inl h
 ·injection e with e;injection e with j e2 _;subst j e2;exact .inr ⟨b,o,F,hb,h⟩
noncomputable def MV(n:Nat):Array Oper:=xZ f21 n
theorem ac5(B g:Nat)(es:List dW)(e:aG)(w0 w:World)(h:nM w B g es)(c3:e.Ok w)(fg:X w0 w)(cX:w0.heap.size<=B)(b3:w0.heap.size<=g):
 Calls prog 21 #[.pointer (some ⟨g,0,none⟩),.agg e.v.toArray] w fun x w'=>x= .returned (.int .i64 (qO es e.p))/\nM w' B g (y5 es e.p)/\X w0 w':=by
 obtain⟨g1,cY⟩:=jE (fun x w'=>x= .returned (.int .i64 (qO es e.p))/\nM w' B g (y5 es e.p)/\X w0 w':Ending->World->Prop);rw[<-cY];have b':=O cY.symm;obtain⟨eb,fX,cH,fz⟩:=bU c3 (aG.len c3) h fg;clear h c3 cY fg;go_enter func21,ntmps21;go_upto_region 1 with fail;generalize iX:World.alloc w _=aq;have e':ah aq w.heap.size e.v 34:=by rw[<-iX];exact ah.aI F F
 have cd:X w aq:=by rw[<-iX];exact(X.refl w).alloc _
 obtain⟨B0,b5,bm,a6⟩:=bU e' (fz.ext cd) (cH.ext cd) (eb.ext cd);clear iX e' cd;have b8:=O (show g<w.heap.size by obtain⟨vo,ve,vl,R,_⟩:=cH.ex;exact R.lt);generalize w.heap.size=g3 at*;have fW:=O (show g3<aq.heap.size from B0.lt);clear cH eb;go_wp2_with (refine bV F 34 _ F F B0 cZ fX ?_);refine(Yw e aq a6).mono ?_;rintro gO a9 ⟨am,⟨z,v,rfl,ow⟩|⟨z,rfl⟩⟩
 ·have HZ:=O z;obtain⟨cq,b6,a5,eS⟩:=bU (B0.ext am) (b5.ext am) (bm.ext am) (a6.ext am);obtain⟨hi,cn,rfl,R,ap,gg,cV⟩:=nT ow;have c4:(iZ e).length=121+e.bn:=GR a6;have hd:e.bn<=32768:=(qy a6 z).2.2.2.2.2.2;have gn:e.num<=65535:=(qy a6 z).2.1;obtain⟨an,co,rfl,fr⟩:=cV.gQ (by rw[length_map,c4];omega);obtain⟨eI,cM⟩:=aB cV (show aq.heap.size<=an from(ow.lt an F).1);have f6:=O am.size;have eC:=O (show an<a9.heap.size from by
   have:=fr 0 (Y ((iZ e)[0]'J)) (by rw[List.getElem?_map,List.getElem?_eq_getElem J];rfl);exact block_lt_of_cell this)
  have bj:=O c4;have ga:=O a6.hb;have cQ:Hid (∀q vo ve vl,ah a9 g (oM vo ve (wV es) (lq es) vl) 117->vo.ownBlock=some q->q<aq.heap.size):=O (fun q vo ve vl hb ad=>by
   obtain⟨gE,gA,gC,c0,c5,_⟩:=bm.ex;have c1:=c0.ext am;have a1:=c1.cell' (i:=0) F;rw[hb.cell' (i:=0) F]at a1;injection a1 with a1;rw[a1]at ad;exact(c5.lt q ad).2)
  have f9:Hid (∀q vo ve vl,ah a9 g (oM vo ve (wV es) (lq es) vl) 117->ve.ownBlock=some q->q<aq.heap.size):=O (fun q vo ve vl hb ad=>by
   obtain⟨gE,gA,gC,c0,_,c5,_⟩:=bm.ex;have c1:=c0.ext am;have a1:=c1.cell' (i:=1) F;rw[hb.cell' (i:=1) F]at a1;injection a1 with a1;rw[a1]at ad;exact(c5.lt q ad).2)
  clear z am ow gg cV c4 B0 b5 bm a6 fr;have fm:121+e.bn<=cn:=R;have gp:cn<=9223372036854775807:=by unfold maxLen at ap;omega
  clear R ap;go_upto_region 4 with fail;obtain⟨vo,ve,vl,hb,fp,be,fl⟩:=a5.ex;obtain⟨ce,cg,rfl, -, -, -⟩:=iJ be;obtain⟨cQ,eQ,bu,ey,cJ,cD,ca⟩:=su (fun q ad=>cQ q vo _ vl hb ad) (show∀k,aq.heap.size<=k->(Value.slice ce es.length cg).ownBlock=some k->False from fun k hk h=>by have:=f9.out k vo _ vl hb h;omega) hb fp be fl (And.intro a5.n (And.intro a5.sz a5.le));obtain⟨N,a2⟩:=aC es.length;have bl:=O a2;obtain⟨a8,cm⟩:=aC (lq es);obtain⟨ek,ao⟩:=aB cm (show a8.length=32 by rw[<-cm];exact Lh es);have f0:=O (show(a8.map Y).length=32 by rw[length_map];exact ao);obtain⟨c9,ft⟩:=aC (wV es);rw[a2]at cJ cD eQ;rw[cm,ft]at bu;rw[a2]at bu;clear hb fp be fl a2 cm ft;obtain⟨C,iB,aJ⟩:=jJ a9;have bP:C a9:=(iB _).2 (X.refl _);have bo:∀E,C E->E.cell? ⟨g3,0,none⟩=some (.int .i64 e.num):=fun E R=>(cq.ext ((iB E).1 R)).cell' F;have fd:∀E,C E->E.cell? ⟨g,1,none⟩=some (.slice ce N cg):=fun E R=>(bu.ext ((iB E).1 R)).cell' F;obtain⟨ci,be⟩:=aC e.num;have cC:=O be;rw[be]at bo gn;obtain⟨bn,cl⟩:=aC ((ci != (N:Int)):Bool);clear be;refine fJ (ops:=(MV 4)) fun Z=> ?_;refine aA 0 ?_;refine dA 1 (bo) ?_;refine aA 2 ?_;refine aA 3 ?_;refine aA 4 ?_;refine dA 5 (fd) ?_;refine aA 6 ?_;refine aA 7 ?_;refine dH ?_;have ae:=O (X.refl a9 |>.drew);generalize World.drew a9=v2 at Z⊢ae;obtain⟨B2,cv,ez,ep,ec,b1,eJ,eE⟩:=jg (cq.ext ae) (bu.ext ae) (dQ ey ae) (dQ cJ ae) (dQ cD ae) (eS.ext ae) (eI.ext ae) (Nat.lt_of_lt_of_le eC ae.size);obtain⟨cs,cI,dT⟩:=aW (b6.ext ae) (a5.ext ae) (Nat.le_trans ca.2.2 ae.size);have f7:=O ae.size;clear Z aJ iB bP bo fd C cq bu ey cJ cD eS eI eC b6 a5 ae
  by_cases a2:ci=(N:Int)
  ·subst a2;have gl:bn=false:=by rw[<-cl];simp
   subst gl;have f5:=O (show(e.prev.map Y).length=32 by rw[length_map];exact b1.hp);obtain⟨bs,c2⟩:=aC ((!(e.prev==a8)));obtain⟨f2,d7⟩:=aB (fun E=>(vY underlying31 e.prev a8 b1.hp ao E).trans (by rw[c2])) c2;clear c2 cl;go_upto_region 6 with fail;obtain⟨C,iB,aJ⟩:=jJ v2;have bP:C v2:=(iB _).2 (X.refl _);refine fJ (ops:=(MV 6)) fun Z=> ?_;refine aA 0 ?_;refine bD 1 F (bf F (fun E h=>bQ F F (dF (B2.ext ((iB E).1 h)) (aG.BH b1)) bY f5)) ?_;refine aA 2 ?_;refine aA 3 ?_;refine aA 4 ?_;refine bD 5 F (bf F (fun E h=>bQ F F (dF (cv.ext ((iB E).1 h)) (Ul ao)) bY f0)) ?_;refine bD 6 F (bf F (fun E _=>jm F F F EI (fun w=>f2 w) E)) ?_;refine dH ?_;have af:=O ((iB _).1 Z);generalize World.drew v2=v3 at Z⊢af;obtain⟨da,d0,eA,er,ed,f',cN,f3⟩:=jg (B2.ext af) (cv.ext af) (dQ ez af) (dQ ep af) (dQ ec af) (b1.ext af) (eJ.ext af) (Nat.lt_of_lt_of_le eE af.size);obtain⟨ct,eh,d1,f8⟩:=bU (cs.ext af) (cI.ext af) (Nat.le_trans dT af.size) (show a9.heap.size<=v3.heap.size from Nat.le_trans f7 af.size);clear Z aJ iB bP C B2 cv ez ep ec b1 eJ eE cs cI dT af;cases bs with
   |true=>
    have al:=O (show qO es e.p=13 by
     have R:=d7.out;unfold qO;rw[if_neg (by simpa[xH]using HZ.out),if_neg (by show¬e.num≠_;rw[cC.out,bl.out];simp),if_pos];intro h;rw[show e.prev=lq es from h,ek.out]at R;simp at R)
    go_wp2_with fail
    (try go_ret)
    rw[<-b'.out];exact⟨by rw[al.out];rfl,by unfold y5;rw[al.out,if_neg aX];exact eh,ct⟩
   |false=>
    have fs:e.prev=a8:=by have R:=d7.out;simpa using R
    have al:=O (show qO es e.p=0 by
     unfold qO;rw[if_neg (by simpa[xH]using HZ.out),if_neg (by show¬e.num≠_;rw[cC.out,bl.out];simp),if_neg];show¬e.prev≠lq es;rw[fs,ek.out];simp)
    clear fs;go_wp2_with fail;refine(abT (iZ e) (some ⟨an,co,none⟩) (121+e.bn) cn v3 bj J fm (by have:=gp;omega) (by intro h;cases h) cN).mono ?_;rintro gO c_ ⟨rfl,b2⟩;obtain⟨lf,b4⟩:=aC (dY 1 (iZ e));obtain⟨fY,ei,ej⟩:=aW b4 (show lf.length=32 by rw[<-b4];exact j_ _ _) (show(lf.map Y).length=32 by rw[length_map,<-b4];exact j_ _ _);rw[b4];obtain⟨dq,b9⟩:=aB b2 (show aq.heap.size<=c_.heap.size from Nat.le_trans f6 (Nat.le_trans f8 b2.size));clear b4 b2;go_upto_region 9 with(refine bg F _ (.tmp 7) _ F F F (ah.aI (vs:=List.replicate 32 (.int .u8 0)) F F) bY aF (xs:=lf.map Y) ej (b_ lf) ?_);intro hj fa fv;obtain⟨az,dd⟩:=aB (dq.ext (fv.ext ((X.refl c_).alloc _) l5)) fa;clear fa fv dq;generalize c_.heap.size=g9 at*;obtain⟨db,cx,a4,cL,cE,cP,dr,cy⟩:=jg (da.ext az) (d0.ext az) (dQ eA az) (dQ er az) (dQ ed az) ((ac4 cN cM).ext az) (ct.ext az) (Nat.le_trans d1 az.size);clear da d0 eA er ed f' cN f3 ct eh d1 az;have cc:=cx.cell' (i:=0) F;have hg:(lK es).length<=32889*65536:=by have R:=ca.1;have ap:=ca.2.1;omega
    go_upto_region 12 with(refine sH F _ _ F B (ys:=iZ e) F F a4 bj (by intro h;cases h) cP.cells J cy ?_);intro hp hl c8 a0;obtain⟨br,bt,rfl, -, -, -⟩:=iJ c8;obtain⟨bw,et,ee,dc,de⟩:=dM (cx.besides a4 a0 aX) ((nP.yL a4 cL aX).keep cL a0) ((nP.yL a4 cE aX).keep cE a0) (db.besides a4 a0 aX) (dd.besides a4 a0 aX);have eK:=O (Me cP (fun q ad=> .inr fun A cW=>by
     injection cW with cW;rw[<-cW];have:=cQ.out q ad;have:=cM.out;show an≠q;omega) a0)
    obtain⟨e0,dt,d3,bc⟩:=bU c8 (dr.grown a0 (fun q ad=>Nat.le_trans cX (a4.lt q ad).1)) (Nat.le_trans cy a0.size) (show g<aq.heap.size from by have R:=b8.out;have ap:=fW.out;omega);clear c8 a0 cc a4 cx cL cE db dd cP dr cy;go_upto_region 12 with(refine kY F _ _ _ F F F bw ac1 F (by rw[yZ ao.out];decide) F ?_);intro ar ab I;obtain⟨bx,cb,ev,cF,df,dj,eL,du⟩:=jg (show ah ar g (oM (.slice br ((lK es).length+(121+e.bn)) bt) (.slice ce N cg) c9 a8 vl) 117 from ab) (n_ e0 I bw aX) (n_ et I bw aX) (n_ ee I bw aX) (de.upd I (by have R:=b9.out;have ap:=bc.out;omega)) (dc.upd I (by have R:=b8.out;omega)) (eK.upd I bc) (I.ext dt b3);have d4:=O (show B<=ar.heap.size by rw[I.size];exact d3);clear ab I bw e0 et ee de dc eK dt d3;go_upto_region 12 with fail;obtain⟨L,ck⟩:=aC ((lK es).length+(121+e.bn));rw[ck]at bx cb
    conv=>rw[ck]
    obtain⟨f1,gS⟩:=aB ck (show L<=32889*65536+32889 by omega);clear ck;obtain⟨C,iB,aJ,bP⟩:=iw (show bT ar ar [] [] ar from bT.jA (X.refl _) (dV.none _));have bo:∀E,C E->E.cell? ⟨g,1,none⟩=some (.slice ce N cg):=fun E R=>(bx.ext ((iB E).1 R).base).cell' F;have cc:∀E,C E->E.cell? ⟨g,0,none⟩=some (.slice br L bt):=fun E R=>(bx.ext ((iB E).1 R).base).cell' F;refine jQ (W:=[11,14]) fun Z=> ?_;refine bK 0 ?_;refine bK 1 ?_;refine bK 2 ?_;refine bK 3 ?_;refine eY 4 (bo) ?_;refine bK 5 ?_;refine bK 6 ?_;refine bK 7 ?_;refine eY 8 (cc) ?_;refine bK 9 ?_;have cU:X ar (World.drew ar):=(X.refl ar).drew;generalize World.drew ar=cp at Z cU⊢;refine fC 10 ?_;intro ac aa;go_wp2_with fail;refine aa _ _ (aJ _ _ Z ((X.refl _).alloc _)) ?_;clear aa ac;generalize bh:World.alloc cp _=a_;have fo:aK a_ (some ⟨cp.heap.size,0,none⟩) [.int .i64 (L:Int)]:=by rw[<-bh];exact aK.tO (ah.aI (T:=3) F F)
    have ff:X ar a_:=by rw[<-bh];exact cU.alloc _
    obtain⟨ex,ai⟩:=aB fo ff;clear bh fo ff cU Z aJ iB bP bo cc;refine aH ?_;obtain⟨a3,cA⟩:=aB (dQ ev ai) (Nat.le_trans d4 ai.size);refine iU 11 ?_;intro ac aa;go_wp2_with (refine qB Rz F _ _ F B (m:=1) (news:=[.int .i64 (L:Int)]) F F a3 F l5 (by intro h;cases h) ex (by intro v gt;rw[mem_singleton.1 gt];rfl) J J cA ?_);intro hm ag c6 aE _;obtain⟨cf,ch,rfl, -, -, -⟩:=iJ c6;obtain⟨bz,e1,ef,dg,dp,eM,eV,dv⟩:=jg ((bx.ext ai).besides a3 aE aX) ((nP.yL a3 (dQ cb ai) aX).keep (dQ cb ai) aE) ((nP.yL a3 (dQ cF ai) aX).keep (dQ cF ai) aE) ((df.ext ai).besides a3 aE aX) ((dj.ext ai).besides a3 aE aX) ((eL.ext ai).turn (fun k hk gv=>aE.block k gv (fun h=>eQ k hk h.symm))) c6 ((du.ext ai).grown aE (fun q ad=>Nat.le_trans cX (a3.lt q ad).1));have d5:=O (Nat.le_trans cA aE.size);refine aa _ _ trivial ?_;clear aa ac c6 aE a3 cA ex ai bx cb ev cF df dj eL du d4;refine aH ?_;refine bK 12 ?_;refine bK 13 ?_;refine iU 14 ?_;intro ac aa;go_wp2_with (refine kY F _ _ _ F F F bz ac2 F (by rw[yZ ao.out];decide) F ?_);intro aw ab I;obtain⟨cz,e3,e6,eg,di,cr,eN,dy⟩:=jg (show ah aw g (oM (.slice br L bt) (.slice cf (N+1) ch) c9 a8 vl) 117 from ab) (n_ e1 I bz aX) (n_ eV I bz aX) (n_ ef I bz aX) (dg.upd I (by have R:=b9.out;have ap:=bc.out;omega)) (dp.upd I (by have R:=b8.out;omega)) (eM.upd I bc) (I.ext dv b3);have d6:=O (show B<=aw.heap.size by rw[I.size];exact d5);refine aa _ _ trivial ?_;clear aa ac ab I bz e1 eV ef dg dp eM dv d5;refine aH ?_;refine jR ?_;go_upto_region 13 with fail;obtain⟨K,fh⟩:∃K,121+e.bn=K+32:=⟨89+e.bn,J⟩
    rw[fh]at fm
    conv=>rw[fh]
    have g':IntKind.i64.wrap (K:Int)=(K:Int):=IntWalk.i64_in _ J;obtain⟨eR,ba,fS⟩:=aW (show qX (some ⟨an,co,none⟩) cn K 1=some ⟨an,co+K*1,none⟩ by unfold qX;rw[if_neg J,Option.map_some,dn]) (nZ e) (show((ig e).map Y).length=32 by rw[length_map];exact nZ e);have cG:=O (show dP aw ⟨an,co+K*1,none⟩ ((ig e).map Y)from fun j u gr=>by
     rw[dn];rcases eN.out with h|⟨g2,hh,e2,_,h⟩
     ·have R:(iZ e).length=0:=by have:=congrArg List.length h;simpa using this
      have ap:=bj.out;omega
     ·injection e2 with e2;injection e2 with gf b2 _;subst gf b2;have R:=h (K+j) u (by
       have gh:(ny e).length=K:=by
        have R:=bj.out;unfold iZ at R;rw[length_append,nZ]at R;omega
       unfold iZ;rw[map_append,List.getElem?_append_right (by rw[length_map];omega),length_map,gh,Nat.add_sub_cancel_left];exact gr)
      rw[Nat.mul_one,Nat.add_assoc];exact R)
    have f4:=O (show an<aw.heap.size from by
     have R:=cG.out 0 (Y ((ig e)[0]'(by rw[nZ];omega))) (by rw[List.getElem?_map,List.getElem?_eq_getElem (by rw[nZ];omega)];rfl);rw[dn]at R;exact block_lt_of_cell R)
    have fk:g≠an:=by have R:=bc.out;have ap:=cM.out;omega
    have fj:g≠g3:=by have:=b8.out;omega
    have el:=O (yZ (vo:= .slice br L bt) (ve:= .slice cf (N+1) ch) (T:=c9) (vl:=vl) ao);obtain⟨C,iB,aJ,bP⟩:=iw (show bT w0 aw [g3,an] [(g,36,117)] aw from bT.yw dy (dV.two cr.lt f4) cz el);have fb:∀E,C E->E.cell? ⟨g3,1,none⟩=some (.int .i64 e.time):=fun E R=>(((iB E).1 R).blk cr aF).cell' (aG.rH e);refine fJ (ops:=(MV 13)) fun Z=> ?_;refine aA 0 ?_;refine aA 1 ?_;refine aA 2 ?_;refine dA 3 (fb) ?_;refine aA 4 ?_;refine aA 5 ?_;refine aA 6 ?_;refine aA 7 ?_;refine bD 8 F (bf F (fun E _=>Mc (k:=K) eR F F F underlying32 gu J E)) ?_;refine bD 9 F (bf F (fun E _=>rC (n:=32) F F underlying31 J E)) ?_;refine bD 10 F (bf F (fun E h=>bQ F F (ac0 ((iB E).1 h).kept aF cG) bY fS)) ?_;refine aA 11 ?_;refine aA 12 ?_;have a7:X aw (World.drew aw):=(X.refl aw).drew;generalize World.drew aw=cp at Z a7⊢;obtain⟨b0,e9,e7,en,dl,d'⟩:=iq (cz.ext a7) (dQ e3 a7) (dQ e6 a7) (dQ eg a7) (di.ext a7) (Nat.le_trans d6 a7.size);clear a7 cz e3 e6 eg di d6 cr eN dy cG;refine aZ 13 ?_;intro ac aa;go_wp2_with (refine kY F _ _ _ F F F b0 uM F (by rw[yZ ao.out];decide) F ?_);intro a_ ab I;have bi:=O (show ah a_ g (oM (.slice br L bt) (.slice cf (N+1) ch) e.time a8 vl) 117 from ab);have bd:C a_:=(iB a_).2 (((iB cp).1 Z).store I bi (by simp[yZ ao.out]) b3 (by simp;exact⟨fj,fk⟩));obtain⟨e_,e8,eo,dm,ea⟩:=dM (n_ e9 I b0 aX) (n_ e7 I b0 aX) (n_ en I b0 aX) (dl.upd I (by have R:=b9.out;have ap:=bc.out;omega)) (show B<=a_.heap.size by rw[I.size];exact d');go_wp2_with fail;refine aa _ _ bd ?_;clear aa ac ab I Z b0 e9 e7 en dl d'
    have Z:=bd;clear bd;refine aH ?_;refine aA 14 ?_;refine aA 15 ?_;refine aZ 16 ?_;intro ac aa;go_wp2_with (refine kR F _ _ _ F F F bi (by rw[length_map,ba.out];exact bY) (by rw[length_map,ba.out,yZ ao.out];decide) (b_ _) ?_);intro ag ab I;rw[acZ ao.out ba.out]at ab;have b7:=O ab;have bd:C ag:=(iB ag).2 (((iB a_).1 Z).store I b7 (by simp[yZ ba.out]) b3 (by simp;exact⟨fj,fk⟩));obtain⟨cS,cR,em,dk,d8⟩:=dM (n_ e_ I bi aX) (n_ e8 I bi aX) (n_ eo I bi aX) (dm.upd I (by have R:=b9.out;have ap:=bc.out;omega)) (show B<=ag.heap.size by rw[I.size];exact ea);go_wp2_with fail;refine aa _ _ bd ?_;have dE:=O ((iB ag).1 bd).base;clear aa ac ab I Z bi e_ e8 eo dm ea bd;refine aH ?_;refine dH ?_;clear aJ iB bP fb C eR el;go_upto_region 14 with fail;obtain⟨C,iB,aJ,bP⟩:=iw (show bT ag ag [] [] ag from bT.jA (X.refl _) (dV.none _));have fc:∀E,C E->E.cell? ⟨g,35,none⟩=some vl:=fun E R=>(b7.ext ((iB E).1 R).base).cell' (Um ba);refine jQ (W:=[7,10]) fun Z=> ?_;refine bK 0 ?_;refine bK 1 ?_;refine bK 2 ?_;refine bK 3 ?_;refine eY 4 (fc) ?_;refine k_ 5 F (oC F 31 _ F F (fun E h=>dk.ext ((iB E).1 h).base) bY ej) ?_;have cT:X ag (World.drew ag):=(X.refl ag).drew;generalize World.drew ag=fw at Z cT⊢;refine fC 6 ?_;intro ac aa;go_wp2_with (refine TR F F F ei ?_);refine aa _ _ (aJ _ _ Z ((X.refl _).alloc _)) ?_;clear aa ac;generalize bh:World.alloc fw _=fx;have fn:ah fx fw.heap.size (lf.map Y) 31:=by rw[<-bh];exact ah.aI F F
    have fe:X ag fx:=by rw[<-bh];exact cT.alloc _
    obtain⟨ew,ax⟩:=aB fn fe;clear bh fn fe cT Z aJ iB bP fc;obtain⟨bk,cw⟩:=aB (dQ em ax) (Nat.le_trans d8 ax.size);refine aH ?_;refine iU 7 ?_;intro ac aa;go_wp2_with (refine TS F _ _ F B F F bk ei ew J cw ?_);intro ho hq c7 bp _;obtain⟨gw,gx,rfl, -, -, -⟩:=iJ c7;obtain⟨bv,eW,e5,e4,ds,d2⟩:=iq ((b7.ext ax).besides bk bp aX) ((nP.yL bk (dQ cS ax) aX).keep (dQ cS ax) bp) ((nP.yL bk (dQ cR ax) aX).keep (dQ cR ax) bp) c7 ((dE.ext ax).grown bp (fun q ad=>Nat.le_trans cX (bk.lt q ad).1)) (Nat.le_trans cw bp.size);refine aa _ _ trivial ?_;clear aa ac c7 bp bk cw ew ax b7 cS cR em dk dE d8;refine aH ?_;refine bK 8 ?_;refine bK 9 ?_;refine iU 10 ?_;intro ac aa;go_wp2_with (refine kY F _ _ _ F F F bv ac3 F (by rw[yZ ba.out];decide) F ?_);intro gR ab I;rw[acY ba.out]at ab;obtain⟨fL,gc,ge,gd,fy,fN⟩:=iq ab (n_ eW I bv aX) (n_ e5 I bv aX) (n_ e4 I bv aX) (I.ext ds b3) (show B<=gR.heap.size by rw[I.size];exact d2);refine aa _ _ trivial ?_;clear aa ac ab I bv eW e5 e4 ds d2;refine aH ?_;refine jR ?_;go_wp2_with fail
    (try go_ret)
    rw[<-b'.out];have he:(dW.r e.p).bn=e.body.length:=F;have u7:=ga.out;have fi:L=(lK es).length+(iZ e.p.r).length:=by rw[<-f1.out,J2 e u7,bj.out]
    refine⟨by rw[al.out];rfl,?_,fy⟩;unfold y5;rw[if_pos al.out];refine⟨⟨.slice br L bt,.slice cf (N+1) ch,.slice gw (N+1) gx,?_,?_,?_,?_⟩,fN,?_,?_⟩
    ·rw[acO,SC,Ii e u7];exact fL
    ·rw[Uj,length_append,<-fi,J2 e u7,map_append];exact gc
    ·rw[length_append,length_singleton,bl.out,acP,map_append,map_singleton,Nat.zero_add,<-fi];exact ge
    ·rw[length_append,length_singleton,bl.out,acN,J2 e u7,fY.out];exact gd
    ·rw[length_append,length_singleton,bl.out];omega
    ·rw[Uj,length_append,length_append,length_singleton,J2 e u7,bj.out];have:=ca.2.1;omega
  ·have gm:bn=true:=by rw[<-cl];simp;exact a2
   subst gm;have al:=O (show qO es e.p=9 by
    unfold qO;rw[if_neg (by simpa[xH]using HZ.out),if_pos];show e.num≠_;rw[cC.out,bl.out];exact a2)
   have g8:(ci != (N:Int))=true:=cl;have g7:decide (ci=(N:Int))=false:=aP a2;go_wp2_with fail
   (try go_ret)
   rw[<-b'.out];exact⟨by rw[al.out];rfl,by unfold y5;rw[al.out,if_neg aX];exact cI,cs⟩
 ·have HZ:=O z;have gz:(dN e != 0)=true:=by simp;exact z
  have n2:decide (dN e=0)=false:=aP z;obtain⟨b6,a5⟩:=aB (b5.ext am) (bm.ext am);obtain⟨dC,cj⟩:=aC (dN e);have al:=O (show qO es e.p=dC by
   unfold qO;rw[if_pos (show jX e.p≠0 from by rw[<-xH];exact z),<-xH,cj])
  have fR:=O (show dC≠0 by rw[<-cj];exact z);rw[cj]at gz n2⊢;clear z am cj HZ B0 b5 bm a6;go_wp2_with fail
  (try go_ret)
  rw[<-b'.out];exact⟨by rw[al.out];rfl,by unfold y5;rw[al.out,if_neg fR.out];exact a5,b6⟩
theorem ac6{l:aj}{p:Nat}{es:List dW}(h:lW l p es)(E:p<l.length)(u:(fQ l p).2.2=0):
 (qO es (fQ l p).1=0->∃q:Nat,(fQ l p).2.1=(q:Int)/\p<q/\lW l q (es++[(fQ l p).1]))/\(qO es (fQ l p).1≠0->nI l=(es,qO es (fQ l p).1)):=by
 obtain⟨_,_,_,_,R⟩:=Lj u;unfold qO;rw[if_neg (by simp[R])];by_cases hn:(fQ l p).1.num≠(es.length:Int)
 ·rw[if_pos hn];exact⟨fun j=>absurd j aX,fun _=>h.order E u hn⟩
 rw[if_neg hn];have I:=Decidable.not_not.1 hn;by_cases hs:(fQ l p).1.prev≠lq es
 ·rw[if_pos hs];exact⟨fun j=>absurd j aX,fun _=>h.seal E u I hs⟩
 rw[if_neg hs];exact⟨fun _=>h.step E u I (Decidable.not_not.1 hs),fun j=>absurd F j⟩
theorem nM.ends{w:World}{B g:Nat}{es:List dW}(h:nM w B g es):∃j u,w.cell? ⟨g,1,none⟩=some (.slice j es.length u):=by
 obtain⟨vo,ve,vl,E,R,I,aa⟩:=h.ex;obtain⟨j,u,rfl, -, -, -⟩:=iJ I;exact⟨j,u,E.cell' (i:=1) F⟩
noncomputable def Un(n:Nat):Array Oper:=xZ f10 n
theorem ac7(l:aj)(a:aN)(n c:Nat)(w:World)(a8:l.length=n)(cf:n<=c)(hn:n<=1000000000)(hc:c<=9223372036854775807)(bv:aK w a (l.map Y)):
 Calls prog 10 #[.slice a n c] w fun x w'=>∃g,x= .returned (.tuple #[.pointer (some ⟨g,0,none⟩),.int .i64 ((nI l).1.length:Int),.int .i64 (nI l).2])/\nM w' w.heap.size g (nI l).1/\w.heap.size<=g/\X w w':=by
 have bl:=O a8;obtain⟨ci,a7⟩:=jE (fun x w'=>∃g,x= .returned (.tuple #[.pointer (some ⟨g,0,none⟩),.int .i64 ((nI l).1.length:Int),.int .i64 (nI l).2])/\nM w' w.heap.size g (nI l).1/\w.heap.size<=g/\X w w':Ending->World->Prop);rw[<-a7];obtain⟨bo,b9⟩:=aB a7 (fun(p:Nat) j (ao:X w j)=>abz l a n c (p:Int) j a8 cf J hc (bv.ext ao));clear a8 bv a7;go_enter func10,ntmps10;go_wp2_with fail;refine(acT w).mono ?_;rintro ch ck ⟨g,rfl,bx,ag,bt⟩;obtain⟨az,bi,ba⟩:=aW bx ag bt;clear bx ag bt;go_wp2_with fail;go_loopw [6] (fun i wr=>∃(p:Nat) (es:List dW),i= .int .i64 (p:Int)/\lW l p es/\nM wr w.heap.size g es/\X w wr) (fun i _=>n - (intOf i).toNat)
 case atStart=>exact⟨0,[],F,lW.start l,bi,ba⟩
 case round=>
  obtain⟨p,es,rfl,b0,ag,ao⟩:=hrel;obtain⟨a0,am,ai⟩:=aW b0 ag ao;clear b0 ag ao bi ba;by_cases j3:p<n
  ·have bk:=O (show p<l.length by rw[bl.out];exact j3);have cb:decide ((p:Int)<(n:Int))=true:=aQ J;have cc:decide (p<n)=true:=aQ j3;go_wp2_with fail;refine(b9 p wr ai).mono ?_;rintro ch w2 ⟨e,rfl,a9,bw,e2⟩;have be:=O bw;have bm:=O a9.1;have bj:=O (aG.len a9.1);obtain⟨E,a5⟩:=aC ((fQ l p).2.2);obtain⟨Q,a6⟩:=aC ((fQ l p).2.1);rw[a5,a6];obtain⟨aw,ca,bp,bc⟩:=bU a5 a6 (am.ext e2) (ai.ext e2);clear bw a9 a5 a6 e2 ai am;go_upto_region 5 with(refine bg F _ (.tmp 7) _ F F F (ah.aI (vs:=dS.v) F F) cZ (aG.len (EJ w)) bj (i_ e) ?_);intro b5 br b4;have ap:X w2 b5:=b4.ext ((X.refl _).alloc _) l5;obtain⟨aq,an,al,a1⟩:=bU br (bp.ext ap) (bc.ext ap) (bm.ext ap);clear br b4 ap bp bc bm;generalize w2.heap.size=cj at*;go_upto_if 23 with fail;go_cut [9] (fun v wx=>∃I:Int,v= .int .i64 I/\(I=0->∃q:Nat,Q=(q:Int)/\p<q/\lW l q (es++[e.p])/\nM wx w.heap.size g (es++[e.p]))/\(I≠0->nI l=(es,I)/\nM wx w.heap.size g es)/\X w wx)
   case first=>
    by_cases ac:E=0
    ·have nA:=O (ac6 a0 bk (aw.trans ac));subst ac;go_wp2_with (refine bV F 34 _ F F aq cZ bj ?_);refine(ac5 w.heap.size g es e w b5 an a1 al l5 az).mono ?_;rintro cm cl ⟨rfl,bz,bu⟩;obtain⟨bh,b7⟩:=aB bz bu;clear bz bu;go_wp2_with fail;go_meet;refine⟨_,F,fun h=> ?_,fun h=> ?_,b7⟩
     ·have hs:=nA.out;rw[<-be.out]at hs;obtain⟨q,u,aa,ab⟩:=hs.1 h;refine⟨q,ca.symm.trans u,aa,ab,?_⟩;have R:=bh.out;unfold y5 at R;rw[if_pos h]at R;exact R
     ·have hs:=nA.out;rw[<-be.out]at hs;refine⟨hs.2 h,?_⟩;have R:=bh.out;unfold y5 at R;rw[if_neg h]at R;exact R
    ·have HZ:=O (a0.bad bk (by rw[aw.out];exact ac));have cd:(E==0)=false:=by simp;exact ac
     have ce:decide (E=0)=false:=aP ac;go_wp2_with fail;go_meet;exact⟨E,F,fun h=>absurd h ac,fun _=>⟨by rw[HZ.out,aw.out],an⟩,al⟩
   case rest=>
   obtain⟨I,rfl,u,aa,ab⟩:=hcut;obtain⟨b6,a_⟩:=aC wc;rw[a_]at u aa ab⊢;have bd:=O ab;by_cases hF:I=0
   ·obtain⟨q,cg,b2,b1,ad⟩:=u hF;subst hF;subst cg;obtain⟨b',b8,aE⟩:=aW b2 b1 ad;clear a_ wc u aa ab b2 b1 ad an aq a1 al;go_wp2_with fail;go_roundw
    case rel=>exact⟨q,es++[e.p],F,b8,aE,bd⟩
    case measure=>simp[intOf];have:=b'.out;omega
   ·obtain⟨b3,ad⟩:=aa hF;obtain⟨HZ,aE⟩:=aB b3 ad;obtain⟨a3,a4,af⟩:=ad.ends;have ae:=O af;have cd:(I != 0)=true:=by simp;exact hF
    have ce:decide (I=0)=false:=aP hF;clear a_ wc u aa ab b3 ad af an aq a1 al;go_upto_region 8 with fail;obtain⟨C,iB,aJ⟩:=jJ b6;have bP:C b6:=(iB _).2 (X.refl _);have a2:∀j,C j->j.cell? ⟨g,1,none⟩=some (.slice a3 es.length a4):=fun j u=>by rw[((iB j).1 u).cell (block_lt_of_cell ae)];exact ae
    refine fJ (ops:=(Un 8)) fun Z=> ?_;refine aA 0 ?_;refine aA 1 ?_;refine aA 2 ?_;refine aA 3 ?_;refine dA 4 (a2) ?_;refine aA 5 ?_;refine aA 6 ?_;refine aA 7 ?_;refine aA 8 ?_;refine aA 9 ?_;refine dH ?_;obtain⟨ax,ar⟩:=aB (aE.ext ((iB _).1 Z)) (bd.ext ((iB _).1 Z));go_wp2_with fail;refine bodyPost_ret (results_tmp3 F _ _ _) F ?_;rw[bo.out];refine⟨g,by rw[HZ.out];rfl,?_,az,ar⟩;rw[HZ.out];exact ax
  ·have cb:decide ((p:Int)<(n:Int))=false:=aP J;have cc:decide (p<n)=false:=aP j3;have HZ:=O (a0.fin (by rw[bl.out];exact j3));obtain⟨a3,a4,af⟩:=am.ends;have ae:=O af;clear af;go_upto_region 10 with fail;obtain⟨C,iB,aJ⟩:=jJ wr;have bP:C wr:=(iB _).2 (X.refl _);have a2:∀j,C j->j.cell? ⟨g,1,none⟩=some (.slice a3 es.length a4):=fun j u=>by rw[((iB j).1 u).cell (block_lt_of_cell ae)];exact ae
   refine fJ (ops:=(Un 10)) fun Z=> ?_;refine aA 0 ?_;refine aA 1 ?_;refine aA 2 ?_;refine aA 3 ?_;refine dA 4 (a2) ?_;refine aA 5 ?_;refine aA 6 ?_;refine aA 7 ?_;refine aA 8 ?_;refine dH ?_;obtain⟨ax,ar⟩:=aB (am.ext ((iB _).1 Z)) (ai.ext ((iB _).1 Z));go_wp2_with fail;refine bodyPost_ret (results_tmp3 F _ _ _) F ?_;rw[bo.out];refine⟨g,by rw[HZ.out];rfl,?_,az,ar⟩;rw[HZ.out];exact ax
def ac8:Go.Shelf.Ren:=⟨fun|6=>145 |15=>176 |14=>201 |28=>223 |29=>224 |20=>259 |21=>260 |22=>261 |23=>262 |24=>263 |25=>264 |26=>265 |27=>266 |46=>319 |47=>286 |48=>287 |49=>320 |50=>321 |57=>343 |n=>n,fun|22=>230 |24=>232 |25=>236 |3=>3 |39=>141 |0=>0 |53=>239 |55=>246 |4=>4 |46=>314 |45=>313 |50=>82 |5=>5 |9=>9 |66=>360 |70=>364 |76=>389 |77=>390 |n=>n,fun|n=>n⟩
theorem ac9:Go.Proofs.SlLaysF0.n6 prog ac8:=by repeat' first|kernel_rfl|(intro _;kernel_rfl)|exact MJ au au|constructor
section
open Go Go.RowKit Go.Shelf Go.Sort
theorem ada(x y:aj)(w:World)(hx:x.length=32)(I:y.length=32):
 Calls prog 148 #[.agg (x.map Y).toArray,.agg (y.map Y).toArray] w fun e w'=>e= .returned (.int .i64 (eH x y))/\iT w w':=by
 obtain⟨R,HY⟩:=aB hx I;clear hx I;go_enter func148,ntmps148;go_upto_region 1 with fail;generalize iX:World.alloc (World.alloc w _) _=j;have xA:ah j w.heap.size (x.map Y) 30:=by rw[<-iX];exact(ah.aI F F).alloc _
 have yA:ah j (w.heap.size+1) (y.map Y) 30:=by rw[<-iX];exact ah.aI aF F
 have u:iT w j:=by rw[<-iX];exact((iT.refl w).alloc _).alloc _
 obtain⟨hb,EA⟩:=aB (fun n=>JK x y ⟨w.heap.size,0,none⟩ ⟨w.heap.size+1,0,none⟩ 32 32 32 32 (j.drewN n) R HY (Bg xA.drewN) (Bg yA.drewN)) u;clear iX xA yA u;refine wp_region_held_drew (S:=fun w'=>∃n,w'=j.drewN n) au ⟨1,F⟩ (fun Z=> ?_);refine aA 0 ?_;refine aA 1 ?_;refine aZ 2 ?_;intro aa E;obtain⟨nq,Kk⟩:=Z;generalize j.drew=wB at*;subst Kk;go_wp2_with fail;refine(hb nq).mono ?_;rintro e w' ⟨rfl,rfl⟩;go_wp2_with fail;refine E _ _ ⟨nq,F⟩ ?_;clear E aa;have Z:∃n,j.drewN nq=j.drewN n:=⟨nq,F⟩;refine aH ?_;refine aA 3 ?_;refine dH ?_;go_wp2_with fail;go_ret;exact⟨F,EA.drewN nq⟩
theorem adb(a b:Int)(g:Nat)(w:World)(hb:ah w g [.int .i64 a,.int .i64 b] 3):
 Br 147 #[.slice (some ⟨g,0,none⟩) 2 2] w (.int .i64 (if a≠0 then a else b)):=by
 have R:=hb.cell' (i:=0) F;have k1:=hb.cell' (i:=1) F;clear hb;by_cases ha:a=0
 ·subst ha;have j:((0:Int) != 0)=false:=F;by_cases hb:b=0
  ·subst hb;go_enter func147,ntmps147;go_wp2;go_loopw [5,8] (fun _ x wr=>∃i:Nat,i<=2/\x= .int .i64 i/\w=wr) (fun _ x _=>2 - (intOf x).toNat)
   case atStart=>exact⟨0,J,F,F⟩
   case round=>
    obtain⟨i,E,rfl,rfl⟩:=hrel;rcases(show i=0∨i=1∨i=2 by omega)with rfl|rfl|rfl
    ·go_wp2;go_roundw
     case rel=>exact⟨1,J,by first|rfl|trivial,by first|rfl|trivial⟩
     case measure=>simp[intOf]
    ·go_wp2;go_roundw
     case rel=>exact⟨2,J,by first|rfl|trivial,by first|rfl|trivial⟩
     case measure=>simp[intOf]
    ·go_wp2
     (try go_ret)
     exact⟨F,F⟩
  ·have I:(b != 0)=true:=by simp;exact hb
   have u:decide (b=0)=false:=aP hb;go_enter func147,ntmps147;go_wp2;go_loopw [5,8] (fun _ x wr=>∃i:Nat,i<=1/\x= .int .i64 i/\w=wr) (fun _ x _=>2 - (intOf x).toNat)
   case atStart=>exact⟨0,J,F,F⟩
   case round=>
    obtain⟨i,E,rfl,rfl⟩:=hrel;rcases(show i=0∨i=1 by omega)with rfl|rfl
    ·go_wp2;go_roundw
     case rel=>exact⟨1,J,by first|rfl|trivial,by first|rfl|trivial⟩
     case measure=>simp[intOf]
    ·go_wp2
     (try go_ret)
     exact⟨F,F⟩
 ·have j:(a != 0)=true:=by simp;exact ha
  have u:decide (a=0)=false:=aP ha;rw[if_pos ha];go_enter func147,ntmps147;go_wp2;go_loopw [5,8] (fun _ x wr=>x= .int .i64 0/\w=wr) (fun _ x _=>2 - (intOf x).toNat)
  case atStart=>exact⟨F,F⟩
  case round=>
   obtain⟨rfl,rfl⟩:=hrel;go_wp2
   (try go_ret)
   exact⟨F,F⟩
theorem ade:∀{a b:aj} (c d:aj),a.length=b.length->eH (a++c) (b++d)=if eH a b≠0 then eH a b else eH c d:=by
 intro a;induction a with
 |nil=>
  intro b c d h;have:b=[]:=length_eq_zero_iff.1 h.symm;subst this;rw[Js];rfl
 |cons x a I=>
  intro b c d h;cases b with
  |nil=>simp at h
  |cons y b=>
   have E:a.length=b.length:=by simpa using h
   have hc:=I c d E;unfold eH at hc⊢;simp only[cons_append,Lib.compareBytes]at hc⊢;by_cases j:x<y
   ·simp[j]
   ·by_cases u:y<x
    ·simp[j,u]
    ·simp only[j,u,if_false];exact hc
structure iD where
 r:nK
 ha:r.ask.length=32
 hw:r.who.length=16
instance:Inhabited iD:=⟨⟨nK.zero,F,F⟩⟩
def o9(x:iD):aO:=x.r.v
theorem IQ(x:iD):(o9 x).length=50:=by unfold o9 nK.v;simp[x.ha,x.hw]
theorem MW(x:iD):∀v∈o9 x,v.oneCell'=true:=by
 intro v j;unfold o9 nK.v at j;rcases mem_append.1 j with h|h
 ·exact b_ _ v h
 rcases mem_append.1 h with h|h
 ·exact b_ _ v h
 simp only[mem_cons,not_mem_nil,or_false]at h;rcases h with rfl|rfl<;>rfl
def yc(x y:iD):Int:=if eH x.r.ask y.r.ask≠0 then eH x.r.ask y.r.ask else eH x.r.who y.r.who
theorem Uo(x y:iD):yc x y=eH (x.r.ask++x.r.who) (y.r.ask++y.r.who):=(ade _ _ (x.ha.trans y.ha.symm)).symm
theorem MX(x y:iD):ltOf yc x y=qp (x.r.ask++x.r.who) (y.r.ask++y.r.who):=by
 unfold ltOf qp;rw[Uo]
theorem adf:Sort.SWO (ltOf yc) where
 irrefl x:=by rw[MX];exact Ju _
 trans x y z h1 h2:=by rw[MX]at*;exact FT h1 h2
 ntrans x y z h1 h2:=by rw[MX]at*;exact Jv h1 h2
theorem Ur:iH prog 232 50:=⟨⟨_,underlying232,F⟩,au⟩
theorem iD.MZ(x:iD):(x.r.v.drop 0).take 32=x.r.ask.map Y:=by
 unfold nK.v;rw[drop_zero,take_left' (by rw[length_map,x.ha])]
theorem iD.M_(x:iD):(x.r.v.drop 32).take 16=x.r.who.map Y:=by
 unfold nK.v;rw[drop_left' (by rw[length_map,x.ha]),take_left' (by rw[length_map,x.hw])]
theorem adg(x y:iD)(w:World):Calls prog 146 #[.agg (o9 x).toArray,.agg (o9 y).toArray] w fun e w'=>e= .returned (.int .i64 (yc x y))/\iT w w':=by
 obtain⟨aE,a0,aq,aw,ar,ax,a2,a4⟩:=jg (fun w=>ada x.r.ask y.r.ask w x.ha y.ha) (fun w=>Gg x.r.who y.r.who w x.hw y.hw) (iD.MZ x) (iD.MZ y) (iD.M_ x) (iD.M_ y) (show(x.r.ask.map Y).length=32 by rw[length_map];exact x.ha) (show(y.r.ask.map Y).length=32 by rw[length_map];exact y.ha);obtain⟨a3,a5,a1⟩:=aW (show(x.r.who.map Y).length=16 by rw[length_map];exact x.hw) (show(y.r.who.map Y).length=16 by rw[length_map];exact y.hw) (show yc x y=(if eH x.r.ask y.r.ask≠0 then eH x.r.ask y.r.ask else eH x.r.who y.r.who)from F);generalize yc x y=a6 at*;generalize eH x.r.ask y.r.ask=af at*;generalize eH x.r.who y.r.who=ag at*;go_enter func146,ntmps146;go_upto_region 1 with(fail);generalize iX:World.alloc (World.alloc w _) _=I;have xA:ah I w.heap.size x.r.v 232:=by rw[<-iX];exact(ah.aI F F).alloc _
 have yA:ah I (w.heap.size+1) y.r.v 232:=by rw[<-iX];exact ah.aI aF F
 have EA:Hid (iT w I):=by rw[<-iX];exact O (((iT.refl w).alloc _).alloc _)
 obtain⟨ai,al⟩:=aB xA yA;clear iX xA yA;obtain⟨C,am⟩:=jE (fun w'=>iT I w':World->Prop);have an:∀w',C w'↔iT I w':=fun w'=>by rw[am]
 clear am;have iB:=O an;clear an;have bP:C I:=(iB _).2 (iT.refl _);refine wp_region_held_drew (S:=C) au ((iB _).2 ((iT.refl _).drewN 1)) (fun Z=> ?_);refine aA 0 ?_;refine bD 1 F (bf F (fun u h=>bQ F F (dF (ai.ext ((iB u).1 h).ext) aq) bY a2)) ?_;refine aA 2 ?_;refine bD 3 F (bf F (fun u h=>bQ F F (dF (al.ext ((iB u).1 h).ext) aw) bY a4)) ?_;refine aA 5 ?_;refine bD 6 F (bf F (fun u h=>bQ F F (dF (ai.ext ((iB u).1 h).ext) ar) dh a3)) ?_;refine aA 7 ?_;refine bD 8 F (bf F (fun u h=>bQ F F (dF (al.ext ((iB u).1 h).ext) ax) dh a5)) ?_;generalize I.drew=u at Z⊢;refine aZ 4 ?_;intro E j;go_wp2_with fail;refine(aE u).mono ?_;rintro e w2 ⟨rfl,ao⟩;have ab:C w2:=(iB _).2 (((iB _).1 Z).trans ao);go_wp2_with fail;refine j _ _ ab ?_;clear j E Z ao;refine aH ?_;refine aZ 9 ?_;intro E j;go_wp2_with fail;refine(a0 w2).mono ?_;rintro e aa ⟨rfl,ap⟩;have R:C aa:=(iB _).2 (((iB _).1 ab).trans ap);go_wp2_with fail;refine j _ _ R ?_;clear j E ab ap;refine aH ?_;refine aZ 10 ?_;intro E j;go_wp2_with fail;refine j _ _ ((iB _).2 (((iB _).1 R).alloc _)) ?_;clear j E;generalize ad:World.alloc aa _=ae;have az:ah ae aa.heap.size [.int .i64 af,.int .i64 ag] 3:=by rw[<-ad];exact ah.aI F F
 have ac:C ae:=by rw[<-ad];exact(iB _).2 (((iB _).1 R).alloc _)
 clear ad R;refine aH ?_;refine aZ 11 ?_;intro E j;go_wp2_with fail;refine(adb af ag aa.heap.size ae az).mono ?_;rintro e a7 ⟨rfl,rfl⟩;rw[<-a1.out];go_wp2_with fail;refine j _ _ ac ?_;clear j E;have Z:=ac;refine aH ?_;refine aA 12 ?_;refine dH ?_;go_wp2_with fail;go_ret;exact⟨F,EA.trans ((iB _).1 ac)⟩
theorem adh:∀j w,(callFunc 146 j).run prog w= .ok (.enter 146 j) w:=enters_of func146 au F
theorem adi{w:World}{B n:Nat}{v:Value}{ls:List iD}(own:w.ownsRow B 232 50 v n (fU o9 ls))(hn:ls.length=n)(j:n<4611686018427387904):
 Calls prog 145 #[v,.func (.func 146) #[] #[]] w fun x w'=>x= .returned (.tuple #[])/\∃es,es.Perm ls/\es.Pairwise (fun x y=>¬yc y x<0)/\w'.ownsRow B 232 50 v n (fU o9 es)/\w.grownBy w' v.ownBlock:=
 MI ac9 isAgg232 sizeOf232 IQ MW yc adf _ adg adh own hn j
theorem Us:pO prog 230 232 50 80:=⟨underlying230,⟨_,_,(info_parts EY).choose_spec.1,(info_parts EY).choose_spec.2.1,(info_parts EY).choose_spec.2.2.1,(info_parts EY).choose_spec.2.2.2,F⟩,aX⟩
end
def IU(j u:Int)(last:aj):aj:=[99,111,117,110,116,32]++Lib.itoa j++[32,116,105,109,101,32]++Lib.itoa u++[32,108,97,115,116,32]++aD last++[10]
def Na(ji:aj):aj:=[102,111,117,110,100,101,114,32]++aD ji++[10]
noncomputable def IV(rs:List aS):aj:=[112,111,108,105,99,121,32]++aD (dY 0 (lI rs rs.length))++[10]
def Dc(m:aj×aT):aj:=Lib.join ([109,101,109,98,101,114]::aD m.1::m.2.map (·.data.toList)) [32]++[10]
def Df(k:bC):aj:=[107,101,121,32]++aD k.key++[32]++k.label.data.toList++[32]++Lib.itoa k.epoch++[32]++aD k.commit++[32]++Lib.itoa (if k.rev then 1 else 0)++[32]++Lib.itoa k.esc++[32]++aD k.shared++[10]
def Dh(r:aj×(aj×(aT×Int))):aj:=Lib.join ([97,112,112,114,111,118,97,108]::aD r.1::aD r.2.1::Lib.itoa r.2.2.2::r.2.2.1.map (·.data.toList)) [32]++[10]
def uN(A:List (aj×List (aj×(aT×Int)))):List (aj×(aj×(aT×Int))):=A.flatMap fun x=>x.2.map fun y=>(x.1,y)
noncomputable def Ut(S:dw)(j:List (aj×aT))(ks:List bC)(rs:List (aj×(aj×(aT×Int)))):aj:=
 IU S.cnt S.tm S.last++(if 0<S.cnt then Na S.ji else[])++(match S.pol with|none=>[]|some q=>IV q)++j.flatMap Dc++ks.flatMap Df++rs.flatMap Dh
structure Nb(S:dw):Prop where
 m:S.ms.length<=65536
 k:S.ks.length<=65536
 r:(uN S.av).length<=65536
structure Nc(S:dw)(t:aj):Prop where
 ex:∃ms ks rs,ms.Perm S.ms/\ms.Pairwise (fun x y=>0<=eH y.1 x.1)/\ks.Perm (S.ks.map Prod.snd)/\ks.Pairwise (fun x y=>0<=eH y.key x.key)/\rs.Perm (uN S.av)/\
  rs.Pairwise (fun x y=>0<=eH (y.1++y.2.1) (x.1++x.2.1))/\t=Ut S ms ks rs
theorem Uu(x:aj)(l:List (aj))(N:Nat)(j:∀y∈l,y.length<=N):(Lib.join (x::l) [32]).length<=x.length+l.length*(N+1):=by
 induction l generalizing x with
 |nil=>simp[Lib.join]
 |cons y l E=>
  have I:=E y (fun z u=>j z (mem_cons_of_mem _ u));have R:=j y aF;have e:Lib.join (x::y::l) [32]=x++[32]++Lib.join (y::l) [32]:=by simp[Lib.join]
  rw[e];simp only[length_append,length_cons,length_nil,Nat.succ_mul,Nat.add_mul]at*;omega
theorem adk(s:ByteArray):aY s.data.toList=s:=by
 apply ByteArray.ext;simp[aY]
section
open Go Go.RowKit
section
variable {K V:Type} [DecidableEq K]
theorem Uw(hs:List (K×V))(k:K)(v:V):(dU hs k v).length<=hs.length+1:=by
 unfold dU;split<;>simp
theorem Ux(hs:List (K×V))(k:K):(iQ hs k).length<=hs.length:=(BP hs k).length_le
def vn{U:Type}(A:List (K×List U)):Nat:=(A.map fun x=>x.2.length).sum
omit [DecidableEq K] in theorem adl{U:Type}{A B:List (K×List U)}(h:A.Sublist B):vn A<=vn B:=by
 induction h with
 |slnil=>exact Nat.le_refl _
 |cons x _ j=>unfold vn at*;rw[map_cons,sum_cons];omega
 |cons_cons x _ j=>unfold vn at*;rw[map_cons,sum_cons,map_cons,sum_cons];omega
omit [DecidableEq K] in theorem Nh{U:Type}(f:List U->List U)(hf:∀l,(f l).length<=l.length):∀A:List (K×List U),vn (A.map fun y=>(y.1,f y.2))<=vn A
 |[]=>Nat.le_refl _
 |x::A=>by
  have h1:=Nh f hf A;have j:=hf x.2;unfold vn at*;rw[map_cons,map_cons,sum_cons,map_cons,sum_cons];exact Nat.add_le_add j h1
omit [DecidableEq K] in theorem Uy{U:Type}{x y:K×List U}:∀{A:List (K×List U)} {i:Nat},A[i]? =some x->vn (A.set i y)+x.2.length=vn A+y.2.length
 |[],i,h=>by simp at h
 |z::A,0,h=>by
  have e:z=x:=by simpa using h
  subst e;unfold vn;rw[set_cons_zero,map_cons,sum_cons,map_cons,sum_cons];omega
 |z::A,i+1,h=>by
  have j:=Uy (y:=y) (A:=A) (i:=i) (by simpa using h);unfold vn at*;rw[set_cons_succ,map_cons,sum_cons,map_cons,sum_cons];omega
theorem adn{M U:Type}[DecidableEq M](A:List (K×List (M×U)))(k:K)(m:M)(u:U):vn (dU A k (dU ((bW A k).getD []) m u))<=vn A+1:=by
 cases h:jq k A with
 |none=>
  have e:bW A k=none:=by unfold bW;rw[h]
  rw[e,Option.getD_none];unfold dU;rw[h];unfold vn;rw[map_append,sum_append];exact Nat.le_refl _
 |some i=>
  obtain⟨l,E⟩:=zX h;have e:bW A k=some l:=by unfold bW;rw[h];show(A[i]?).map _=_;rw[E];rfl
  rw[e,Option.getD_some];have I:=Uw l m u;generalize dU l m u=j at I;unfold dU;rw[h];show vn (A.set i (k,j))<=_;have R:=Uy (y:=(k,j)) E;have aa:((k,l):K×List (M×U)).2.length=l.length:=F;have ab:((k,j):K×List (M×U)).2.length=j.length:=F;omega
end
theorem ado(A:List (aj×List (aj×(aT×Int)))):(uN A).length=vn A:=by simp_all [uN,vn]
theorem adp(S:dw)(e:aG)(x:bZ):(S.act e x).cnt=S.cnt/\(S.act e x).ms.length<=S.ms.length+1/\(S.act e x).ks.length<=S.ks.length+1/\vn (S.act e x).av<=vn S.av+1:=by
 have j:vn (S.av.map fun y=>(y.1,iQ y.2 x.member))<=vn S.av:=Nh _ (fun l=>Ux l _) S.av;have hs:=adn S.av x.commit e.bI ((bW S.ms e.bI).getD [],e.time);unfold dw.act;dsimp only
 repeat' split
 all_goals refine⟨F,?_,?_,?_⟩
 all_goals first|exact Nat.le_succ _|exact Uw _ _ _|exact Nat.le_succ_of_le (Ux _ _)|exact Nat.le_succ_of_le j|exact hs
theorem Uz(S:dw)(e:aG):(S.next e).cnt=S.cnt+1/\(S.next e).ms.length<=S.ms.length+1/\(S.next e).ks.length<=S.ks.length+1/\vn (S.next e).av<=vn S.av+1/\(S.next e).last=ig e/\(S.next e).tm=e.time:=by
 have h:=adp {S with ji:=if S.cnt=0 then e.bI else S.ji} e (mO e);generalize j:dw.act {S with ji:=if S.cnt=0 then e.bI else S.ji} e (mO e)=T at h;unfold dw.next;dsimp only;rw[j];refine⟨F,h.2.1,h.2.2.1,?_,F,F⟩;refine Nat.le_trans (Nh _ (fun l=>length_filter_le _ _) _) (Nat.le_trans ?_ h.2.2.2);split
 ·exact adl (BP _ _)
 ·exact Nat.le_refl _
theorem o_.sz{es:List aG}{S:dw}(h:o_ es S):S.cnt=es.length/\S.ms.length<=es.length/\S.ks.length<=es.length/\vn S.av<=es.length:=by
 induction h with
 |nil=>exact⟨F,Nat.le_refl _,Nat.le_refl _,Nat.le_refl _⟩
 | @snoc es S e j u I=>
  have E:=Uz S e;rw[length_append,length_singleton];omega
theorem o_.gM{es:List aG}{S:dw}(h:o_ es S)(hn:es.length<=65536):Nb S:=by
 have j:=h.sz;refine⟨J,J,?_⟩;rw[ado];omega
theorem Nj{S:dw}{e:aG}(h:S.ref e=0):dN e=0/\e.num=(S.cnt:Int)/\e.prev=S.last/\S.tm<=e.time:=by grind [dw.ref]
noncomputable def IW(es:List aG):aj:=match es.getLast? with|none=>kN|some e=>ig e
theorem adq(es:List aG)(e:aG):IW (es++[e])=ig e:=by grind [IW]
theorem o_.last{es:List aG}{S:dw}(h:o_ es S):S.last=IW es:=by
 cases h with
 |nil=>rfl
 |snoc j u=>rw[adq];exact(Uz _ _).2.2.2.2.1
theorem o_.at{es:List aG}{S:dw}(h:o_ es S):∀{k:Nat} {e:aG},es[k]? =some e->dN e=0/\e.num=(k:Int)/\e.prev=IW (es.take k):=by
 induction h with
 |nil=>intro k e hk;simp at hk
 | @snoc es S E j R ae=>
  intro k e hk;by_cases j3:k<es.length
  ·rw[List.getElem?_append_left j3]at hk;rw[take_append_of_le_length J];exact ae hk
  ·rw[List.getElem?_append_right J]at hk;have ad:k - es.length=0:=by
    have:=(List.getElem?_eq_some_iff.1 hk).1;rw[length_singleton]at this;omega
   have u:k=es.length:=J;rw[ad]at hk;have I:E=e:=by simpa using hk
   subst I;obtain⟨aa,ab,ac,_⟩:=Nj R;refine⟨aa,by rw[ab,j.sz.1,u],?_⟩;rw[ac,j.last,u,take_left'];rfl
end
theorem p9{P:Program}{o:Oper}{a:Act}{j:BinOp}{t u:TypeId}{x y:Operand}(I:o.op= .binOp j t x y u){xs ys:Array Value}{b:Value}(aa:a.eval x= .agg xs)(ab:a.eval y= .agg ys)
 (E:P.eqGuardType P.depth t=false)(R:∀w,(binOp j t (.agg xs) (.agg ys)).run P w= .ok b w)(w:World):(execOp a.eval o).run P w= .ok (.value b) w:=by
 unfold execOp;simp only[I,aa,ab,Sem.run_bind,run_eqGuard_agg w j t x y xs ys E,Result.andThen_ok,R,Sem.run_pure]
end Go.Proofs.YtjlhhnkhcbpnjaaGreatDoor
