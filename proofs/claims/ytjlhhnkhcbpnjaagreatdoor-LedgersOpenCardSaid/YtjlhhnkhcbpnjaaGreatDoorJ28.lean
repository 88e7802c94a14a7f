/- Laws that the row leans on; no condition. -/
import Derived.Test.YtjlhhnkhcbpnjaaGreatDoorJ27
import Derived.Shelf.SlSortCmp.WholeK
import Derived.Shelf.SlSortCmp.NoneTotal
import Derived.Shelf.SlGeneric
namespace Go.Proofs.YtjlhhnkhcbpnjaaGreatDoor
open Go Go.RowKit Go.Shelf List Tryz
set_option linter.unusedVariables false
set_option linter.unusedSectionVars false
set_option linter.unusedSimpArgs false
set_option maxHeartbeats 40000000
set_option maxRecDepth 100000
noncomputable def EW(e:aG):aj:=dY 1 (iZ e)
noncomputable def qM(es:List aG):List (aj):=es.map EW
theorem abY(e:aG):(EW e).length=32:=j_ _ _
theorem MC(es:List aG):jB (qM es):=fun x j=>by
 obtain⟨e,_,rfl⟩:=mem_map.1 j;exact abY e
theorem abZ{es:List aG}{k:Nat}{e:aG}(h:es[k]? =some e):qM (es.take (k+1))=qM (es.take k)++[EW e]:=by
 unfold qM;rw[take_add_one,h,map_append];rfl
theorem ab1(a:aN)(n c:Nat)(es:List aG)(w:World)(h:sK w a n c es)(a2:∀e∈es,dN e=0)(hn:n<=65536):
 Calls prog 26 #[.slice a n c] w fun x w'=>∃v,x= .returned v/\w'.ownsRow w.heap.size 31 32 v n (dB (qM es))/\X w w':=by
 obtain⟨I,bc⟩:=aB h a2;clear h a2;go_enter func26,ntmps26;go_wp2;go_loopw [3,10] (fun u i wr=>∃k:Nat,k<=n/\i= .int .i64 (k:Int)/\wr.ownsRow w.heap.size 31 32 u k (dB (qM (es.take k)))/\X w wr) (fun _ i _=>n - (intOf i).toNat)
 case atStart=>exact⟨0,J,F,⟨F,.inl ⟨F,F⟩⟩,X.refl _⟩
 case round=>
  obtain⟨k,hk,rfl,own,aL⟩:=hrel;obtain⟨j,aa⟩:=aB aL own;clear aL own;by_cases a1:k<n
  ·obtain⟨r,E⟩:∃r,es[k]? =some r:=⟨es[k]'(by rw[I.hl];exact a1),aF⟩;obtain⟨A,rfl,a0⟩:=(I.ext j).at E;obtain⟨av,R,ax⟩:=aW a0 ((I.ext j).ok r (mem_of_getElem? E)) (bc r (mem_of_getElem? E));obtain⟨af,ba⟩:=aB (aG.len R) (abZ E);have a9:=O (qy R ax).2.2.2.2.2.2;clear a0 E;go_wp2_with (first|(refine bF F (fP (i:=k) F F F underlying24 Kz a1 _) ?_)|(refine bF F (bQ F F av cZ af) ?_)|(refine bg F _ (.tmp 5) _ F F F (ah.aI (vs:=dS.v) F F) cZ dZ af (i_ r) ?_));intro a7 aE a6;have ab:X wr a7:=a6.ext ((X.refl wr).alloc _) bG;obtain⟨ao,ap,ae,az⟩:=bU aE (j.ext ab) (R.ext ab) (dQ aa ab);clear aE a6 ab R av aa j;generalize wr.heap.size=bq at*;go_wp2_with (refine bV F 34 (.tmp 5) F F ao cZ af ?_);refine(QE r a7 ae).mono ?_;rintro x bp ⟨al,⟨z,v,rfl,a3⟩|⟨z,rfl⟩⟩
   ·have aq:=O (ap.ext al);have aD:=O (dQ az al);obtain⟨be,bh,rfl,bi,bj,bk,aR⟩:=nT a3;obtain⟨ar,bm⟩:=aB aR (show(iZ r).length=121+r.bn from GR ae);clear a3 z aR al ap ae az ao bi bj bk;go_wp2_with fail;refine(abS (iZ r) be (121+r.bn) bh bp bm (by have:=a9.out;omega) ar).mono ?_;rintro bt a8 ⟨rfl,am⟩;obtain⟨ad,ai⟩:=aB (aq.ext am) (dQ aD am);obtain⟨lf,ac⟩:=aC (dY 1 (iZ r));obtain⟨a_,aw⟩:=aB (show EW r=lf from ac) (show lf.length=32 by rw[<-ac];exact j_ _ _);rw[ac];have br:=ad.size;clear am aq aD ar ac;go_wp2_with (first|(refine TR F F F aw ?_)|(refine TS F _ _ F w.heap.size F F (dQ ai ((X.refl _).alloc _)) aw (ah.aI (vs:=lf.map Y) F F) J (by rw[gU];omega) ?_));intro v' w' a4 aM _;have an:X a8 (World.alloc a8 (.cells (lf.map Y).toArray 31)):=(X.refl _).alloc _;have a5:=dQ ai an;obtain⟨ag,bd⟩:=aB (show X w w' from(ad.ext an).grown aM (fun q bo=>(a5.lt q bo).1)) (show w'.ownsRow w.heap.size 31 32 v' (k+1) (dB (qM (es.take (k+1)))) by rw[ba.out,a_.out];exact a4);clear a4 aM ai ad an a5;go_wp2;go_roundw
    case rel=>exact⟨k+1,J,by go_num,bd,ag⟩
    case measure=>simp[intOf];omega
   ·exact absurd ax.out z
  ·obtain rfl:k=n:=J;have bl:es.take k=es:=take_of_length_le (by rw[I.hl];exact Nat.le_refl _);rw[bl]at aa;have ag:=O j.out;go_wp2
   (try go_ret)
   exact⟨_,F,aa,ag⟩
theorem TT(C T:Int)(u r2:aj):∀v∈iY C T u r2,v.oneCell'=true:=by
 intro v j;unfold iY at j;rcases mem_cons.1 j with rfl|j
 ·rfl
 rcases mem_cons.1 j with rfl|j
 ·rfl
 rcases mem_append.1 j with h|h
 ·exact b_ _ v h
 ·exact b_ _ v h
theorem TU{w:World}{B:Nat}{e:TypeId}{z n c:Nat}{a:aN}{m:Nat}{xs:aO}(h:w.ownsRow B e z (.slice a n c) m xs):c<=9223372036854775807:=by
 rcases h.2 with⟨j,_⟩|⟨g,I,cu,j,_,_,_,E,_⟩
 ·injection j with _ _ u;omega
 ·injection j with _ _ u;subst u;unfold maxLen at E;omega
noncomputable def vJ(es:List aG):aO:=match es.getLast? with
 |none=>iY 0 0 iK iK
 |some e=>iY es.length e.time (ig e) (mX iO (qM es))
noncomputable def ab2(n:Nat):Array Oper:=xZ f16 n
theorem ab3(a:aN)(n c:Nat)(es:List aG)(w:World)(h:sK w a n c es)(ab:∀e∈es,dN e=0)(hn:n<=65536):
 Calls prog 16 #[.slice a n c] w fun x w'=>x= .returned (.agg (vJ es).toArray)/\X w w':=by
 obtain⟨bl,bR⟩:=aB h ab;by_cases ap:n=0
 ·have a6:es=[]:=length_eq_zero_iff.1 (by rw[h.hl,ap]);subst ap;have bp:=O (show vJ es=iY 0 0 iK iK by rw[a6];rfl);clear h ab a6;go_enter func16,ntmps16;go_wp2_with (refine bg F _ _ _ F F F (ah.aI (vs:=iY 0 0 iK iK) F F) BI (by rfl) (xs:=iY 0 0 iK iK) (by rfl) aX ?_);intro j bw bN;go_wp2_with fail;exact gG F F bw BI (by rfl) F ⟨by rw[bp.out],bN.ext ((X.refl w).alloc _) bG⟩
 ·obtain⟨r,aa⟩:∃r,es[n - 1]? =some r:=⟨es[n - 1]'(by rw[h.hl];omega),aF⟩;have a7:es.getLast? =some r:=by rw[List.getLast?_eq_getElem?,h.hl];exact aa
  obtain⟨af,bu⟩:=aB (h.ok r (mem_of_getElem? aa)) (ab r (mem_of_getElem? aa));obtain⟨ag,bo⟩:=aB (aG.len af) (show vJ es=iY n r.time (ig r) (mX iO (qM es)) by unfold vJ;rw[a7,h.hl]);obtain⟨A,rfl,a5⟩:=h.at aa;obtain⟨aE,aM,aL⟩:=aW a5 (nZ r) (show(mX iO (qM es)).length=32 from yX iO tY (MC es));have bE:n - 1<n:=J;have b0:((n:Int) - 1)=((n - 1:Nat):Int):=J;have bS:decide ((n:Int)=0)=false:=aP J;have bX:decide (n=0)=false:=aP ap;have br:=O (fun j (bx:X w j)=>ab1 (some A) n c es j (h.ext bx) ab hn);clear h ab aa a7 a5;go_enter func16,ntmps16;go_upto_region 3 with fail;generalize av:World.alloc w _=ac;have a1:ah ac w.heap.size (iY 0 0 iK iK) 46:=by rw[<-av];exact ah.aI F F
  have am:X w ac:=by rw[<-av];exact(X.refl w).alloc _
  obtain⟨B0,az,aD⟩:=aW a1 am (aE.ext am);clear av a1 am aE;obtain⟨ao,ad⟩:=aC w.heap.size;have bm:=O ad;rw[ad]at B0
  conv=>rw[ad]
  clear ad;go_upto_region 4 with(first|(refine bF F (fP (i:=n - 1) F F F underlying24 Kz bE _) ?_)|(refine bF F (bQ F F aD cZ ag) ?_)|(refine bg F _ (.tmp 3) _ F F F (ah.aI (vs:=dS.v) F F) cZ dZ ag (i_ r) ?_));intro v3 a2 ba;have an:X ac v3:=ba.ext ((X.refl _).alloc _) bG;obtain⟨ae,B2,bj⟩:=aW a2 (B0.ext an) (az.ext an);have bv:=O af.out;have bt:=O (show ao<ac.heap.size from B0.lt);clear a2 ba an B0 az aD af;generalize ac.heap.size=g3 at*;go_upto_region 4 with fail;obtain⟨C,E,aJ,bP⟩:=iw (show bT w v3 [g3] [(ao,66,46)] v3 from bT.yw bj (dV.one ae.lt) B2 (GK _ _ F F));have a3:∀j,C j->j.cell? ⟨g3,1,none⟩=some (.int .i64 r.time):=fun j bz=>(((E j).1 bz).blk ae aF).cell' (aG.rH r);refine fJ (ops:=(ab2 4)) fun Z=> ?_;refine aA 0 ?_;refine aA 1 ?_;refine aA 2 ?_;refine dA 3 (a3) ?_;refine bD 4 F (oC F 34 _ F F (fun j h=>((E j).1 h).blk ae aF) cZ ag) ?_;refine aA 6 ?_;generalize World.drew v3=bd at Z⊢;refine aZ 5 ?_;intro I u;go_wp2_with fail;refine((GN r bd (bv.ext ((E bd).1 Z).base) bu)).mono ?_;rintro e be ⟨rfl,R⟩;replace Z:=aJ _ _ Z R;go_wp2_with fail;refine u _ _ Z ?_;clear u I R;refine aH ?_;refine aZ 7 ?_;intro I u;go_wp2_with fail;refine(br be ((E be).1 Z).base).mono ?_;rintro b2 bO ⟨vl,rfl,aw,a4⟩;obtain⟨bL,a_,rfl,bB, -,a8⟩:=iJ aw;have bA:a_<=9223372036854775807:=TU aw;have aq:=aJ _ _ Z a4;have bq:=O a8;go_wp2_with fail;refine u _ _ aq ?_;clear u I Z aw a4 a8;have Z:=aq;clear aq;refine aH ?_;refine aZ 8 ?_;intro I u;go_wp2_with fail;refine((abQ n (qM es) a_ bL bO (by unfold qM;rw[length_map,bl.hl]) J hn (MC es) bB bA bq)).mono ?_
  rintro e bh ⟨rfl,R⟩;replace Z:=aJ _ _ Z R;go_wp2_with fail;refine u _ _ Z ?_;clear u I R;refine aH ?_;refine bD 9 F (bf F (fun j _=>QF F F F F F aM aL j)) ?_;obtain⟨b1,a9,zb⟩:=((E bh).1 Z).Dn (r:=ao) (n:=66) (T:=46) aF;obtain⟨a0,aR,ai⟩:=aW zb a9 (GK (n:Int) r.time aM aL);clear zb a9;refine aZ 10 ?_;intro I u;go_wp2_with (refine bg F _ _ _ F F F a0 BI aR ai (TT _ _ _ _) ?_);intro ax al bc;have ar:C ax:=(E ax).2 (((E bh).1 Z).store bc al (by simp[ai.out]) (by have:=bm.out;omega) (by simp;have:=bt.out;omega));have bi:=O al;go_wp2_with fail;refine u _ _ ar ?_;have bk:=O ((E ax).1 ar).base;clear u I Z al bc a0 aR ar;refine aH ?_;refine dH ?_;clear aJ E bP a3 C;go_wp2_with fail;exact gG F F bi BI ai F ⟨by rw[bo.out],bk⟩
theorem ab4(a:aN)(n c:Nat)(w:World)(hn:n<=65536):
 Calls prog 100 #[.slice a n c] w fun e w'=>e= .returned (.int .i64 (if n=0 then 10 else 0))/\w=w':=by
 by_cases h:n=0
 ·subst h;go_enter func100,ntmps100;go_wp2;go_ret;exact⟨F,F⟩
 ·rw[if_neg h];have j:((n:Int)==0)=false:=by simp;omega
  have u:(n==0)=false:=by simp[h]
  have E:decide (65536<n)=false:=aP J;have I:decide ((65536:Int)<(n:Int))=false:=aP J;go_enter func100,ntmps100;go_wp2;go_ret;exact⟨F,F⟩
def x8(ls:List (aj)):aj×Int:=if ls.length=0 then(iK,10)else(mX iO ls,0)
theorem ab5(ls:List (aj))(a:aN)(n c:Nat)(w:World)(ae:ls.length=n)(hn:n<=65536)(ad:jB ls)(aw:n<=c)(av:c<=9223372036854775807)(ai:aK w a (dB ls)):
 Calls prog 59 #[.slice a n c] w fun e w'=>e= .returned (Kw (x8 ls))/\X w w':=by
 have hf:=O (fun w=>ab4 a n c w hn);obtain⟨V,j⟩:=aC (x8 ls);rw[j];unfold x8 at j;rw[ae]at j;by_cases aa:n=0
 ·rw[if_pos aa]at j;rw[if_pos aa]at hf;subst j;clear ai ad ae;subst aa;go_enter func59,ntmps59;go_upto_region 1 with(fail);generalize u:World.alloc w _=E;have ab:ah E w.heap.size (List.replicate 32 (.int .u8 0)) 31:=by rw[<-u];exact ah.aI F F
  have R:X w E:=by rw[<-u];exact(X.refl w).alloc _
  clear u;obtain⟨ac,I⟩:=aB ab R;clear ab R;go_wp2_with (first|(go_at_call 100;refine(hf _).mono ?_;rintro e w' ⟨rfl,rfl⟩)|(refine bg F _ _ _ F F F ac bY aF (xs:=List.replicate 32 (.int .u8 0)) aF (JI 32) ?_));intro aD af al;go_wp2;refine iy F F af bY aF F ⟨by unfold Kw;rw[Yl];rfl,al.ext I bG⟩
 ·rw[if_neg aa]at j;rw[if_neg aa]at hf;have ax:=O (fun w' ar=>abP n ls c a w' ae J hn ad aw av ar);have an:=yX iO tY ad;generalize mX iO ls=p at*;have am:Hid ((p.map Y).length=32):=O (by rw[length_map,an]);have az:=b_ p;have ap:=O ai;subst j;clear ai ad ae an;go_enter func59,ntmps59;go_upto_region 1 with(fail);generalize u:World.alloc w _=E;have ab:ah E w.heap.size (List.replicate 32 (.int .u8 0)) 31:=by rw[<-u];exact ah.aI F F
  have R:X w E:=by rw[<-u];exact(X.refl w).alloc _
  clear u;obtain⟨ac,I⟩:=aB ab R;clear ab R;go_wp2_with (first|(go_at_call 100;refine(hf _).mono ?_;rintro e w' ⟨rfl,rfl⟩));refine(ax E (ap.ext I)).mono ?_;rintro e aE ⟨rfl,ag⟩;obtain⟨aq,ao⟩:=aB (ac.ext ag) (I.ext ag);clear ag ac I;go_wp2_with (refine bg F _ _ _ F F F aq bY aF am az ?_);intro aD af al;go_wp2;refine iy F F af bY am F ⟨F,al.ext ao bG⟩
def kP(n:Int):Nat:=(BitVec.ofInt 64 n &&& BitVec.ofInt 64 (3:Int)).toNat
theorem rX(n:Int)(m:Nat)(j:m<9223372036854775808):(BitVec.ofInt 64 n &&& BitVec.ofInt 64 (m:Int)).toNat<=m:=by
 rw[BitVec.toNat_and];refine Nat.le_trans Nat.and_le_right ?_;rw[BitVec.toNat_ofInt];omega
theorem TV(n:Int):kP n<=3:=rX n 3 J
theorem rY(n:Int)(m:Nat)(j:m<9223372036854775808):bits BinOp.and IntKind.i64 n (m:Int)=((BitVec.ofInt 64 n &&& BitVec.ofInt 64 (m:Int)).toNat:Int):=by
 have h:bits BinOp.and IntKind.i64 n (m:Int)=IntKind.i64.wrap ((BitVec.ofInt 64 n &&& BitVec.ofInt 64 (m:Int)).toNat:Int):=F;rw[h];exact IntWalk.i64_in _ (by have:=rX n m j;omega)
theorem TW(n:Int):bits BinOp.and IntKind.i64 n 3=(kP n:Int):=rY n 3 J
def kQ(i:Nat):aj:=List.replicate 15 0++[UInt8.ofNat (1+i)]
def CY(i:Nat):aj:=7::(List.replicate 14 0++[UInt8.ofNat i])
theorem qN(i:Nat):(kQ i).length=16:=by unfold kQ;simp
theorem MF(i:Nat):(CY i).length=16:=by unfold CY;simp
theorem tC(n:Int)(w:World):Calls prog 47 #[.int .i64 n] w fun x w'=>x= .returned (.agg ((kQ (kP n)).map Y).toArray)/\X w w':=by
 have ai:=TW n;have al:=TV n;generalize kP n=i at*;have ad:wrap64 1=1:=by unfold wrap64;omega
 have ae:wrap64 2=2:=by unfold wrap64;omega
 have af:wrap64 3=3:=by unfold wrap64;omega
 have ag:wrap64 4=4:=by unfold wrap64;omega
 rcases(show i=0∨i=1∨i=2∨i=3 by omega)with rfl|rfl|rfl|rfl
 all_goals
  (
   go_enter func47,ntmps47;go_upto_region 1 with fail;generalize j:World.alloc w _=I;have u:ah I w.heap.size (List.replicate 16 (.int .u8 0)) 29:=by rw[<-j];exact ah.aI F F
   have E:X w I:=by rw[<-j];exact(X.refl w).alloc _
   obtain⟨R,aa⟩:=aB u E;clear j u E;go_wp2_with (refine bg F _ _ _ F F F R dh aF F (by repeat (first|exact forall_mem_nil _|refine forall_mem_cons.2 ⟨F,?_⟩)) ?_);intro am ab ac;go_wp2_with fail;exact gG F F ab dh F F ⟨F,ac.ext aa bG⟩)
theorem MG(n:Int)(w:World):Calls prog 49 #[.int .i64 n] w fun x w'=>x= .returned (.agg ((CY (kP n)).map Y).toArray)/\X w w':=by
 have ai:=TW n;have al:=TV n;generalize kP n=i at*;have ad:wrap64 1=1:=by unfold wrap64;omega
 have ae:wrap64 2=2:=by unfold wrap64;omega
 have af:wrap64 3=3:=by unfold wrap64;omega
 have ag:wrap64 4=4:=by unfold wrap64;omega
 rcases(show i=0∨i=1∨i=2∨i=3 by omega)with rfl|rfl|rfl|rfl
 all_goals
  (
   go_enter func49,ntmps49;go_upto_region 1 with fail;generalize j:World.alloc w _=I;have u:ah I w.heap.size (List.replicate 16 (.int .u8 0)) 29:=by rw[<-j];exact ah.aI F F
   have E:X w I:=by rw[<-j];exact(X.refl w).alloc _
   obtain⟨R,aa⟩:=aB u E;clear j u E;go_wp2_with (refine bg F _ _ _ F F F R dh aF F (by repeat (first|exact forall_mem_nil _|refine forall_mem_cons.2 ⟨F,?_⟩)) ?_);intro am ab ac;go_wp2_with fail;exact gG F F ab dh F F ⟨F,ac.ext aa bG⟩)
section
open Go Go.RowKit Go.Shelf Go.Sort
section
variable {α:Type} [Inhabited α] {enc:α->aO} {k:Nat}
def fU(enc:α->aO)(ls:List α):aO:=ls.flatMap enc
variable (hk:∀x,(enc x).length=k)
include hk
omit [Inhabited α]in
theorem yY(ls:List α):(fU enc ls).length=k*ls.length:=by
 unfold fU;induction ls with
 |nil=>rfl
 |cons x l j=>rw[flatMap_cons,length_append,hk,j,length_cons,Nat.mul_succ];omega
omit [Inhabited α]in
theorem MH{j:Nat}(hj:j<k){x:α}:∀(ls:List α) (i:Nat),ls[i]? =some x->(fU enc ls)[k*i+j]? =(enc x)[j]?
 |[],_,h=>by simp at h
 |y::ls,0,h=>by
  simp only[List.getElem?_cons_zero,Option.some.injEq]at h;subst h;show(enc y++fU enc ls)[k*0+j]? =_;rw[List.getElem?_append_left (by rw[hk];omega),Nat.mul_zero,Nat.zero_add]
 |y::ls,i+1,h=>by
  rw[List.getElem?_cons_succ]at h;show(enc y++fU enc ls)[k*(i+1)+j]? =_;rw[List.getElem?_append_right (by rw[hk,Nat.mul_succ];omega),hk,show k*(i+1)+j - k=k*i+j by rw[Nat.mul_succ];omega];exact MH hj ls i h
theorem TY(d:Array α):flatK enc k d=(fU enc d.toList).toArray:=by
 have ab:(fU enc d.toList).length=d.size*k:=by rw[yY hk,Nat.mul_comm];simp
 refine ext_get! (by rw[size_flatK];simp[ab]) fun t ht=> ?_;rw[size_flatK]at ht;rw[get_flatK enc k d t ht];have E:0<k:=by
  rcases Nat.eq_zero_or_pos k with h|h
  ·subst h;simp at ht
  ·exact h
 have j:t / k<d.size:=Nat.div_lt_of_lt_mul (by rw[Nat.mul_comm];exact ht);have ac:d.toList[t / k]? =some (d[t / k]'j):=by rw[Array.getElem?_toList,Array.getElem?_eq_getElem j]
 have u:=MH hk (Nat.mod_lt t E) d.toList (t / k) ac;rw[Nat.div_add_mod]at u;have aa:(enc d[t / k]!)[t%k]! =(enc (d[t / k]'j))[t%k]! :=by rw[getElem!_pos d (t / k) j]
 rw[aa];have I:t%k<(enc (d[t / k]'j)).length:=by rw[hk];exact Nat.mod_lt t E
 have R:t<(fU enc d.toList).length:=J;rw[getElem!_pos (enc (d[t / k]'j)) (t%k) I,getElem!_pos (fU enc d.toList).toArray t (by simpa using R)];rw[List.getElem?_eq_getElem I,List.getElem?_eq_getElem R]at u;simpa using(Option.some.inj u).symm
theorem ab6{w:World}{g:Nat}{d:Array α}{rest:aO}{T:TypeId}(hb:ah w g (fU enc d.toList++rest) T):HoldsK enc k w g 0 d:=by
 unfold HoldsK;rw[TY hk];intro j E;have u:j<(fU enc d.toList).length:=by simpa using E
 refine⟨?_,hb.frozen _⟩;rw[Nat.zero_add];refine hb.cell' ?_;rw[List.getElem?_append_left u,List.getElem?_eq_getElem u,getElem!_pos _ _ (by simpa using u)];simp
theorem ab7{w:World}{g:Nat}{ls:List α}{rest:aO}{T:TypeId}(hb:ah w g (fU enc ls++rest) T)(d:Array α)(n:Nat)(j:Array Obj)(hs:d.size=ls.length):
 ah (sortWorldK enc k w g 0 n d j) g (fU enc d.toList++rest) T/\w.grownBy (sortWorldK enc k w g 0 n d j) (some g):=by
 have E:=hb.lt;have R:(fU enc d.toList).length=(fU enc ls).length:=by rw[yY hk,yY hk];simp[hs]
 constructor
 ·unfold ah at hb⊢;unfold sortWorldK putRowK putRow mapBlock grow;show(Array.modify w.heap g _++j)[g]? =_;rw[Array.getElem?_append_left (by simpa using E),Array.getElem?_modify,if_pos F,hb,TY hk];simp only[Option.map_some,onCells,Option.some.injEq,Obj.cells.injEq,and_true];unfold putCells;apply Array.ext_getElem?;intro i;simp only[Array.getElem?_mapIdx,List.getElem?_toArray,Nat.zero_add,Nat.zero_le,true_and,Nat.sub_zero,id_eq,size_toArray];by_cases u:i<(fU enc ls).length
  ·rw[List.getElem?_append_left u,List.getElem?_eq_getElem u,List.getElem?_append_left J,List.getElem?_eq_getElem (by omega:i<(fU enc d.toList).length)];simp only[Option.map_some];rw[if_pos J,getElem!_pos _ _ (by simpa using(by omega:i<(fU enc d.toList).length))];simp
  ·rw[List.getElem?_append_right J,List.getElem?_append_right J,R];cases rest[i - (fU enc ls).length]? with
   |none=>rfl
   |some v=>
    simp only[Option.map_some];rw[if_neg J]
 ·refine⟨F,F,F,?_,fun i u aa=> ?_⟩
  ·unfold sortWorldK putRowK putRow mapBlock grow;show w.heap.size<=(Array.modify w.heap g _++j).size;simp
  ·unfold sortWorldK putRowK putRow mapBlock grow;show(Array.modify w.heap g _++j)[i]? =_;have I:¬g=i:=fun h=>aa (by rw[h]);rw[Array.getElem?_append_left (by simpa using u),Array.getElem?_modify,if_neg I];try rfl
omit hk in
theorem ab8{E:α->α->Int}{d u:Array α}{n:Nat}(hn:d.size=n)(ai:PermIn 0 n d u)(hs:SortedIn (ltOf E) 0 n u):
 u.size=n/\u.toList.Perm d.toList/\u.toList.Pairwise (fun x y=>¬E y x<0):=by
 obtain⟨al,_,I⟩:=ai;have R:u.size=n:=J;have aa:(u.extract 0 n).toList=u.toList:=by rw[<-R];simp
 have e2:(d.extract 0 n).toList=d.toList:=by rw[<-hn];simp
 rw[aa,e2]at I;refine⟨R,I,?_⟩;refine pairwise_iff_getElem.2 fun i j ac af ae=> ?_;have ad:i<u.size:=by simpa using ac
 have ag:j<u.size:=by simpa using af
 have h:=hs i j (Nat.zero_le _) ae J;rw[getElem!_pos u i ad,getElem!_pos u j ag]at h;have ab:decide (E u[j] u[i]<0)=false:=h;simpa using ab
end
theorem MI{P:Program}{E:Ren}{α:Type}[Inhabited α]{enc:α->aO}{k:Nat}(L:SlLaysF0.n6 P E)(af:∀w,(isAgg (E.t 24)).run P w= .ok true w)(aE:∀w,(Go.sizeOf (E.t 24)).run P w= .ok k w)(hk:∀x,(enc x).length=k)(an:∀x,∀v∈enc x,v.oneCell'=true)
 (j:α->α->Int)(ap:SWO (ltOf j))(f:Nat)(hf:∀(x y:α) (w:World),Calls P f #[.agg (enc x).toArray,.agg (enc y).toArray] w fun e w'=>e= .returned (.int .i64 (j x y))/\iT w w')(am:∀ac w,(callFunc f ac).run P w= .ok (.enter f ac) w)
 {w:World}{B n:Nat}{e:TypeId}{v:Value}{ls:List α}(own:w.ownsRow B e k v n (fU enc ls))(hn:ls.length=n)(ax:n<4611686018427387904):
 Calls P (E.f 6) #[v,.func (.func f) #[] #[]] w fun x w'=>x= .returned (.tuple #[])/\∃es,es.Perm ls/\es.Pairwise (fun x y=>¬j y x<0)/\w'.ownsRow B e k v n (fU enc es)/\w.grownBy w' v.ownBlock:=by
 rcases own.2 with⟨rfl,rfl⟩|⟨g,I,cu,rfl,hb,aw,ae,aq,ar,av⟩
 ·refine(AnyF.slices_SortFunc_none L none 0 (.func (.func f) #[] #[]) w).mono ?_;rintro x w' ⟨rfl,rfl⟩;have:ls=[]:=length_eq_zero_iff.1 hn;subst this;exact⟨F,[],List.Perm.refl _,List.Pairwise.nil,own,yA w' _⟩
 ·have R:ah w g (fU enc ls++cu.toList.drop (n*k)) e:=by
   unfold ah;rw[aw,<-av,take_append_drop]
  have ao:HoldsK enc k w g 0 ls.toArray:=ab6 hk (rest:=cu.toList.drop (n*k)) (T:=e) (by simpa using R);have ad:=AnyQ.slices_SortFunc L k af aE enc hk an j ap f #[] g 0 I ls.toArray w am (fun m ab al _ x y=>hf x y (sortWorldK enc k w g 0 m al ab)) ao R.lt (by simpa[hn]using ax);have hs:ls.toArray.size=n:=by simpa using hn
  rw[hs]at ad;refine ad.mono ?_;rintro x w' ⟨rfl,u,n',ab,aD,az,rfl⟩;obtain⟨k1,k2,k3⟩:=ab8 hs aD az;obtain⟨ag,ai⟩:=ab7 hk R u n' ab (by rw[k1,hn]);refine⟨F,u.toList,by simpa using k2,k3,?_,ai⟩;have aa:(fU enc u.toList).length=n*k:=by rw[yY hk,Nat.mul_comm];simp[k1]
  refine⟨aa,.inr ⟨g,I,(fU enc u.toList++cu.toList.drop (n*k)).toArray,F,hb,ag,ae,aq,?_,?_⟩⟩
  ·have:=own.1;rw[size_toArray,length_append,aa,length_drop,Array.length_toList,ar];have:n*k<=I*k:=Nat.mul_le_mul_right _ ae;omega
  ·rw[<-aa];simp
theorem MJ{P:Program}{f:FuncId}{B:Func}(h:(((P.funcs[f]?).map (fun x=>x.name)).getD "" == "runtime.NumGoroutine")=false)(j:P.funcs[f]? =some {B with name:=((P.funcs[f]?).map (fun x=>x.name)).getD ""}):Bears P f B:=⟨_,h,j⟩
end
def ab9:Go.Shelf.Ren:=⟨fun|6=>196 |15=>176 |14=>256 |28=>223 |29=>224 |20=>309 |21=>310 |22=>311 |23=>312 |24=>313 |25=>314 |26=>315 |27=>316 |46=>340 |47=>286 |48=>287 |49=>341 |50=>342 |57=>349 |n=>n,fun|22=>225 |24=>228 |25=>284 |3=>3 |39=>141 |0=>0 |53=>239 |55=>246 |4=>4 |46=>314 |45=>313 |50=>82 |5=>5 |9=>9 |66=>360 |70=>364 |76=>389 |77=>390 |n=>n,fun|n=>n⟩
theorem acd:Go.Proofs.SlLaysF0.n6 prog ab9:=by repeat' first|kernel_rfl|(intro _;kernel_rfl)|exact MJ au au|constructor
structure lJ where
 id:aj
 r:iF
def lJ.v(m:lJ):aO:=m.id.map Y++[m.r.v]
def lJ.zero:lJ:=⟨fO,.nil⟩
theorem EX:(prog.info? 228).map (fun i=>(i.zero,i.size,i.bytes))=some (some (.agg lJ.zero.v.toArray),17,40):=au
theorem ace:(prog.underlying 228).bind (fun d=>match d with| .struct j=>j.toList.mapM (fun f=>(prog.info? f.type).map fun i=>(f.offset,i.size))|_=>none)=some [(0,16),(16,1)]:=au
structure nK where
 ask:aj
 who:aj
 x:dX
def nK.v(r:nK):aO:=r.ask.map Y++(r.who.map Y++[r.x.r.v,.int .i64 r.x.t])
def nK.zero:nK:=⟨kN,fO,.zero⟩
theorem EY:(prog.info? 232).map (fun i=>(i.zero,i.size,i.bytes))=some (some (.agg nK.zero.v.toArray),50,80):=au
theorem acf:(prog.underlying 232).bind (fun d=>match d with| .struct j=>j.toList.mapM (fun f=>(prog.info? f.type).map fun i=>(f.offset,i.size))|_=>none)=some [(0,32),(32,16),(48,2)]:=au
theorem acg(x:aj)(sa:aN)(sn sc:Nat)(l:aT)(j:x.length=16):prog.built 228 [(0,Value.agg (x.map Y).toArray),(1,Value.slice sa sn sc)]=some (lJ.v ⟨x,⟨sa,sn,sc,l⟩⟩).toArray:=by
 obtain⟨aa,u,E,R,I⟩:=info_parts EX;have hf:=ace;rw[underlying228]at hf;simp only[Option.bind_some]at hf;unfold Program.built;rw[u,underlying228];simp only[E,hf];have g0:(Value.agg lJ.zero.v.toArray).cells=((([]:aO))++(zb 16)++([Value.slice none 0 0])).toArray:=F;rw[g0,jh (([]:aO)) (zb 16) ([Value.slice none 0 0]) F (by simp[zb,j]) (by simp[Value.cells,j]) (by simp[zb])];have g1:(([]:aO))++(Value.agg (x.map Y).toArray).cells.toList++([Value.slice none 0 0])=((x.map Y))++[Value.slice none 0 0]++(([]:aO)):=by simp[Value.cells,zb]
 rw[g1,jh ((x.map Y)) [Value.slice none 0 0] (([]:aO)) F (by simp[zb,j]) (by simp[Value.cells,j]) (by simp[zb])];rw[Instr.fill];simp[Value.cells,zb,lJ.v,iF.v]
theorem ach{o:Oper}{a:Act}{j u:Operand}{x:aj}{sa:aN}{sn sc:Nat}{l:aT}(ab:o.op= .build 228 #[(0,j),(1,u)])(E:a.eval j=Value.agg (x.map Y).toArray)(I:a.eval u=Value.slice sa sn sc)(ac:x.length=16)(w:World):(execOp a.eval o).run prog w= .ok (.value (.agg (lJ.v ⟨x,⟨sa,sn,sc,l⟩⟩).toArray)) w:=by
 have h:=run_build (P:=prog) w 228 #[(0,Value.agg (x.map Y).toArray),(1,Value.slice sa sn sc)] _ (acg x sa sn sc l ac);have aa:(#[(0,j),(1,u)].map fun(r:Nat×Operand)=>(r.1,a.eval r.2))= #[(0,Value.agg (x.map Y).toArray),(1,Value.slice sa sn sc)]:=by simp[E,I]
 unfold execOp;simp only[ab,Sem.run_bind];have R:(Instr.build 228 (#[(0,j),(1,u)].map fun(r:Nat×Operand)=>(r.1,a.eval r.2))).run prog w= .ok (.agg (lJ.v ⟨x,⟨sa,sn,sc,l⟩⟩).toArray) w:=by rw[aa];exact h
 rw[R];rfl
theorem aci(x y:aj)(sa:aN)(sn sc:Nat)(l:aT)(t:Int)(j:x.length=32)(u:y.length=16):prog.built 232 [(0,Value.agg (x.map Y).toArray),(1,Value.agg (y.map Y).toArray),(2,Value.agg #[Value.slice sa sn sc,Value.int .i64 t])]=some (nK.v ⟨x,y,⟨⟨sa,sn,sc,l⟩,t⟩⟩).toArray:=by
 obtain⟨ac,I,R,ab,aa⟩:=info_parts EY;have hf:=acf;rw[underlying232]at hf;simp only[Option.bind_some]at hf;unfold Program.built;rw[I,underlying232];simp only[R,hf];have g0:(Value.agg nK.zero.v.toArray).cells=((([]:aO))++(zb 32)++((zb 16)++[Value.slice none 0 0,Value.int .i64 0])).toArray:=F;rw[g0,jh (([]:aO)) (zb 32) ((zb 16)++[Value.slice none 0 0,Value.int .i64 0]) F (by simp[zb,j,u]) (by simp[Value.cells,j,u]) (by simp[zb])];have g1:(([]:aO))++(Value.agg (x.map Y).toArray).cells.toList++((zb 16)++[Value.slice none 0 0,Value.int .i64 0])=((x.map Y))++(zb 16)++([Value.slice none 0 0,Value.int .i64 0]):=by simp[Value.cells,zb]
 rw[g1,jh ((x.map Y)) (zb 16) ([Value.slice none 0 0,Value.int .i64 0]) F (by simp[zb,j,u]) (by simp[Value.cells,j,u]) (by simp[zb])];have E:((x.map Y))++(Value.agg (y.map Y).toArray).cells.toList++([Value.slice none 0 0,Value.int .i64 0])=((x.map Y)++(y.map Y))++[Value.slice none 0 0,Value.int .i64 0]++(([]:aO)):=by simp[Value.cells,zb]
 rw[E,jh ((x.map Y)++(y.map Y)) [Value.slice none 0 0,Value.int .i64 0] (([]:aO)) F (by simp[zb,j,u]) (by simp[Value.cells,j,u]) (by simp[zb])];rw[Instr.fill];simp[Value.cells,zb,nK.v,iF.v]
theorem acj{o:Oper}{a:Act}{j u E:Operand}{x y:aj}{sa:aN}{sn sc:Nat}{l:aT}{t:Int}(ac:o.op= .build 232 #[(0,j),(1,u),(2,E)])(I:a.eval j=Value.agg (x.map Y).toArray)(R:a.eval u=Value.agg (y.map Y).toArray)(e2:a.eval E=Value.agg #[Value.slice sa sn sc,Value.int .i64 t])(ad:x.length=32)(ae:y.length=16)(w:World):(execOp a.eval o).run prog w= .ok (.value (.agg (nK.v ⟨x,y,⟨⟨sa,sn,sc,l⟩,t⟩⟩).toArray)) w:=by
 have h:=run_build (P:=prog) w 232 #[(0,Value.agg (x.map Y).toArray),(1,Value.agg (y.map Y).toArray),(2,Value.agg #[Value.slice sa sn sc,Value.int .i64 t])] _ (aci x y sa sn sc l t ad ae);have ab:(#[(0,j),(1,u),(2,E)].map fun(r:Nat×Operand)=>(r.1,a.eval r.2))= #[(0,Value.agg (x.map Y).toArray),(1,Value.agg (y.map Y).toArray),(2,Value.agg #[Value.slice sa sn sc,Value.int .i64 t])]:=by simp[I,R,e2]
 unfold execOp;simp only[ac,Sem.run_bind];have aa:(Instr.build 232 (#[(0,j),(1,u),(2,E)].map fun(r:Nat×Operand)=>(r.1,a.eval r.2))).run prog w= .ok (.agg (nK.v ⟨x,y,⟨⟨sa,sn,sc,l⟩,t⟩⟩).toArray) w:=by rw[ab];exact h
 rw[aa];rfl
def acn:Go.Shelf.Ren:=⟨fun|6=>139 |15=>176 |14=>194 |28=>223 |29=>224 |20=>247 |21=>248 |22=>249 |23=>250 |24=>251 |25=>252 |26=>253 |27=>254 |46=>302 |47=>286 |48=>287 |49=>303 |50=>304 |57=>335 |n=>n,fun|22=>166 |24=>159 |25=>224 |3=>3 |39=>141 |0=>0 |53=>239 |55=>246 |4=>4 |46=>314 |45=>313 |50=>82 |5=>5 |9=>9 |66=>360 |70=>364 |76=>389 |77=>390 |n=>n,fun|n=>n⟩
theorem aco:Go.Proofs.SlLaysF0.n6 prog acn:=by repeat' first|kernel_rfl|(intro _;kernel_rfl)|exact MJ au au|constructor
section
open Go Go.RowKit Go.Shelf Go.Sort
structure qg where
 k:bC
 ok:k.Ok
instance:Inhabited qg:=⟨⟨bC.zero,bC.vk⟩⟩
def uK(x:qg):aO:=x.k.v
theorem Aw(x:qg):(uK x).length=84:=bC.len x.ok
theorem MK(x:qg):∀v∈uK x,v.oneCell'=true:=yT x.k
def CZ(x y:qg):Int:=eH x.k.key y.k.key
theorem acp:Sort.SWO (ltOf CZ) where
 irrefl x:=Ju x.k.key
 trans x y z h1 h2:=FT h1 h2
 ntrans x y z h1 h2:=Jv h1 h2
theorem acr(x y:qg)(w:World):Calls prog 140 #[.agg (uK x).toArray,.agg (uK y).toArray] w fun e w'=>e= .returned (.int .i64 (CZ x y))/\iT w w':=by
 obtain⟨hc,ac,ad,ag,ai⟩:=dM (fun w=>Gg x.k.key y.k.key w x.ok.hk y.ok.hk) (bC.wB x.ok) (bC.wB y.ok) (show(x.k.key.map Y).length=16 by rw[length_map];exact x.ok.hk) (show(y.k.key.map Y).length=16 by rw[length_map];exact y.ok.hk);go_enter func140,ntmps140;go_upto_region 1 with(fail);generalize j:World.alloc (World.alloc w _) _=u;have I:ah u w.heap.size x.k.v 159:=by rw[<-j];exact(ah.aI F F).alloc _
 have R:ah u (w.heap.size+1) y.k.v 159:=by rw[<-j];exact ah.aI aF F
 have ab:Hid (iT w u):=by rw[<-j];exact O (((iT.refl w).alloc _).alloc _)
 obtain⟨ae,af⟩:=aB I R;clear j I R;go_wp2_with (first|(refine bF F (bQ F F (dF ae ac) dh ag) ?_)|(refine bF F (bQ F F (dF af ad) dh ai) ?_));refine(hc u).mono ?_;rintro e w' ⟨rfl,E⟩;have aa:=O (ab.trans E);clear E;go_wp2_with fail;go_ret;exact⟨F,aa⟩
theorem acs:∀j w,(callFunc 140 j).run prog w= .ok (.enter 140 j) w:=enters_of func140 au F
theorem acu{w:World}{B n:Nat}{v:Value}{ls:List qg}(own:w.ownsRow B 159 84 v n (fU uK ls))(hn:ls.length=n)(j:n<4611686018427387904):
 Calls prog 139 #[v,.func (.func 140) #[] #[]] w fun x w'=>x= .returned (.tuple #[])/\∃es,es.Perm ls/\es.Pairwise (fun x y=>¬CZ y x<0)/\w'.ownsRow B 159 84 v n (fU uK es)/\w.grownBy w' v.ownBlock:=
 MI aco isAgg159 sizeOf159 Aw MK CZ acp _ acr acs own hn j
theorem T_:pO prog 166 159 84 120:=⟨underlying166,⟨_,_,(info_parts EM).choose_spec.1,(info_parts EM).choose_spec.2.1,(info_parts EM).choose_spec.2.2.1,(info_parts EM).choose_spec.2.2.2,F⟩,aX⟩
theorem ML{α:Type}(enc:α->aO)(ls:List α)(x:α):fU enc (ls++[x])=fU enc ls++enc x:=by unfold fU;rw[flatMap_append];simp
theorem Ua{K V:Type}[DecidableEq K]{hs:List (K×V)}(h:(hs.map Prod.fst).Nodup):∀l:List (K×V),(∀x∈l,x∈hs)->(l.map Prod.fst).filterMap (fun q=>bW hs q)=l.map Prod.snd
 |[],_=>rfl
 |x::l,hl=>by
  rw[map_cons,map_cons,filterMap_cons,xI h (k:=x.1) (v:=x.2) (hl x aF)];exact congrArg (x.2:: ·) (Ua h l (fun y hy=>hl y (mem_cons_of_mem _ hy)))
theorem Ub(p:Nat)(S:aV)(w:World)(h:dJ w p S)(hn:S.ks.length<=65536):
 Calls prog 87 #[.pointer (some ⟨p,0,none⟩)] w fun x w'=>∃v es,x= .returned v/\w'.ownsRow w.heap.size 159 84 v S.ks.length (fU uK es)/\(es.map qg.k).Perm (S.ks.map Prod.snd)/\es.Pairwise (fun x y=>0<=CZ y x)/\X w w':=by
 have a3:=O h;have bS:=h.blk.cell' (aV.nV h.hl h.hf);have am:=O h.ek.nodup;have bz:=O h.kr;obtain⟨b7,aq⟩:=jE (fun x w'=>∃v es,x= .returned v/\w'.ownsRow w.heap.size 159 84 v S.ks.length (fU uK es)/\(es.map qg.k).Perm (S.ks.map Prod.snd)/\es.Pairwise (fun x y=>0<=CZ y x)/\X w w':Ending->World->Prop);rw[<-aq];have bN:=O aq;clear h aq;go_enter func87,ntmps87;go_wp2_with (at_range;refine zZ F 143 29 159 underlying143 _ F F a3.key ?_);intro b5 bi a7 b4;obtain⟨ao,aE⟩:=aB bi a7;clear bi a7 bS;obtain⟨j,bk⟩:=aC w.heap.size;have I:=O (show w.heap.size<=j/\j<b5.heap.size by omega);rw[bk]at ao⊢;clear bk b4;go_wp2_with fail;go_loopw [3] (fun v wr=>∃lf es,gJ eX bC.va wr S.gk j S.ks lf/\lf.Nodup/\es.length+lf.length=S.ks.length/\(es.map (fun x:qg=>x.k)++(lf.filterMap fun q=>bW S.ks q)).Perm (S.ks.map Prod.snd)/\wr.ownsRow (j+1) 159 84 v es.length (fU uK es)/\X w wr) (fun _ wr=>wr.rangeLeft S.gk j)
 case atStart=>
  refine⟨S.ks.map Prod.fst,[],ao,am,aF,?_,⟨F,.inl ⟨F,F⟩⟩,aE⟩;rw[map_nil,nil_append,Ua am.out S.ks (fun _ h=>h)]
 case round=>
  obtain⟨lf,es,ax,bd,a_,bh,own,a6⟩:=hrel;obtain⟨aR,bB,al,aM,E,aa⟩:=iq ax bd a_ bh own a6;have b3:=ax.qL;clear ax bd a_ bh own a6 ao aE;go_wp2_with (at_next;refine z_ F (fun x y h=>xJ h) _ F F aR ?_ ?_)
  ·intro b2;subst b2;have b1:es.length=S.ks.length:=by have:=al.out;simpa using this
   go_wp2_with fail;refine(acu E F J).mono ?_;rintro b8 w2 ⟨rfl,bX,be,bl,bm,a8⟩;obtain⟨ab,ad,bE,bO⟩:=bU (aa.grown a8 (fun q u=>by have:=(E.lt q u).1;have:=I.out;omega)) bm be bl;clear bm a8 be bl E aa;go_wp2_with fail
   (try go_ret)
   rw[bN.out];refine⟨_,bX,F,?_,?_,bO,ab⟩
   ·rw[<-b1];exact mg ad (by have:=I.out;omega)
   ·have:=aM.out;simp only[filterMap_nil,append_nil]at this;exact(bE.map _).trans this
  ·intro x k w2 lf2 av aw bc bj az ba;obtain⟨bA,a0,an,aL⟩:=bU (Au bB aw) bj bc (bz _ av);have ac:=O (bC.len aL);obtain⟨R,ar⟩:=jE (⟨k,aL⟩:qg);obtain⟨bx,bw⟩:=aB (show uK R=k.v by rw[ar];rfl) (show R.k=k by rw[ar]);clear ar;obtain⟨bL,bv,ab,ad⟩:=bU aw (xI am av) (az.ext aa I.1) (um E (qC az) (fun g b0=>by have:=(E.lt g b0).1;simp;omega));rw[show bC.va k= .agg k.v.toArray from F]at ba⊢;clear av aw bj az aR bc E aa;go_wp2_with (refine bg F _ (.tmp 5) _ F F F (ah.aI (vs:=bC.zero.v) F F) pX (bC.len bC.vk) ac (yT k) ?_);intro aD a5 bp;have ae:X w2 aD:=bp.ext ((X.refl _).alloc _) bG;obtain⟨br,bt,a4,a1⟩:=bU a5 (ab.ext ae) (dQ ad ae) (a0.ext ae);have cb:=a1.lt;clear a5 bp ae ba ad a0 ab;generalize w2.heap.size=b9 at*;have ca:es.length+1<=65536:=by have:=al.out;have:=an.out;omega
   go_wp2_with (first|(refine bV F 159 (.tmp 5) F F br pX ac ?_)|(refine Cc T_ aX F F F ac ?_)|(refine qB T_ F _ _ F (j+1) (m:=1) (news:=k.v) F F (dQ a4 ((X.refl _).alloc _)) (by rw[ac.out]) bG (by intro h;cases h) (aK.eG (ah.aI (vs:=k.v) F F)) (yT k) J J (by rw[gU];omega) ?_));intro b6 bq bo ap _;have af:X aD (World.alloc aD (.cells k.v.toArray 159)):=(X.refl _).alloc _;have ai:=dQ a4 af;have bu:Hid (X w bq):=O ((bt.ext af).grown ap (fun q u=>by have:=(ai.lt q u).1;have:=I.out;omega));obtain⟨a2,bR⟩:=aB ((a1.ext af).grown ap (fun u=>by have a9:=(ai.lt _ u.symm).1;have ag:=a3.key.lt;have b':=I.out;omega) (fun u=>by have:=(ai.lt j u.symm).1;omega)) (show bq.ownsRow (j+1) 159 84 b6 (es++[R]).length (fU uK (es++[R])) by rw[ML,length_append,bx.out];exact bo);clear bo ap af ai;go_wp2_with fail;go_roundw
   case rel=>
    refine⟨lf2,es++[R],a2,bA.2,?_,?_,bR,bu⟩
    ·rw[length_append,length_singleton];have:=al.out;have:=an.out;omega
    ·have a9:=aM.out;refine List.Perm.trans ?_ a9;rw[map_append,append_assoc];refine List.Perm.append_left _ ?_;have ag:=(bL.filterMap (fun q=>bW S.ks q)).symm;rw[filterMap_cons,bv.out]at ag;rw[<-bw.out]at ag;exact ag
   case measure=>rw[a2.qL,b3,an.out];omega
end
section
open Go Go.RowKit Go.Shelf Go.Sort
structure mY where
 m:lJ
 h:m.id.length=16
instance:Inhabited mY:=⟨⟨lJ.zero,F⟩⟩
def qh(x:mY):aO:=x.m.v
theorem EZ(x:mY):(qh x).length=17:=by unfold qh lJ.v;simp[x.h]
theorem MN(x:mY):∀v∈qh x,v.oneCell'=true:=by
 intro v j;unfold qh lJ.v at j;rcases mem_append.1 j with h|h
 ·exact b_ _ v h
 ·rw[mem_singleton.1 h];rfl
def C9(x y:mY):Int:=eH x.m.id y.m.id
theorem acv:Sort.SWO (ltOf C9) where
 irrefl x:=Ju x.m.id
 trans x y z h1 h2:=FT h1 h2
 ntrans x y z h1 h2:=Jv h1 h2
theorem Uc:iH prog 228 17:=⟨⟨_,underlying228,F⟩,au⟩
theorem lJ.MO{m:lJ}(h:m.id.length=16):(m.v.drop 0).take 16=m.id.map Y:=by
 unfold lJ.v;rw[drop_zero,take_left' (by rw[length_map,h])]
theorem acw(x y:mY)(w:World):Calls prog 197 #[.agg (qh x).toArray,.agg (qh y).toArray] w fun e w'=>e= .returned (.int .i64 (C9 x y))/\iT w w':=by
 obtain⟨hc,ac,ad,ag,ai⟩:=dM (fun w=>Gg x.m.id y.m.id w x.h y.h) (lJ.MO x.h) (lJ.MO y.h) (show(x.m.id.map Y).length=16 by rw[length_map];exact x.h) (show(y.m.id.map Y).length=16 by rw[length_map];exact y.h);go_enter func197,ntmps197;go_upto_region 1 with(fail);generalize j:World.alloc (World.alloc w _) _=u;have I:ah u w.heap.size x.m.v 228:=by rw[<-j];exact(ah.aI F F).alloc _
 have R:ah u (w.heap.size+1) y.m.v 228:=by rw[<-j];exact ah.aI aF F
 have ab:Hid (iT w u):=by rw[<-j];exact O (((iT.refl w).alloc _).alloc _)
 obtain⟨ae,af⟩:=aB I R;clear j I R;go_wp2_with (first|(refine bF F (bQ F F (dF ae ac) dh ag) ?_)|(refine bF F (bQ F F (dF af ad) dh ai) ?_));refine(hc u).mono ?_;rintro e w' ⟨rfl,E⟩;have aa:=O (ab.trans E);clear E;go_wp2_with fail;go_ret;exact⟨F,aa⟩
theorem acy:∀j w,(callFunc 197 j).run prog w= .ok (.enter 197 j) w:=enters_of func197 au F
theorem acz{w:World}{B n:Nat}{v:Value}{ls:List mY}(own:w.ownsRow B 228 17 v n (fU qh ls))(hn:ls.length=n)(j:n<4611686018427387904):
 Calls prog 196 #[v,.func (.func 197) #[] #[]] w fun x w'=>x= .returned (.tuple #[])/\∃es,es.Perm ls/\es.Pairwise (fun x y=>¬C9 y x<0)/\w'.ownsRow B 228 17 v n (fU qh es)/\w.grownBy w' v.ownBlock:=
 MI acd isAgg228 sizeOf228 EZ MN C9 acv _ acw acy own hn j
theorem Ud:pO prog 225 228 17 40:=⟨underlying225,⟨_,_,(info_parts EX).choose_spec.1,(info_parts EX).choose_spec.2.1,(info_parts EX).choose_spec.2.2.1,(info_parts EX).choose_spec.2.2.2,F⟩,aX⟩
theorem MP:pO prog 98 9 1 16:=⟨underlying98,⟨_,_,(info_parts (show(prog.info? 9).map (fun i=>(i.zero,i.size,i.bytes))=some (some (.string ⟨#[]⟩),1,16) by kernel_rfl)).choose_spec.1,(info_parts (show(prog.info? 9).map (fun i=>(i.zero,i.size,i.bytes))=some (some (.string ⟨#[]⟩),1,16) by kernel_rfl)).choose_spec.2.1,(info_parts (show(prog.info? 9).map (fun i=>(i.zero,i.size,i.bytes))=some (some (.string ⟨#[]⟩),1,16) by kernel_rfl)).choose_spec.2.2.1,(info_parts (show(prog.info? 9).map (fun i=>(i.zero,i.size,i.bytes))=some (some (.string ⟨#[]⟩),1,16) by kernel_rfl)).choose_spec.2.2.2,F⟩,aX⟩
theorem acA(xs:aO)(a:aN)(n c:Nat)(w:World)(u:xs.length=n)(hn:n<=1000)(al:n<=c)(E:∀v∈xs,v.oneCell'=true)(j:aK w a xs):
 Calls prog 119 #[.slice a n c] w fun e w'=>∃v,e= .returned v/\w'.ownsRow w.heap.size 9 1 v n xs/\X w w':=by
 obtain⟨ac,ad,ab,af⟩:=bU j u E MP;have ao:∀(w:World) (a:aN) (n c n' c':Nat),(binOp .eql 98 (.slice a n c) (.slice none n' c')).run prog w= .ok (.bool a.isNone) w:=fun w a n c n' c'=>Lib.run_eql_slice_nil w _ _ a n c n' c' underlying98;cases a with
 |none=>
  have an:xs=[]:=by
   rcases j with h|⟨_,_,h,_⟩
   ·exact h
   ·cases h
  subst an;have ai:n=0:=u.symm;subst ai;clear u E j;go_enter func119,ntmps119;go_wp2;go_ret;exact⟨_,F,⟨F,.inl ⟨F,F⟩⟩,X.refl _⟩
 |some A=>
  clear u E j;go_enter func119,ntmps119;go_wp2_with (refine qB (n:=0) (m:=n) (c:=c) (xs:=[]) (news:=xs) af F _ _ F w.heap.size F F (World.ownsRow_made w #[] 0 bG (Nat.zero_le _) aF) (by have:=ad.out;omega) al (fun h=>by cases h) (ac.ext ((X.refl w).alloc _)) ab J J (by rw[gU];omega) ?_);intro v' aa R I am;have ag:X w aa:=((X.refl w).alloc _).grown I (by intro k hk;simp[Value.ownBlock]at hk;omega);have ae:Hid (aa.ownsRow w.heap.size 9 1 v' n xs):=O (by simpa using R);clear I R am;go_wp2;go_ret;exact⟨v',F,ae,ag⟩
def mY.Own(w:World)(B:Nat)(x:mY):Prop:=w.ownsRow B 9 1 x.m.r.v x.m.r.n (x.m.r.l.map bM)
def mY.p(x:mY):aj×aT:=(x.m.id,x.m.r.l)
theorem MQ{K V U:Type}[DecidableEq K](f:V->U){hs:List (K×V)}(h:(hs.map Prod.fst).Nodup):∀l:List (K×V),(∀x∈l,x∈hs)->(l.map Prod.fst).filterMap (fun q=>(bW hs q).map fun v=>(q,f v))=l.map fun x=>(x.1,f x.2)
 |[],_=>rfl
 |x::l,hl=>by
  rw[map_cons,map_cons,filterMap_cons,xI h (k:=x.1) (v:=x.2) (hl x aF)];exact congrArg ((x.1,f x.2):: ·) (MQ f h l (fun y hy=>hl y (mem_cons_of_mem _ hy)))
theorem acB(p:Nat)(S:aV)(w:World)(h:dJ w p S)(hn:S.ms.length<=65536):
 Calls prog 143 #[.pointer (some ⟨p,0,none⟩)] w fun x w'=>∃v es,x= .returned v/\w'.ownsRow w.heap.size 228 17 v S.ms.length (fU qh es)/\(es.map mY.p).Perm S.p.ms/\es.Pairwise (fun x y=>0<=C9 y x)/\(∀x∈es,x.Own w' w.heap.size/\x.m.r.n<=16/\∀s∈x.m.r.l,s.size<=32)/\X w w':=by
 have bO:=O h;have cv:=h.blk.cell' (aV.mD h.hl h.hf);have aM:=O h.em.nodup;have ci:=O h.em.good;have bw:=O h.mr;obtain⟨cG,bc⟩:=jE (fun x w'=>∃v es,x= .returned v/\w'.ownsRow w.heap.size 228 17 v S.ms.length (fU qh es)/\(es.map mY.p).Perm S.p.ms/\es.Pairwise (fun x y=>0<=C9 y x)/\(∀x∈es,x.Own w' w.heap.size/\x.m.r.n<=16/\∀s∈x.m.r.l,s.size<=32)/\X w w':Ending->World->Prop);rw[<-bc];have cq:=O bc;clear h bc;go_enter func143,ntmps143;go_wp2_with (at_range;refine zZ F 142 29 98 underlying142 _ F F bO.mem ?_);intro cE b' b1 cC;obtain⟨a4,bt⟩:=aB b' b1;clear b' b1 cv;obtain⟨j,cb⟩:=aC w.heap.size;have ad:=O (show w.heap.size<=j/\j<cE.heap.size by omega);rw[cb]at a4⊢;clear cb cC;go_wp2_with fail;go_loopw [3] (fun v wr=>∃lf es,gJ eX iF.v wr S.gm j S.ms lf/\lf.Nodup/\es.length+lf.length=S.ms.length/\(es.map mY.p++(lf.filterMap fun q=>(bW S.ms q).map fun v=>(q,v.l))).Perm S.p.ms/\wr.ownsRow (j+1) 228 17 v es.length (fU qh es)/\(∀x∈es,x.Own wr (j+1)/\x.m.r.n<=16/\∀s∈x.m.r.l,s.size<=32)/\X w wr) (fun _ wr=>wr.rangeLeft S.gm j)
 case atStart=>
  refine⟨S.ms.map Prod.fst,[],a4,aM,aF,?_,⟨F,.inl ⟨F,F⟩⟩,aF,bt⟩;rw[map_nil,nil_append,MQ (fun v:iF=>v.l) aM.out S.ms (fun _ h=>h)];exact List.Perm.refl _
 case round=>
  obtain⟨lf,es,bl,b7,b3,b9,own,b8,b0⟩:=hrel;obtain⟨a5,cl,aL,bz,R,af,am⟩:=su bl b7 b3 b9 own b8 b0;have cB:=bl.qL;clear bl b7 b3 b9 own b8 b0 a4 bt;go_wp2_with (at_next;refine z_ F (fun x y h=>xJ h) _ F F a5 ?_ ?_)
  ·intro cz;subst cz;have cy:es.length=S.ms.length:=by have:=aL.out;simpa using this
   go_wp2_with fail;refine(acz R F J).mono ?_;rintro cw w2 ⟨rfl,b2,bj,cc,cd,ba⟩;obtain⟨av,ax,cn,cs⟩:=bU (am.grown ba (fun q ab=>by have:=(R.lt q ab).1;have:=ad.out;omega)) cd bj cc;have ae:=O (show∀x∈b2,x.Own w2 (j+1)/\x.m.r.n<=16/\∀s∈x.m.r.l,s.size<=32 from fun x hx=>by
    have aa:=af.out x (bj.mem_iff.1 hx);exact⟨(nP.yL R aa.1 aX).keep aa.1 ba,aa.2⟩)
   clear cd ba bj cc R am af;go_wp2_with fail
   (try go_ret)
   rw[cq.out];refine⟨_,b2,F,?_,?_,cs,fun x hx=>⟨mg (ae x hx).1 (by have:=ad.out;omega),(ae x hx).2⟩,av⟩
   ·rw[<-cy];exact mg ax (by have:=ad.out;omega)
   ·have:=bz.out;simp only[filterMap_nil,append_nil]at this;exact(cn.map _).trans this
  ·intro id r w2 lf2 ao bk b6 ca aq b4;obtain⟨ck,bB,a0,aR⟩:=bU (Au cl bk) ca b6 (show id.length=16 from ci _ ao);obtain⟨bu,bL,co,cj,av,bN,ax,ae⟩:=jg (show(id.map Y).length=16 by rw[length_map];exact aR) ((bw _ ao)) bk (xI aM ao) (aq.ext am ad.1) (show r.Hi w2 (p+1)from((bw _ ao).ext am).fF aq.fF (.inr (CW a5))) (um R (qC aq) (fun g be=>by have:=(R.lt g be).1;simp;omega)) (show∀x∈es,x.Own w2 (j+1)/\x.m.r.n<=16/\∀s∈x.m.r.l,s.size<=32 from fun x hx=>⟨um (af x hx).1 (qC aq) (fun g be=>by have:=((af x hx).1.lt g be).1;simp;omega),(af x hx).2⟩);rw[show iF.v r= .slice r.a r.n r.c from F]at b4⊢;clear ao bk ca aq a5 b6 R am af;go_upto_region 5 with(refine bg F _ (.tmp 4) _ F F F (ah.aI (vs:=List.replicate 16 (.int .u8 0)) F F) dh aF bu (b_ id) ?_);intro ar bX cg;have ag:X w2 ar:=cg.ext ((X.refl _).alloc _) bG;obtain⟨bq,aE,bR,a2,a6,bA⟩:=iq bX (av.ext ag) (dQ ax ag) (show∀x∈es,x.Own ar (j+1)/\x.m.r.n<=16/\∀s∈x.m.r.l,s.size<=32 from fun x hx=>⟨dQ (ae x hx).1 ag,(ae x hx).2⟩) (bB.ext ag) (bN.ext ag);have cr:=O a6.lt;clear bX cg ag b4 ax bB av ae bN;generalize w2.heap.size=g4 at*;go_upto_region 5 with fail;obtain⟨C,I,aJ⟩:=jJ ar;have bP:C ar:=(I _).2 (X.refl _);have cI:es.length+1<=65536:=by have:=aL.out;have:=a0.out;omega
   refine jQ (W:=[6]) fun Z=> ?_;refine bK 0 ?_;refine k_ 1 F (oC F 29 _ F F (fun bo h=>bq.ext ((I bo).1 h)) dh bu) ?_;refine bK 2 ?_;refine fC 3 ?_;generalize World.drew ar=al at Z⊢;have aw:=O (bA.ext ((I al).1 Z));intro an E;go_wp2_with fail;refine(acA (r.l.map bM) r.a r.n r.c al (by rw[length_map];exact aw.hl) (by have:=aw.n16;omega) aw.nc (fun v cD=>by obtain⟨s,_,rfl⟩:=mem_map.1 cD;rfl) aw.cell.cells).mono ?_;rintro cw ac ⟨v,rfl,bm,u⟩;have bd:=aJ _ _ Z u;obtain⟨a9,a_,rfl,cJ, -, -⟩:=iJ bm;have bS:=O bm;have cx:w.heap.size<=al.heap.size:=(aE.ext ((I al).1 Z)).size;have b5:j+1<=al.heap.size:=by have aa:=((I al).1 Z).size;have aD:=cr.out;omega
   go_wp2_with fail;refine E _ _ bd ?_;clear E an Z bm u;have Z:=bd;clear bd;refine aH ?_;refine FW 4 F (bf F (fun bo _=>ach (x:=id) (sa:=a9) (sn:=r.n) (sc:=a_) (l:=r.l) F F F aR bo)) ?_;obtain⟨mk,bi⟩:=jE (⟨⟨id,⟨a9,r.n,a_,r.l⟩⟩,aR⟩:mY);rw[show lJ.v ⟨id,⟨a9,r.n,a_,r.l⟩⟩=qh mk by rw[bi];rfl];obtain⟨bv,a1⟩:=aB (EZ mk) bi;clear bi;refine fC 5 ?_;intro an E;go_wp2_with (refine Cc Ud aX F F F bv ?_);refine E _ _ (aJ _ _ Z ((X.refl ac).alloc _)) ?_;clear E an;have u:=(I ac).1 Z;have cf:=dQ bR u;obtain⟨br,a7,a3,bx,a8⟩:=dM (aE.ext u) (a6.ext u) (show∀x∈es,x.Own ac (j+1)/\x.m.r.n<=16/\∀s∈x.m.r.l,s.size<=32 from fun x hx=>⟨dQ (a2 x hx).1 u,(a2 x hx).2⟩) (mg bS b5) cf;clear u cf Z bS b5 cx aE bR a6 a2 bA bq I aJ bP;refine aH ?_;refine iU 6 ?_;intro an E;go_wp2_with (refine qB Ud F _ _ F (j+1) (m:=1) (news:=qh mk) F F (dQ a8 ((X.refl _).alloc _)) (by rw[bv.out]) bG (by intro h;cases h) (aK.eG (ah.aI (vs:=qh mk) F F)) (MN mk) J J (by have:=a7.lt;rw[gU];omega) ?_);intro cF bp ce az _;refine E _ _ trivial ?_;clear E an;refine aH ?_;refine bK 7 ?_;refine jR ?_;have ai:X ac (World.alloc ac (.cells (qh mk).toArray 228)):=(X.refl _).alloc _;have ap:=dQ a8 ai;obtain⟨ch,bE⟩:=aB ((br.ext ai).grown az (fun q ab=>by have:=(ap.lt q ab).1;have:=ad.out;omega)) ((a7.ext ai).grown az (fun ab=>by have aa:=(ap.lt _ ab.symm).1;have aD:=bO.mem.lt;have cH:=ad.out;omega) (fun ab=>by have:=(ap.lt j ab.symm).1;omega));have bh:∀x:mY,x.Own ac (j+1)->x.Own bp (j+1):=fun x hx=>(nP.yL ap (dQ hx ai) aX).keep (dQ hx ai) az;have cm:=O (show∀x∈es++[mk],x.Own bp (j+1)/\x.m.r.n<=16/\∀s∈x.m.r.l,s.size<=32 from fun x hx=>by
    rcases mem_append.1 hx with hx|hx
    ·exact⟨bh x (a3 x hx).1,(a3 x hx).2⟩
    ·rw[mem_singleton.1 hx];have cA:mk.Own ac (j+1):=by rw[a1.out];exact bx
     refine⟨bh mk cA,?_⟩;rw[a1.out];exact⟨bL.n16,bL.sz⟩)
   obtain⟨ct,cp⟩:=aB (show bp.ownsRow (j+1) 228 17 cF (es++[mk]).length (fU qh (es++[mk])) by rw[ML,length_append];exact ce) (show mk.p=(id,r.l) by rw[a1.out];rfl);clear ce az ai ap bh a3 a7 br a8 bx;go_wp2_with fail;go_roundw
   case rel=>
    refine⟨lf2,es++[mk],bE,ck.2,?_,?_,ct,cm,ch⟩
    ·rw[length_append,length_singleton];have:=aL.out;have:=a0.out;omega
    ·have aa:=bz.out;refine List.Perm.trans ?_ aa;rw[map_append,append_assoc];refine List.Perm.append_left _ ?_;have aD:=(co.filterMap (fun q=>(bW S.ms q).map fun v=>(q,v.l))).symm;rw[filterMap_cons,cj.out]at aD;rw[map_singleton,cp.out];exact aD
   case measure=>rw[bE.qL,cB,a0.out];omega
end
section
open Go Go.RowKit
section
variable {P:Program} {ops:Array Oper} {rest:List Oper} {o:Oper} {a:Act} {w:World} {Q:Exit->Act->World->Prop}
theorem acC{g off:Nat}{vs:aO}{v:Value}{T ty:TypeId}(hb:ah w g vs T)(hs:(P.info? ty).map (·.size)=some 1)(hc:v.cells= #[v])(hn:off<vs.length)(E:v.oneCell'=true):
 (storeVar ty ⟨g,off,none⟩ v).run P w= .ok () (w.setRow g (fV vs off [v]).toArray):=by
 have u:=run_storeCells_at P g off T [v] 0 vs.toArray w hb (by simp;omega) (by simpa using E);cases j:P.info? ty with
 |none=>simp[j]at hs
 |some i=>
  have I:i.size=1:=by simpa[j]using hs
  simp only[Nat.add_zero,toList_toArray]at u;simp[storeVar,sizeOf,typeInfo,j,hc,I,u,fV]
theorem acD{vs:aO}{off:Nat}{v:Value}(h:off<vs.length):fV vs off [v]=vs.set off v:=by
 unfold fV;rw[set_eq_take_append_cons_drop,if_pos h];simp
theorem kY(E:o.guard=none)(ty:TypeId)(x y:Operand)(I:o.op= .store ty x y){g off:Nat}{vs:aO}{v:Value}{T:TypeId}
 (R:a.eval x= .pointer (some ⟨g,off,none⟩))(aa:a.eval y=v)(hb:ah w g vs T)(hs:(P.info? ty).map (·.size)=some 1)(hc:v.cells= #[v])(hn:off<vs.length)(j:v.oneCell'=true)
 (h:∀w',ah w' g (vs.set off v) T->aU w g w'->wpList P ops Q rest (a.put o.dst undef) w'):wpList P ops Q (o::rest) a w:=
 wpList_plain E fun K u=>by
  unfold Oper.wp execOp;simp only[I,R,aa,Instr.storeAt,Instr.sureAddr,Sem.run_bind,Sem.run_pure,Result.andThen_ok,acC hb hs hc hn j];refine u _ _ (h _ ?_ (aU.setRow _));rw[<-acD hn];exact hb.setRow _
end
theorem uM:(prog.info? 3).map (·.size)=some 1:=au
theorem IJ:(prog.info? 98).map (·.size)=some 1:=au
theorem Ue:(prog.info? 99).map (·.size)=some 1:=au
structure jD where
 wait:Int
 act:Int
 bI:Int
 key:Int
 n:Int
 m:Int
def jD.v(a:jD):aO:=[.int .i64 a.wait,.int .i64 a.act,.int .i64 a.bI,.int .i64 a.key,.int .i64 a.n,.int .i64 a.m]
theorem C_:iH prog 103 6:=⟨⟨_,underlying103,F⟩,au⟩
theorem Uf(a:jD):∀v∈a.v,v.oneCell'=true:=by
 intro v j;unfold jD.v at j;simp only[mem_cons,not_mem_nil,or_false]at j;rcases j with rfl|rfl|rfl|rfl|rfl|rfl<;>rfl
structure eF(w0:World)(g3 g4 g5 g6:Nat)(a:jD)(k:bC)(hb:aN)(hn hc:Nat)(hs:List (aj))(w:World):Prop where
 ex:X w0 w
 b3:ah w g3 a.v 103
 b4:ah w g4 dI.v 101
 n4:g4<g5
 Ug:w0.heap.size<=g4
 b6:ah w g6 k.v 159
 ok:k.Ok
 hl:hs.length=hn
 hnc:hn<=hc
 h3:hn<=3
 h16:oP hs
 hcell:bJ w (g5+1) hb (dB hs)
 ge:w0.heap.size<=g5
 bo:∃b:ay,b.Fit/\bJ w (g5+1) b.ra (b.roles.map bM)/\bJ w (g5+1) b.ha (dB b.bH)/\ah w g5 b.v 101
section
variable {w0 w w':World} {g3 g4 g5 g6:Nat} {a:jD} {k:bC} {hb:aN} {hn hc:Nat} {hs:List (aj)}
theorem eF.ext(h:eF w0 g3 g4 g5 g6 a k hb hn hc hs w)(e:X w w'):eF w0 g3 g4 g5 g6 a k hb hn hc hs w':=by
 obtain⟨b,j,u,E,I⟩:=h.bo;exact{h with ex:=h.ex.ext e,b3:=h.b3.ext e,b4:=h.b4.ext e,b6:=h.b6.ext e,hcell:=h.hcell.ext e,bo:=⟨b,j,u.ext e,E.ext e,I.ext e⟩}
theorem eF.ne3(h:eF w0 g3 g4 g5 g6 a k hb hn hc hs w):g3≠g5:=by
 intro e;subst e;obtain⟨b,_,_,_,u⟩:=h.bo;have j:=h.b3;unfold ah at u j;rw[u]at j;injection j with j;injection j with _ j _;exact absurd j aX
theorem eF.ne6(h:eF w0 g3 g4 g5 g6 a k hb hn hc hs w):g6≠g5:=by
 intro e;subst e;obtain⟨b,_,_,_,u⟩:=h.bo;have j:=h.b6;unfold ah at u j;rw[u]at j;injection j with j;injection j with _ j _;exact absurd j aX
theorem eF.store(h:eF w0 g3 g4 g5 g6 a k hb hn hc hs w)(u:aU w g5 w'){b:ay}(hf:b.Fit)(I:bJ w (g5+1) b.ra (b.roles.map bM))(E:bJ w (g5+1) b.ha (dB b.bH))(j:ah w' g5 b.v 101):eF w0 g3 g4 g5 g6 a k hb hn hc hs w':=
 {h with ex:=u.ext h.ex h.ge,b3:=h.b3.upd u h.ne3,b4:=h.b4.upd u (Nat.ne_of_lt h.n4),b6:=h.b6.upd u h.ne6,hcell:=h.hcell.upd u (Nat.lt_succ_self _),bo:=⟨b,hf,I.upd u (Nat.lt_succ_self _),E.upd u (Nat.lt_succ_self _),j⟩}
variable {bb:ay}
theorem eF.E5(h:eF w0 g3 g4 g5 g6 a k hb hn hc hs w)(u:aU w g5 w')(hf:bb.Fit)(I:bJ w (g5+1) bb.ra (bb.roles.map bM))(E:bJ w (g5+1) bb.ha (dB bb.bH)){n:Int}(j:ah w' g5 (bb.v.set 51 (.int .i64 n)) 101):eF w0 g3 g4 g5 g6 a k hb hn hc hs w':=by
 rw[ay.D6 bb _ hf.hm hf.hcm]at j;exact h.store u (b:={bb with epoch:=n}) {hf with} I E j
theorem eF.acE(h:eF w0 g3 g4 g5 g6 a k hb hn hc hs w)(u:aU w g5 w')(hf:bb.Fit)(I:bJ w (g5+1) bb.ra (bb.roles.map bM))(E:bJ w (g5+1) bb.ha (dB bb.bH)){n:Int}(j:ah w' g5 (bb.v.set 52 (.int .i64 n)) 101):eF w0 g3 g4 g5 g6 a k hb hn hc hs w':=by
 rw[ay.JY bb _ hf.hm hf.hcm]at j;exact h.store u (b:={bb with purpose:=n}) {hf with} I E j
theorem eF.acF(h:eF w0 g3 g4 g5 g6 a k hb hn hc hs w)(u:aU w g5 w')(hf:bb.Fit)(I:bJ w (g5+1) bb.ra (bb.roles.map bM))(E:bJ w (g5+1) bb.ha (dB bb.bH)){n:Int}(j:ah w' g5 (bb.v.set 53 (.int .i64 n)) 101):eF w0 g3 g4 g5 g6 a k hb hn hc hs w':=by
 rw[ay.JZ bb _ hf.hm hf.hcm]at j;exact h.store u (b:={bb with reason:=n}) {hf with} I E j
theorem eF.acG(h:eF w0 g3 g4 g5 g6 a k hb hn hc hs w)(u:aU w g5 w')(hf:bb.Fit)(I:bJ w (g5+1) bb.ra (bb.roles.map bM))(E:bJ w (g5+1) bb.ha (dB bb.bH)){n:Int}(j:ah w' g5 (bb.v.set 54 (.int .i64 n)) 101):eF w0 g3 g4 g5 g6 a k hb hn hc hs w':=by
 rw[ay.J3 bb _ hf.hm hf.hcm]at j;exact h.store u (b:={bb with need:=n}) {hf with} I E j
theorem eF.Uh(h:eF w0 g3 g4 g5 g6 a k hb hn hc hs w)(u:aU w g5 w')(hf:bb.Fit)(I:bJ w (g5+1) bb.ra (bb.roles.map bM))(E:bJ w (g5+1) bb.ha (dB bb.bH)){n:Int}(j:ah w' g5 (bb.v.set 55 (.int .i64 n)) 101):eF w0 g3 g4 g5 g6 a k hb hn hc hs w':=by
 rw[ay.J4 bb _ hf.hm hf.hcm]at j;exact h.store u (b:={bb with version:=n}) {hf with} I E j
theorem eF.acH(h:eF w0 g3 g4 g5 g6 a k hb hn hc hs w)(u:aU w g5 w')(hf:bb.Fit)(I:bJ w (g5+1) bb.ra (bb.roles.map bM))(E:bJ w (g5+1) bb.ha (dB bb.bH)){n:Int}(j:ah w' g5 (bb.v.set 56 (.int .i64 n)) 101):eF w0 g3 g4 g5 g6 a k hb hn hc hs w':=by
 rw[ay.J5 bb _ hf.hm hf.hcm]at j;exact h.store u (b:={bb with count:=n}) {hf with} I E j
theorem eF.st0(h:eF w0 g3 g4 g5 g6 a k hb hn hc hs w)(u:aU w g5 w')(hf:bb.Fit)(I:bJ w (g5+1) bb.ra (bb.roles.map bM))(E:bJ w (g5+1) bb.ha (dB bb.bH)){s:ByteArray}(j:ah w' g5 (bb.v.set 0 (.string s)) 101)(R:s.size<=140737488355328):eF w0 g3 g4 g5 g6 a k hb hn hc hs w':=
 h.store u (b:={bb with text:=s}) {hf with ts:=R} I E j
theorem eF.MR(h:eF w0 g3 g4 g5 g6 a k hb hn hc hs w)(u:aU w g5 w')(hf:bb.Fit)(I:bJ w (g5+1) bb.ra (bb.roles.map bM))(E:bJ w (g5+1) bb.ha (dB bb.bH)){s:ByteArray}(j:ah w' g5 (bb.v.set 18 (.string s)) 101)(R:s.size<=140737488355328):eF w0 g3 g4 g5 g6 a k hb hn hc hs w':=by
 rw[ay.D5 bb _ hf.hm]at j;exact h.store u (b:={bb with label:=s}) {hf with ls:=R} I E j
theorem eF.Ui(h:eF w0 g3 g4 g5 g6 a k hb hn hc hs w)(u:aU w g5 w')(hf:bb.Fit)(E:bJ w (g5+1) bb.ra (bb.roles.map bM))(j:ah w' g5 (bb.v.set 57 (.slice hb hn hc)) 101):eF w0 g3 g4 g5 g6 a k hb hn hc hs w':=by
 rw[ay.J6 bb _ _ _ hs hf.hm hf.hcm]at j;exact h.store u (b:={bb with ha:=hb,hn:=hn,hc:=hc,bH:=hs}) {hf with hl:=h.hl,hnc:=h.hnc,vZ:=(show hn<=256 from Nat.le_trans h.h3 J),h16:=h.h16} E h.hcell j
theorem eF.IK(h:eF w0 g3 g4 g5 g6 a k hb hn hc hs w)(u:aU w g5 w')(hf:bb.Fit)(ac:bJ w (g5+1) bb.ha (dB bb.bH)){ra:aN}{rn rc:Nat}(rs:aT)(j:ah w' g5 (bb.v.set 17 (.slice ra rn rc)) 101)(E:rs.length=rn)(I:rn<=rc)(R:rn<=256)(aa:∀s∈rs,s.size<=140737488355328)(ab:bJ w (g5+1) ra (rs.map bM)):eF w0 g3 g4 g5 g6 a k hb hn hc hs w':=by
 rw[ay.DZ bb _ _ _ rs hf.hm]at j;exact h.store u (b:={bb with ra:=ra,rn:=rn,rc:=rc,roles:=rs}) {hf with rl:=E,qZ:=I,rm:=R,rs:=aa} ab ac j
theorem eF.x9(h:eF w0 g3 g4 g5 g6 a k hb hn hc hs w)(u:aU w g5 w')(hf:bb.Fit)(R:bJ w (g5+1) bb.ra (bb.roles.map bM))(I:bJ w (g5+1) bb.ha (dB bb.bH)){x:aj}(j:ah w' g5 (fV bb.v 19 (x.map Y)) 101)(E:x.length=32):eF w0 g3 g4 g5 g6 a k hb hn hc hs w':=by
 rw[ay.Gn bb _ hf.hm hf.hcm E]at j;exact h.store u (b:={bb with commit:=x}) {hf with hcm:=E} R I j
theorem eF.st1(h:eF w0 g3 g4 g5 g6 a k hb hn hc hs w)(u:aU w g5 w')(hf:bb.Fit)(R:bJ w (g5+1) bb.ra (bb.roles.map bM))(I:bJ w (g5+1) bb.ha (dB bb.bH)){x:aj}(j:ah w' g5 (fV bb.v 1 (x.map Y)) 101)(E:x.length=16):eF w0 g3 g4 g5 g6 a k hb hn hc hs w':=by
 rw[ay.JX bb _ hf.hm E]at j;exact h.store u (b:={bb with member:=x}) {hf with hm:=E} R I j
end
def E8:aT:=[⟨#[97,108,108,111,119,10]⟩,⟨#[97,108,108,111,119,32,114,111,108,101,32,97,100,109,105,110,10,97,108,108,111,119,32,114,111,108,101,32,117,115,101,114,32,97,99,116,32,117,115,101,32,97,112,112,114,111,118,101,32,111,110,32,97,112,112,42,10]⟩,⟨#[97,108,108,111,119,32,114,111,108,101,32,97,100,109,105,110,32,110,101,101,100,32,49,32,117,115,101,114,10,97,108,108,111,119,32,114,111,108,101,32,117,115,101,114,32,97,99,116,32,117,115,101,10,100,101,110,121,32,97,99,116,32,114,101,118,111,107,101,32,97,116,32,48,45,54,10]⟩,⟨#[97,108,108,111,119,32,114,111,108,101,32,97,100,109,105,110,32,97,99,116,32,112,111,108,105,99,121,32,101,110,114,111,108,108,32,100,105,115,109,105,115,115,32,99,114,101,97,116,101,32,110,101,101,100,32,50,32,117,115,101,114,10,97,108,108,111,119,32,97,99,116,32,114,111,116,97,116,101,32,117,115,101,32,101,115,99,114,111,119,32,114,101,99,111,118,101,114,32,98,97,99,107,117,112,32,111,110,32,97,112,112,42,32,100,98,10,100,101,110,121,32,114,111,108,101,32,117,115,101,114,32,97,99,116,32,114,101,118,111,107,101,10]⟩,⟨#[100,101,110,121,32,97,99,116,32,97,112,112,114,111,118,101,32,114,111,108,101,32,117,115,101,114,10,97,108,108,111,119,32,114,111,108,101,32,97,100,109,105,110,10]⟩,⟨#[97,108,108,111,119,32,97,99,116,32,101,110,114,111,108,108,32,112,111,108,105,99,121,32,99,114,101,97,116,101,32,117,115,101,32,114,111,116,97,116,101,10,97,108,108,111,119,32,97,99,116,32,100,105,115,109,105,115,115,32,114,101,118,111,107,101,32,114,101,115,116,111,114,101,32,110,101,101,100,32,49,32,97,100,109,105,110,10]⟩]
theorem acI:∀s∈E8,s.size<=1000:=by decide+kernel
theorem acJ(w:World):Calls prog 88 #[] w fun x w'=>x= .returned (.slice (some ⟨w.heap.size,0,none⟩) 6 6)/\aK w' (some ⟨w.heap.size,0,none⟩) (E8.map bM)/\X w w':=by
 go_enter func88,ntmps88;go_wp2_with fail;go_ret;exact⟨F,aK.eG (ah.aI (vs:=E8.map bM) F F),(X.refl w).alloc _⟩
theorem acK(x y z:aj)(E:x.length=16)(I:y.length=16)(R:z.length=16)(j:Array Value)(hc:j.size=48):Instr.fill (fun i=>some (i*16,16)) j [(0,.agg (x.map Y).toArray),(1,.agg (y.map Y).toArray),(2,.agg (z.map Y).toArray)]=some (dB [x,y,z]).toArray:=by
 have h:=Great.fill_whole (s:=16) J [.agg (x.map Y).toArray,.agg (y.map Y).toArray,.agg (z.map Y).toArray] j (by intro v u;simp only[mem_cons,not_mem_nil,or_false]at u;rcases u with rfl|rfl|rfl<;>simp[Value.cells,E,I,R]) (by simp[hc]);simpa[Value.cells,dB]using h
theorem acL{ops:Array Oper}{rest:List Oper}{o:Oper}{a:Act}{w:World}{Q:Exit->Act->World->Prop}(aa:o.guard=none){p q r:Operand}{x y z:aj}(ac:o.op= .buildSlice 99 3 #[(0,p),(1,q),(2,r)])(ad:a.eval p= .agg (x.map Y).toArray)(ae:a.eval q= .agg (y.map Y).toArray)(j:a.eval r= .agg (z.map Y).toArray)(af:x.length=16)(ag:y.length=16)(ai:z.length=16)
 (h:wpList prog ops Q rest (a.put o.dst (.slice (some ⟨w.heap.size,0,none⟩) 3 3)) (w.alloc (.cells (dB [x,y,z]).toArray 29))):wpList prog ops Q (o::rest) a w:=by
 obtain⟨am,ab,al,u,an⟩:=info_parts J7;refine wpList_plain aa fun K I=> ?_;have j:(execOp a.eval o).run prog w= .ok (.value (.slice (some ⟨w.heap.size,0,none⟩) 3 3)) (w.alloc (.cells (dB [x,y,z]).toArray 29)):=by
  have h:=run_buildSlice (P:=prog) w 99 29 3 #[(0,.agg (x.map Y).toArray),(1,.agg (y.map Y).toArray),(2,.agg (z.map Y).toArray)] (dB [x,y,z]).toArray am _ underlying99 ab al (by rw[u];omega) (by rw[u];omega) (by rw[u];exact acK x y z af ag ai _ aF);have R:(#[(0,p),(1,q),(2,r)].map fun(p:Nat×Operand)=>(p.1,a.eval p.2))= #[(0,.agg (x.map Y).toArray),(1,.agg (y.map Y).toArray),(2,.agg (z.map Y).toArray)]:=by simp[ad,ae,j]
  unfold execOp;simp only[ac,Sem.run_bind];have E:(Instr.buildSlice 99 3 (#[(0,p),(1,q),(2,r)].map fun(p:Nat×Operand)=>(p.1,a.eval p.2))).run prog w= .ok (.slice (some ⟨w.heap.size,0,none⟩) 3 3) (w.alloc (.cells (dB [x,y,z]).toArray 29)):=by rw[R];exact h
  rw[E];rfl
 unfold Oper.wp;rw[j,Oper.upon_value];exact I _ _ h
theorem bJ.front{w:World}{B:Nat}{a:aN}{xs ys:aO}(h:bJ w B a (xs++ys)):bJ w B a xs:=by
 rcases h with h|⟨b,off,ha,hb,h⟩
 ·exact .inl (append_eq_nil_iff.1 h).1
 ·exact .inr ⟨b,off,ha,hb,fun i u j=>h i u (by rw[List.getElem?_append_left (List.getElem?_eq_some_iff.1 j).1];exact j)⟩
theorem acM(a b:List (aj)):dB (a++b)=dB a++dB b:=by unfold dB;rw[flatten_append,map_append]
theorem bJ.FP{w:World}{B:Nat}{a:aN}{l:List (aj)}(n:Nat)(h:bJ w B a (dB l)):bJ w B a (dB (l.take n)):=by
 rw[<-take_append_drop n l,acM]at h;exact h.front
theorem IL{w:World}{B g:Nat}{xs:aO}{T:TypeId}(h:ah w g xs T)(hb:B<=g):bJ w B (some ⟨g,0,none⟩) xs:=
 .inr ⟨g,0,F,hb,fun i u j=>by rw[Nat.zero_add];exact h.cell' j⟩
end
noncomputable def lK(es:List dW):aj:=es.flatMap fun e=>iZ e.r
noncomputable def rZ(es:List dW):List (aj):=es.map fun e=>dY 1 (iZ e.r)
noncomputable def Az:List dW->Nat->List Int
 |[],_=>[]
 |e::es,b=>((b+(iZ e.r).length:Nat):Int)::Az es (b+(iZ e.r).length)
noncomputable def wV(es:List dW):Int:=match es.getLast? with|none=>0 |some e=>e.time
theorem Uj(es:List dW)(e:dW):lK (es++[e])=lK es++iZ e.r:=by unfold lK;rw[flatMap_append];simp
theorem acN(es:List dW)(e:dW):rZ (es++[e])=rZ es++[dY 1 (iZ e.r)]:=by unfold rZ;rw[map_append];rfl
theorem acO(es:List dW)(e:dW):wV (es++[e])=e.time:=by unfold wV;rw[List.getLast?_append];rfl
theorem acP(es:List dW)(e:dW):∀b,Az (es++[e]) b=Az es b++[((b+(lK es).length+(iZ e.r).length:Nat):Int)]:=by
 induction es with
 |nil=>intro b;unfold lK;simp[Az]
 |cons x es j=>
  intro b;rw[cons_append,Az,Az,j,cons_append];have:(lK (x::es)).length=(iZ x.r).length+(lK es).length:=by unfold lK;rw[flatMap_cons,length_append]
  rw[this,Nat.add_assoc b,Nat.add_assoc b]
theorem Uk(es:List dW):jB (rZ es):=fun x j=>by
 obtain⟨e,_,rfl⟩:=mem_map.1 j;exact j_ _ _
theorem acQ{es:List aG}(h:∀e∈es,e.body.length=e.bn):lK (es.map aG.p)=kG es:=by
 induction es with
 |nil=>rfl
 |cons x es E=>
  have j:=E (fun e u=>h e (mem_cons_of_mem _ u));unfold lK kG at*;rw[map_cons,flatMap_cons,flatMap_cons,j,CB x (h x aF)]
theorem acR{es:List aG}(h:∀e∈es,e.body.length=e.bn):rZ (es.map aG.p)=qM es:=by
 unfold rZ qM;rw[map_map];refine map_congr_left fun x j=> ?_;show dY 1 (iZ x.p.r)=EW x;rw[CB x (h x j)];rfl
noncomputable def MS(es:List aG):aj:=match es.getLast? with|none=>kN|some e=>ig e
theorem acS{es:List aG}(h:∀e∈es,e.body.length=e.bn):lq (es.map aG.p)=MS es:=by
 unfold lq MS;rw[List.getLast?_map];cases j:es.getLast? with
 |none=>rfl
 |some e=>exact Ii e (h e (mem_of_getLast? j))
def oM(vo ve:Value)(T:Int)(j:aj)(vl:Value):aO:=vo::ve:: .int .i64 T::(j.map Y++[vl])
theorem yZ{vo ve:Value}{T:Int}{j:aj}{vl:Value}(h:j.length=32):(oM vo ve T j vl).length=36:=by unfold oM;simp[h]
theorem Ul{vo ve:Value}{T:Int}{j:aj}{vl:Value}(h:j.length=32):((oM vo ve T j vl).drop 3).take 32=j.map Y:=by
 show((j.map Y++[vl])).take 32=_;rw[take_left' (by rw[length_map,h])]
theorem Um{vo ve:Value}{T:Int}{j:aj}{vl:Value}(h:j.length=32):(oM vo ve T j vl)[35]? =some vl:=by
 unfold oM;show(j.map Y++[vl])[32]? =_;rw[List.getElem?_append_right (by rw[length_map,h];exact Nat.le_refl _),length_map,h];rfl
structure nM(w:World)(B g:Nat)(es:List dW):Prop where
 ex:∃vo ve vl,ah w g (oM vo ve (wV es) (lq es) vl) 117/\w.ownsRow B 5 1 vo (lK es).length ((lK es).map Y)/\w.ownsRow B 3 1 ve es.length ((Az es 0).map lN)/\w.ownsRow B 31 32 vl es.length (dB (rZ es))
 le:B<=w.heap.size
 n:es.length<=65536
 sz:(lK es).length<=32889*es.length
theorem nM.ext{w w':World}{B g:Nat}{es:List dW}(h:nM w B g es)(e:X w w'):nM w' B g es:=by
 obtain⟨vo,ve,vl,j,u,E,I⟩:=h.ex;exact⟨⟨vo,ve,vl,j.ext e,dQ u e,dQ E e,dQ I e⟩,Nat.le_trans h.le e.size,h.n,h.sz⟩
theorem acT(w:World):Calls prog 20 #[] w fun x w'=>∃g,x= .returned (.pointer (some ⟨g,0,none⟩))/\w.heap.size<=g/\nM w' w.heap.size g []/\X w w':=by
 go_enter func20,ntmps20;go_wp2_with fail;go_ret;exact⟨w.heap.size,F,Nat.le_refl _,⟨⟨_,_,_,ah.aI (vs:=oM (.slice none 0 0) (.slice none 0 0) 0 kN (.slice none 0 0)) F F,⟨F,.inl ⟨F,F⟩⟩,⟨F,.inl ⟨F,F⟩⟩,⟨F,.inl ⟨F,F⟩⟩⟩,by rw[gU];omega,aF,by simp[lK]⟩,(X.refl w).alloc _⟩
theorem acU(B g:Nat)(es:List dW)(w:World)(h:nM w B g es):
 Calls prog 12 #[.pointer (some ⟨g,0,none⟩)] w fun x w'=>x= .returned (.int .i64 (es.length:Int))/\X w w':=by
 obtain⟨vo,ve,vl,j,R,u,aa⟩:=h.ex;obtain⟨E,I,rfl, -, -, -⟩:=iJ u;have ab:=j.cell' (i:=1) (v:= .slice E es.length I) F;clear h j R u aa;go_enter func12,ntmps12;go_wp2_with fail;go_ret;exact⟨F,X.refl _⟩
theorem acV(B g:Nat)(es:List dW)(w:World)(h:nM w B g es):
 Calls prog 14 #[.pointer (some ⟨g,0,none⟩)] w fun x w'=>∃v,x= .returned v/\w'.ownsRow w.heap.size 5 1 v (lK es).length ((lK es).map Y)/\X w w':=by
 have hn:=h.n;have hs:=h.sz;obtain⟨vo,ve,vl,u,E,af,ag⟩:=h.ex;obtain⟨R,aa,rfl, -, -,I⟩:=iJ E;have ai:=u.cell' (i:=0) (v:= .slice R (lK es).length aa) F;have ad:=O I;clear h u E af ag I;go_enter func14,ntmps14;go_wp2_with fail;refine(DL (lK es) R (lK es).length aa w F J ad).mono ?_;rintro x w' ⟨v,rfl,ab, -,j⟩;obtain⟨ae,ac⟩:=aB ab j;clear ab j;go_wp2_with fail;go_ret;exact⟨v,F,ae,ac⟩
noncomputable def E9(es:List dW):aO:=iY es.length (wV es) (lq es) (x8 (rZ es)).1
noncomputable def acW(n:Nat):Array Oper:=xZ f15 n
theorem acX(B g:Nat)(es:List dW)(w:World)(h:nM w B g es):
 Calls prog 15 #[.pointer (some ⟨g,0,none⟩)] w fun x w'=>x= .returned (.agg (E9 es).toArray)/\X w w':=by
 have hn:=h.n;obtain⟨vo,ve,vl,E,ax,bc,az⟩:=h.ex;obtain⟨bL,bN,rfl, -, -, -⟩:=iJ bc;obtain⟨bl,bm,rfl,bR, -,aE⟩:=iJ az;have bO:=TU az;obtain⟨I,ao,b0⟩:=aW (Lh es) E aE;have av:=E.cell' (Um I);have bh:(rZ es).length=es.length:=by unfold rZ;rw[length_map]
 have ac:=O (show((x8 (rZ es)).1).length=32 by
  unfold x8;split
  ·rfl
  ·exact yX iO tY (Uk es))
 obtain⟨a4,ab⟩:=aB (fun j (R:X w j)=>ab5 (rZ es) bl es.length bm j bh hn (Uk es) bR bO (aE.ext R)) (show E9 es=iY es.length (wV es) (lq es) (x8 (rZ es)).1 from F);clear h E ax bc az aE bh;obtain⟨bX,bi⟩:=aC ((x8 (rZ es)));rw[bi]at a4 ac ab;obtain⟨aa,bo⟩:=bX;have a3:=O (show(aa.map Y).length=32 by rw[length_map];exact ac);obtain⟨bS,aL⟩:=aC (lq es);obtain⟨bp,bj⟩:=aC (wV es);obtain⟨b1,be⟩:=aC (E9 es);rw[aL,bj]at ao ab;rw[aL]at I;rw[be]at ab⊢;have bx:=O (show(bS.map Y).length=32 by rw[length_map];exact I);generalize es.length=n at*;clear bi aL bj be;go_enter func15,ntmps15;go_upto_region 1 with fail;generalize aM:World.alloc w _=ai;have a8:ah ai w.heap.size (iY 0 0 iK iK) 46:=by rw[<-aM];exact ah.aI F F
 have ae:X w ai:=by rw[<-aM];exact(X.refl w).alloc _
 obtain⟨B0,an,a6⟩:=aW a8 ae (ao.ext ae);have aw:=av;have av:ai.cell? ⟨g,35,none⟩=some (.slice bl n bm):=by rw[ae.cell (block_lt_of_cell aw)];exact aw
 clear aM a8 ae aw;obtain⟨af,ag⟩:=aC w.heap.size;have a2:=O ag;rw[ag]at B0
 conv=>rw[ag]
 clear ag;go_wp2_with fail;refine(a4 ai an).mono ?_;rintro b3 al ⟨rfl,R⟩;obtain⟨am,a1,aq,bB⟩:=bU (B0.ext R) (an.ext R) (a6.ext R) (show Kw (aa,bo)= .tuple #[.agg (aa.map Y).toArray,.int .i64 bo]from F);rw[bB.out];clear R B0 an a6 av;go_upto_region 2 with(refine bg F _ (.tmp 3) _ F F F (ah.aI (vs:=List.replicate 32 (.int .u8 0)) F F) bY aF (xs:=aa.map Y) a3 (b_ aa) ?_);intro v2 a9 bq;have e2:X al v2:=bq.ext ((X.refl _).alloc _) bG;obtain⟨a0,B2,bv,ad,bz⟩:=dM a9 (am.ext e2) (a1.ext e2) (aq.ext e2) (show af<al.heap.size/\g<al.heap.size from⟨am.lt,aq.lt⟩);clear a9 bq e2 am a1 aq;generalize al.heap.size=g3 at*;go_upto_region 2 with fail;have bA:=O (show g≠af from fun h=>by have E:=ao.lt;have ax:=a2.out;omega);obtain⟨C,u,aJ,bP⟩:=iw (show bT w v2 [g3,g] [(af,66,46)] v2 from bT.yw bv (dV.two a0.lt ad.lt) B2 (GK _ _ F F));have a_:∀j,C j->j.cell? ⟨g,1,none⟩=some (.slice bL n bN):=fun j E=>(((u j).1 E).blk ad aF).cell' F;have ba:∀j,C j->j.cell? ⟨g,2,none⟩=some (.int .i64 bp):=fun j E=>(((u j).1 E).blk ad aF).cell' F;refine fJ (ops:=(acW 2)) fun Z=> ?_;refine aA 0 ?_;refine aA 1 ?_;refine aA 2 ?_;refine dA 3 (a_) ?_;refine aA 4 ?_;refine aA 5 ?_;refine aA 6 ?_;refine aA 7 ?_;refine dA 8 (ba) ?_;refine aA 9 ?_;refine aA 10 ?_;refine aA 11 ?_;refine bD 12 F (bf F (fun j h=>bQ F F (dF (((u j).1 h).blk ad aF) (Ul I)) bY bx)) ?_;refine bD 13 F (oC F 31 _ F F (fun j h=>((u j).1 h).blk a0 aF) bY a3) ?_;refine bD 14 F (bf F (fun j _=>QF F F F F F I ac j)) ?_;generalize World.drew v2=bt at Z⊢;obtain⟨b2,bk,zb⟩:=((u bt).1 Z).Dn (r:=af) (n:=66) (T:=46) aF
 obtain⟨a7,a5,ap⟩:=aW zb bk (GK (n:Int) bp I ac);clear zb bk;refine aZ 15 ?_;intro bE bd;go_wp2_with (refine bg F _ _ _ F F F a7 BI a5 ap (TT _ _ _ _) ?_);intro aR ar br;have aD:C aR:=(u aR).2 (((u bt).1 Z).store br ar (by simp[ap.out]) (by have:=a2.out;omega) (by have E:=bz.out;have ax:=bA.out;simp;omega));have bu:=O ar;go_wp2_with fail;refine bd _ _ aD ?_;have bw:=O ((u aR).1 aD).base;clear bd bE Z ar br a7 a5 aD;refine aH ?_;refine dH ?_;clear aJ u bP a_ ba C;go_wp2_with fail;exact gG F F bu BI ap F ⟨by rw[ab.out],bw⟩
noncomputable def qO(es:List dW)(e:dW):Int:=if jX e≠0 then jX e else if e.num≠(es.length:Int)then 9 else if e.prev≠lq es then 13 else 0
noncomputable def y5(es:List dW)(e:dW):List dW:=if qO es e=0 then es++[e]else es
theorem acY{vo ve:Value}{T:Int}{j:aj}{vl:Value}(h:j.length=32)(v:Value):(oM vo ve T j vl).set 35 v=oM vo ve T j v:=by
 unfold oM;rw[show 35=32+1+1+1 from F,set_cons_succ,set_cons_succ,set_cons_succ,set_append,if_neg (by rw[length_map,h];omega),length_map,h];rfl
theorem acZ{vo ve:Value}{T:Int}{u j:aj}{vl:Value}(h:u.length=32)(hb:j.length=32):fV (oM vo ve T u vl) 3 (j.map Y)=oM vo ve T j vl:=by
 unfold oM fV;rw[length_map,hb,show 3+32=32+1+1+1 from F,drop_succ_cons,drop_succ_cons,drop_succ_cons,drop_left' (by rw[length_map,h])];simp
theorem ac0{W w:World}{L:List Nat}{b o:Nat}{xs:aO}(k:dV W L w)(hb:b∈L)(h:dP W ⟨b,o,none⟩ xs):dP w ⟨b,o,none⟩ xs:=by
 intro j u I;have E:=h j u I;rw[dn]at E⊢;exact wu E (k.2.2 b hb)
theorem ac1:(prog.info? 32).map (·.size)=some 1:=au
theorem ac2:(prog.info? 106).map (·.size)=some 1:=au
theorem ac3:(prog.info? 59).map (·.size)=some 1:=au
theorem ac4{w:World}{b o B:Nat}{xs:aO}(h:aK w (some ⟨b,o,none⟩) xs)(hb:B<=b):bJ w B (some ⟨b,o,none⟩) xs:=by
 rcases h with h|⟨u,E,e,h⟩
 ·exact .inl h
 ·injection e with e;injection e with j e2 _;subst j e2;exact .inr ⟨b,o,F,hb,h⟩
noncomputable def MV(n:Nat):Array Oper:=xZ f21 n
theorem ac5(B g:Nat)(es:List dW)(e:aG)(w0 w:World)(h:nM w B g es)(cN:e.Ok w)(eV:X w0 w)(cI:w0.heap.size<=B)(bA:w0.heap.size<=g):
 Calls prog 21 #[.pointer (some ⟨g,0,none⟩),.agg e.v.toArray] w fun x w'=>x= .returned (.int .i64 (qO es e.p))/\nM w' B g (y5 es e.p)/\X w0 w':=by
 obtain⟨f',cJ⟩:=jE (fun x w'=>x= .returned (.int .i64 (qO es e.p))/\nM w' B g (y5 es e.p)/\X w0 w':Ending->World->Prop);rw[<-cJ];have bS:=O cJ.symm;obtain⟨dC,fj,ct,fd⟩:=bU cN (aG.len cN) h eV;clear h cN cJ eV;go_enter func21,ntmps21;go_upto_region 1 with fail;generalize cR:World.alloc w _=ar;have eM:ah ar w.heap.size e.v 34:=by rw[<-cR];exact ah.aI F F
 have b2:X w ar:=by rw[<-cR];exact(X.refl w).alloc _
 obtain⟨B0,bE,bi,a2⟩:=bU eM (fd.ext b2) (ct.ext b2) (dC.ext b2);clear cR eM b2;have bO:=O (show g<w.heap.size by obtain⟨vo,ve,vl,R,_⟩:=ct.ex;exact R.lt);generalize w.heap.size=g3 at*;have fi:=O (show g3<ar.heap.size from B0.lt);clear ct dC;go_wp2_with (refine bV F 34 _ F F B0 cZ fj ?_);refine(Yw e ar a2).mono ?_;rintro f7 a5 ⟨an,⟨z,v,rfl,cS⟩|⟨z,rfl⟩⟩
 ·have bv:=O z;obtain⟨ce,bL,a1,ew⟩:=bU (B0.ext an) (bE.ext an) (bi.ext an) (a2.ext an);obtain⟨gn,cb,rfl,R,aq,fL,cG⟩:=nT cS;have cP:(iZ e).length=121+e.bn:=GR a2;have gg:e.bn<=32768:=(qy a2 z).2.2.2.2.2.2;have fT:e.num<=65535:=(qy a2 z).2.1;obtain⟨ao,cc,rfl,e8⟩:=cG.gQ (by rw[length_map,cP];omega);obtain⟨el,cy⟩:=aB cG (show ar.heap.size<=ao from(cS.lt ao F).1);have fr:=O an.size;have ej:=O (show ao<a5.heap.size from by
   have:=e8 0 (Y ((iZ e)[0]'J)) (by rw[List.getElem?_map,List.getElem?_eq_getElem J];rfl);exact block_lt_of_cell this)
  have bd:=O cP;have fw:=O a2.hb;have cB:Hid (∀q vo ve vl,ah a5 g (oM vo ve (wV es) (lq es) vl) 117->vo.ownBlock=some q->q<ar.heap.size):=O (fun q vo ve vl hb ae=>by
   obtain⟨f6,f4,f5,cK,cQ,_⟩:=bi.ex;have cL:=cK.ext an;have aL:=cL.cell' (i:=0) F;rw[hb.cell' (i:=0) F]at aL;injection aL with aL;rw[aL]at ae;exact(cQ.lt q ae).2)
  have fu:Hid (∀q vo ve vl,ah a5 g (oM vo ve (wV es) (lq es) vl) 117->ve.ownBlock=some q->q<ar.heap.size):=O (fun q vo ve vl hb ae=>by
   obtain⟨f6,f4,f5,cK,_,cQ,_⟩:=bi.ex;have cL:=cK.ext an;have aL:=cL.cell' (i:=1) F;rw[hb.cell' (i:=1) F]at aL;injection aL with aL;rw[aL]at ae;exact(cQ.lt q ae).2)
  clear z an cS fL cG cP B0 bE bi a2 e8;have e4:121+e.bn<=cb:=R;have fW:cb<=9223372036854775807:=by unfold maxLen at aq;omega
  clear R aq;go_upto_region 4 with fail;obtain⟨vo,ve,vl,hb,e7,a_,e3⟩:=a1.ex;obtain⟨b3,b5,rfl, -, -, -⟩:=iJ a_;obtain⟨cB,et,bo,eg,cw,cp,bX⟩:=su (fun q ae=>cB q vo _ vl hb ae) (show∀k,ar.heap.size<=k->(Value.slice b3 es.length b5).ownBlock=some k->False from fun k hk h=>by have:=fu.out k vo _ vl hb h;omega) hb e7 a_ e3 (And.intro a1.n (And.intro a1.sz a1.le));obtain⟨N,aM⟩:=aC es.length;have bh:=O aM;obtain⟨a4,ca⟩:=aC (lq es);obtain⟨d6,ap⟩:=aB ca (show a4.length=32 by rw[<-ca];exact Lh es);have fl:=O (show(a4.map Y).length=32 by rw[length_map];exact ap);obtain⟨cW,e_⟩:=aC (wV es);rw[aM]at cw cp et;rw[ca,e_]at bo;rw[aM]at bo;clear hb e7 a_ e3 aM ca e_;obtain⟨C,aa,aJ⟩:=jJ a5;have bP:C a5:=(aa _).2 (X.refl _);have bj:∀E,C E->E.cell? ⟨g3,0,none⟩=some (.int .i64 e.num):=fun E R=>(ce.ext ((aa E).1 R)).cell' F;have eR:∀E,C E->E.cell? ⟨g,1,none⟩=some (.slice b3 N b5):=fun E R=>(bo.ext ((aa E).1 R)).cell' F;obtain⟨b7,a_⟩:=aC e.num;have co:=O a_;rw[a_]at bj fT;obtain⟨bn,b'⟩:=aC ((b7 != (N:Int)):Bool);clear a_;refine fJ (ops:=(MV 4)) fun Z=> ?_;refine aA 0 ?_;refine dA 1 (bj) ?_;refine aA 2 ?_;refine aA 3 ?_;refine aA 4 ?_;refine dA 5 (eR) ?_;refine aA 6 ?_;refine aA 7 ?_;refine dH ?_;have af:=O (X.refl a5 |>.drew);generalize World.drew a5=v2 at Z⊢af;obtain⟨B2,ci,eh,ea,dE,bw,em,ek⟩:=jg (ce.ext af) (bo.ext af) (dQ eg af) (dQ cw af) (dQ cp af) (ew.ext af) (el.ext af) (Nat.lt_of_lt_of_le ej af.size);obtain⟨cg,cv,dl⟩:=aW (bL.ext af) (a1.ext af) (Nat.le_trans bX.2.2 af.size);have fs:=O af.size;clear Z aJ aa bP bj eR C ce bo eg cw cp ew el ej bL a1 af
  by_cases aM:b7=(N:Int)
  ·subst aM;have fR:bn=false:=by rw[<-b'];simp
   subst fR;have fq:=O (show(e.prev.map Y).length=32 by rw[length_map];exact bw.hp);obtain⟨bs,cM⟩:=aC ((!(e.prev==a4)));obtain⟨fn,dv⟩:=aB (fun E=>(vY underlying31 e.prev a4 bw.hp ap E).trans (by rw[cM])) cM;clear cM b';go_upto_region 6 with fail;obtain⟨C,aa,aJ⟩:=jJ v2;have bP:C v2:=(aa _).2 (X.refl _);refine fJ (ops:=(MV 6)) fun Z=> ?_;refine aA 0 ?_;refine bD 1 F (bf F (fun E h=>bQ F F (dF (B2.ext ((aa E).1 h)) (aG.BH bw)) bY fq)) ?_;refine aA 2 ?_;refine aA 3 ?_;refine aA 4 ?_;refine bD 5 F (bf F (fun E h=>bQ F F (dF (ci.ext ((aa E).1 h)) (Ul ap)) bY fl)) ?_;refine bD 6 F (bf F (fun E _=>jm F F F EI (fun w=>fn w) E)) ?_;refine dH ?_;have ag:=O ((aa _).1 Z);generalize World.drew v2=v3 at Z⊢ag;obtain⟨cY,dm,ei,eb,dT,fv,cz,fo⟩:=jg (B2.ext ag) (ci.ext ag) (dQ eh ag) (dQ ea ag) (dQ dE ag) (bw.ext ag) (em.ext ag) (Nat.lt_of_lt_of_le ek ag.size);obtain⟨ch,d3,dp,ft⟩:=bU (cg.ext ag) (cv.ext ag) (Nat.le_trans dl ag.size) (show a5.heap.size<=v3.heap.size from Nat.le_trans fs ag.size);clear Z aJ aa bP C B2 ci eh ea dE bw em ek cg cv dl ag;cases bs with
   |true=>
    have am:=O (show qO es e.p=13 by
     have R:=dv.out;unfold qO;rw[if_neg (by simpa[xH]using bv.out),if_neg (by show¬e.num≠_;rw[co.out,bh.out];simp),if_pos];intro h;rw[show e.prev=lq es from h,d6.out]at R;simp at R)
    go_wp2_with fail
    (try go_ret)
    rw[<-bS.out];exact⟨by rw[am.out];rfl,by unfold y5;rw[am.out,if_neg aX];exact d3,ch⟩
   |false=>
    have e9:e.prev=a4:=by have R:=dv.out;simpa using R
    have am:=O (show qO es e.p=0 by
     unfold qO;rw[if_neg (by simpa[xH]using bv.out),if_neg (by show¬e.num≠_;rw[co.out,bh.out];simp),if_neg];show¬e.prev≠lq es;rw[e9,d6.out];simp)
    clear e9;go_wp2_with fail;refine(abT (iZ e) (some ⟨ao,cc,none⟩) (121+e.bn) cb v3 bd J e4 (by have:=fW;omega) (by intro h;cases h) cz).mono ?_;rintro f7 cX ⟨rfl,bx⟩;obtain⟨lf,bB⟩:=aC (dY 1 (iZ e));obtain⟨fk,d4,d5⟩:=aW bB (show lf.length=32 by rw[<-bB];exact j_ _ _) (show(lf.map Y).length=32 by rw[length_map,<-bB];exact j_ _ _);rw[bB];obtain⟨db,bR⟩:=aB bx (show ar.heap.size<=cX.heap.size from Nat.le_trans fr (Nat.le_trans ft bx.size));clear bB bx;go_upto_region 9 with(refine bg F _ (.tmp 7) _ F F F (ah.aI (vs:=List.replicate 32 (.int .u8 0)) F F) bY aF (xs:=lf.map Y) d5 (b_ lf) ?_);intro gp eN e';obtain⟨az,c2⟩:=aB (db.ext (e'.ext ((X.refl cX).alloc _) bG)) eN;clear eN e' db;generalize cX.heap.size=ge at*;obtain⟨c0,ck,a0,cx,cq,cA,dc,cl⟩:=jg (cY.ext az) (dm.ext az) (dQ ei az) (dQ eb az) (dQ dT az) ((ac4 cz cy).ext az) (ch.ext az) (Nat.le_trans dp az.size);clear cY dm ei eb dT fv cz fo ch d3 dp az;have b1:=ck.cell' (i:=0) F;have gl:(lK es).length<=32889*65536:=by have R:=bX.1;have aq:=bX.2.1;omega
    go_upto_region 12 with(refine sH F _ _ F B (ys:=iZ e) F F a0 bd (by intro h;cases h) cA.cells J cl ?_);intro gw gr cV aE;obtain⟨bl,bm,rfl, -, -, -⟩:=iJ cV;obtain⟨bq,ec,d0,c1,c3⟩:=dM (ck.besides a0 aE aX) ((nP.yL a0 cx aX).keep cx aE) ((nP.yL a0 cq aX).keep cq aE) (c0.besides a0 aE aX) (c2.besides a0 aE aX);have en:=O (Me cA (fun q ae=> .inr fun A cH=>by
     injection cH with cH;rw[<-cH];have:=cB.out q ae;have:=cy.out;show ao≠q;omega) aE)
    obtain⟨ez,de,dr,a8⟩:=bU cV (dc.grown aE (fun q ae=>Nat.le_trans cI (a0.lt q ae).1)) (Nat.le_trans cl aE.size) (show g<ar.heap.size from by have R:=bO.out;have aq:=fi.out;omega);clear cV aE b1 a0 ck cx cq c0 c2 cA dc cl;go_upto_region 12 with(refine kY F _ _ _ F F F bq ac1 F (by rw[yZ ap.out];decide) F ?_);intro av ac I;obtain⟨br,b0,ed,cr,c4,c7,eo,df⟩:=jg (show ah av g (oM (.slice bl ((lK es).length+(121+e.bn)) bm) (.slice b3 N b5) cW a4 vl) 117 from ac) (n_ ez I bq aX) (n_ ec I bq aX) (n_ d0 I bq aX) (c3.upd I (by have R:=bR.out;have aq:=a8.out;omega)) (c1.upd I (by have R:=bO.out;omega)) (en.upd I a8) (I.ext de bA);have ds:=O (show B<=av.heap.size by rw[I.size];exact dr);clear ac I bq ez ec d0 c3 c1 en de dr;go_upto_region 12 with fail;obtain⟨L,b9⟩:=aC ((lK es).length+(121+e.bn));rw[b9]at br b0
    conv=>rw[b9]
    obtain⟨fm,f9⟩:=aB b9 (show L<=32889*65536+32889 by omega);clear b9;obtain⟨C,aa,aJ,bP⟩:=iw (show bT av av [] [] av from bT.jA (X.refl _) (dV.none _));have bj:∀E,C E->E.cell? ⟨g,1,none⟩=some (.slice b3 N b5):=fun E R=>(br.ext ((aa E).1 R).base).cell' F;have b1:∀E,C E->E.cell? ⟨g,0,none⟩=some (.slice bl L bm):=fun E R=>(br.ext ((aa E).1 R).base).cell' F;refine jQ (W:=[11,14]) fun Z=> ?_;refine bK 0 ?_;refine bK 1 ?_;refine bK 2 ?_;refine bK 3 ?_;refine eY 4 (bj) ?_;refine bK 5 ?_;refine bK 6 ?_;refine bK 7 ?_;refine eY 8 (b1) ?_;refine bK 9 ?_;have cF:X av (World.drew av):=(X.refl av).drew;generalize World.drew av=cd at Z cF⊢;refine fC 10 ?_;intro ad ab;go_wp2_with fail;refine ab _ _ (aJ _ _ Z ((X.refl _).alloc _)) ?_;clear ab ad;generalize ba:World.alloc cd _=a6;have e6:aK a6 (some ⟨cd.heap.size,0,none⟩) [.int .i64 (L:Int)]:=by rw[<-ba];exact aK.eG (ah.aI (T:=3) F F)
    have eT:X av a6:=by rw[<-ba];exact cF.alloc _
    obtain⟨ef,al⟩:=aB e6 eT;clear ba e6 eT cF Z aJ aa bP bj b1;refine aH ?_;obtain⟨aR,cn⟩:=aB (dQ ed al) (Nat.le_trans ds al.size);refine iU 11 ?_;intro ad ab;go_wp2_with (refine qB Rz F _ _ F B (m:=1) (news:=[.int .i64 (L:Int)]) F F aR F bG (by intro h;cases h) ef (by intro v fY;rw[mem_singleton.1 fY];rfl) J J cn ?_);intro gt ai cT aD _;obtain⟨b4,b6,rfl, -, -, -⟩:=iJ cT;obtain⟨bt,eA,d1,c5,da,ep,ex,dg⟩:=jg ((br.ext al).besides aR aD aX) ((nP.yL aR (dQ b0 al) aX).keep (dQ b0 al) aD) ((nP.yL aR (dQ cr al) aX).keep (dQ cr al) aD) ((c4.ext al).besides aR aD aX) ((c7.ext al).besides aR aD aX) ((eo.ext al).turn (fun k hk f0=>aD.block k f0 (fun h=>et k hk h.symm))) cT ((df.ext al).grown aD (fun q ae=>Nat.le_trans cI (aR.lt q ae).1));have dt:=O (Nat.le_trans cn aD.size);refine ab _ _ trivial ?_;clear ab ad cT aD aR cn ef al br b0 ed cr c4 c7 eo df ds;refine aH ?_;refine bK 12 ?_;refine bK 13 ?_;refine iU 14 ?_;intro ad ab;go_wp2_with (refine kY F _ _ _ F F F bt ac2 F (by rw[yZ ap.out];decide) F ?_);intro aw ac I;obtain⟨cm,eB,eE,d2,c6,cf,er,di⟩:=jg (show ah aw g (oM (.slice bl L bm) (.slice b4 (N+1) b6) cW a4 vl) 117 from ac) (n_ eA I bt aX) (n_ ex I bt aX) (n_ d1 I bt aX) (c5.upd I (by have R:=bR.out;have aq:=a8.out;omega)) (da.upd I (by have R:=bO.out;omega)) (ep.upd I a8) (I.ext dg bA);have du:=O (show B<=aw.heap.size by rw[I.size];exact dt);refine ab _ _ trivial ?_;clear ab ad ac I bt eA ex d1 c5 da ep dg dt;refine aH ?_;refine jR ?_;go_upto_region 13 with fail;obtain⟨K,eW⟩:∃K,121+e.bn=K+32:=⟨89+e.bn,J⟩
    rw[eW]at e4
    conv=>rw[eW]
    have gf:IntKind.i64.wrap (K:Int)=(K:Int):=IntWalk.i64_in _ J;obtain⟨ev,a7,fh⟩:=aW (show qX (some ⟨ao,cc,none⟩) cb K 1=some ⟨ao,cc+K*1,none⟩ by unfold qX;rw[if_neg J,Option.map_some,dn]) (nZ e) (show((ig e).map Y).length=32 by rw[length_map];exact nZ e);have cs:=O (show dP aw ⟨ao,cc+K*1,none⟩ ((ig e).map Y)from fun j u fX=>by
     rw[dn];rcases er.out with h|⟨ga,gm,e2,_,h⟩
     ·have R:(iZ e).length=0:=by have:=congrArg List.length h;simpa using this
      have aq:=bd.out;omega
     ·injection e2 with e2;injection e2 with fI bx _;subst fI bx;have R:=h (K+j) u (by
       have fN:(ny e).length=K:=by
        have R:=bd.out;unfold iZ at R;rw[length_append,nZ]at R;omega
       unfold iZ;rw[map_append,List.getElem?_append_right (by rw[length_map];omega),length_map,fN,Nat.add_sub_cancel_left];exact fX)
      rw[Nat.mul_one,Nat.add_assoc];exact R)
    have fp:=O (show ao<aw.heap.size from by
     have R:=cs.out 0 (Y ((ig e)[0]'(by rw[nZ];omega))) (by rw[List.getElem?_map,List.getElem?_eq_getElem (by rw[nZ];omega)];rfl);rw[dn]at R;exact block_lt_of_cell R)
    have e1:g≠ao:=by have R:=a8.out;have aq:=cy.out;omega
    have e0:g≠g3:=by have:=bO.out;omega
    have d7:=O (yZ (vo:= .slice bl L bm) (ve:= .slice b4 (N+1) b6) (T:=cW) (vl:=vl) ap);obtain⟨C,aa,aJ,bP⟩:=iw (show bT w0 aw [g3,ao] [(g,36,117)] aw from bT.yw di (dV.two cf.lt fp) cm d7);have eO:∀E,C E->E.cell? ⟨g3,1,none⟩=some (.int .i64 e.time):=fun E R=>(((aa E).1 R).blk cf aF).cell' (aG.rH e);refine fJ (ops:=(MV 13)) fun Z=> ?_;refine aA 0 ?_;refine aA 1 ?_;refine aA 2 ?_;refine dA 3 (eO) ?_;refine aA 4 ?_;refine aA 5 ?_;refine aA 6 ?_;refine aA 7 ?_;refine bD 8 F (bf F (fun E _=>Mc (k:=K) ev F F F underlying32 gu J E)) ?_;refine bD 9 F (bf F (fun E _=>rC (n:=32) F F underlying31 J E)) ?_;refine bD 10 F (bf F (fun E h=>bQ F F (ac0 ((aa E).1 h).kept aF cs) bY fh)) ?_;refine aA 11 ?_;refine aA 12 ?_;have a3:X aw (World.drew aw):=(X.refl aw).drew;generalize World.drew aw=cd at Z a3⊢;obtain⟨bu,eK,eI,d9,c9,dy⟩:=iq (cm.ext a3) (dQ eB a3) (dQ eE a3) (dQ d2 a3) (c6.ext a3) (Nat.le_trans du a3.size);clear a3 cm eB eE d2 c6 du cf er di cs;refine aZ 13 ?_;intro ad ab;go_wp2_with (refine kY F _ _ _ F F F bu uM F (by rw[yZ ap.out];decide) F ?_);intro a6 ac I;have bc:=O (show ah a6 g (oM (.slice bl L bm) (.slice b4 (N+1) b6) e.time a4 vl) 117 from ac);have a9:C a6:=(aa a6).2 (((aa cd).1 Z).store I bc (by simp[yZ ap.out]) bA (by simp;exact⟨e0,e1⟩));obtain⟨eL,eJ,d',c_,dz⟩:=dM (n_ eK I bu aX) (n_ eI I bu aX) (n_ d9 I bu aX) (c9.upd I (by have R:=bR.out;have aq:=a8.out;omega)) (show B<=a6.heap.size by rw[I.size];exact dy);go_wp2_with fail;refine ab _ _ a9 ?_;clear ab ad ac I Z bu eK eI d9 c9 dy
    have Z:=a9;clear a9;refine aH ?_;refine aA 14 ?_;refine aA 15 ?_;refine aZ 16 ?_;intro ad ab;go_wp2_with (refine kR F _ _ _ F F F bc (by rw[length_map,a7.out];exact bY) (by rw[length_map,a7.out,yZ ap.out];decide) (b_ _) ?_);intro ai ac I;rw[acZ ap.out a7.out]at ac;have bN:=O ac;have a9:C ai:=(aa ai).2 (((aa a6).1 Z).store I bN (by simp[yZ a7.out]) bA (by simp;exact⟨e0,e1⟩));obtain⟨cD,cC,d8,c8,dx⟩:=dM (n_ eL I bc aX) (n_ eJ I bc aX) (n_ d' I bc aX) (c_.upd I (by have R:=bR.out;have aq:=a8.out;omega)) (show B<=ai.heap.size by rw[I.size];exact dz);go_wp2_with fail;refine ab _ _ a9 ?_;have dk:=O ((aa ai).1 a9).base;clear ab ad ac I Z bc eL eJ d' c_ dz a9;refine aH ?_;refine dH ?_;clear aJ aa bP eO C ev d7;go_upto_region 14 with fail;obtain⟨C,aa,aJ,bP⟩:=iw (show bT ai ai [] [] ai from bT.jA (X.refl _) (dV.none _));have eQ:∀E,C E->E.cell? ⟨g,35,none⟩=some vl:=fun E R=>(bN.ext ((aa E).1 R).base).cell' (Um a7);refine jQ (W:=[7,10]) fun Z=> ?_;refine bK 0 ?_;refine bK 1 ?_;refine bK 2 ?_;refine bK 3 ?_;refine eY 4 (eQ) ?_;refine k_ 5 F (oC F 31 _ F F (fun E h=>c8.ext ((aa E).1 h).base) bY d5) ?_;have cE:X ai (World.drew ai):=(X.refl ai).drew;generalize World.drew ai=fa at Z cE⊢;refine fC 6 ?_;intro ad ab;go_wp2_with (refine TR F F F d4 ?_);refine ab _ _ (aJ _ _ Z ((X.refl _).alloc _)) ?_;clear ab ad;generalize ba:World.alloc fa _=fb;have e5:ah fb fa.heap.size (lf.map Y) 31:=by rw[<-ba];exact ah.aI F F
    have eS:X ai fb:=by rw[<-ba];exact cE.alloc _
    obtain⟨ee,ax⟩:=aB e5 eS;clear ba e5 eS cE Z aJ aa bP eQ;obtain⟨be,cj⟩:=aB (dQ d8 ax) (Nat.le_trans dx ax.size);refine aH ?_;refine iU 7 ?_;intro ad ab;go_wp2_with (refine TS F _ _ F B F F be d4 ee J cj ?_);intro gv gx cU bk _;obtain⟨f1,f2,rfl, -, -, -⟩:=iJ cU;obtain⟨bp,ey,eD,eC,dd,dq⟩:=iq ((bN.ext ax).besides be bk aX) ((nP.yL be (dQ cD ax) aX).keep (dQ cD ax) bk) ((nP.yL be (dQ cC ax) aX).keep (dQ cC ax) bk) cU ((dk.ext ax).grown bk (fun q ae=>Nat.le_trans cI (be.lt q ae).1)) (Nat.le_trans cj bk.size);refine ab _ _ trivial ?_;clear ab ad cU bk be cj ee ax bN cD cC d8 c8 dk dx;refine aH ?_;refine bK 8 ?_;refine bK 9 ?_;refine iU 10 ?_;intro ad ab;go_wp2_with (refine kY F _ _ _ F F F bp ac3 F (by rw[yZ a7.out];decide) F ?_);intro f8 ac I;rw[acY a7.out]at ac;obtain⟨fe,fx,fz,fy,fc,ff⟩:=iq ac (n_ ey I bp aX) (n_ eD I bp aX) (n_ eC I bp aX) (I.ext dd bA) (show B<=f8.heap.size by rw[I.size];exact dq);refine ab _ _ trivial ?_;clear ab ad ac I bp ey eD eC dd dq;refine aH ?_;refine jR ?_;go_wp2_with fail
    (try go_ret)
    rw[<-bS.out];have gh:(dW.r e.p).bn=e.body.length:=F;have bz:=fw.out;have eZ:L=(lK es).length+(iZ e.p.r).length:=by rw[<-fm.out,CB e bz,bd.out]
    refine⟨by rw[am.out];rfl,?_,fc⟩;unfold y5;rw[if_pos am.out];refine⟨⟨.slice bl L bm,.slice b4 (N+1) b6,.slice f1 (N+1) f2,?_,?_,?_,?_⟩,ff,?_,?_⟩
    ·rw[acO,SC,Ii e bz];exact fe
    ·rw[Uj,length_append,<-eZ,CB e bz,map_append];exact fx
    ·rw[length_append,length_singleton,bh.out,acP,map_append,map_singleton,Nat.zero_add,<-eZ];exact fz
    ·rw[length_append,length_singleton,bh.out,acN,CB e bz,fk.out];exact fy
    ·rw[length_append,length_singleton,bh.out];omega
    ·rw[Uj,length_append,length_append,length_singleton,CB e bz,bd.out];have:=bX.2.1;omega
  ·have fS:bn=true:=by rw[<-b'];simp;exact aM
   subst fS;have am:=O (show qO es e.p=9 by
    unfold qO;rw[if_neg (by simpa[xH]using bv.out),if_pos];show e.num≠_;rw[co.out,bh.out];exact aM)
   have gd:(b7 != (N:Int))=true:=b';have gc:decide (b7=(N:Int))=false:=aP aM;go_wp2_with fail
   (try go_ret)
   rw[<-bS.out];exact⟨by rw[am.out];rfl,by unfold y5;rw[am.out,if_neg aX];exact cv,cg⟩
 ·have bv:=O z;have f3:(dN e != 0)=true:=by simp;exact z
  have n2:decide (dN e=0)=false:=aP z;obtain⟨bL,a1⟩:=aB (bE.ext an) (bi.ext an);obtain⟨dj,b8⟩:=aC (dN e);have am:=O (show qO es e.p=dj by
   unfold qO;rw[if_pos (show jX e.p≠0 from by rw[<-xH];exact z),<-xH,b8])
  have fg:=O (show dj≠0 by rw[<-b8];exact z);rw[b8]at f3 n2⊢;clear z an b8 bv B0 bE bi a2;go_wp2_with fail
  (try go_ret)
  rw[<-bS.out];exact⟨by rw[am.out];rfl,by unfold y5;rw[am.out,if_neg fg.out];exact a1,bL⟩
theorem ac6{l:aj}{p:Nat}{es:List dW}(h:lW l p es)(E:p<l.length)(u:(fQ l p).2.2=0):
 (qO es (fQ l p).1=0->∃q:Nat,(fQ l p).2.1=(q:Int)/\p<q/\lW l q (es++[(fQ l p).1]))/\(qO es (fQ l p).1≠0->nI l=(es,qO es (fQ l p).1)):=by
 obtain⟨_,_,_,_,R⟩:=Lj u;unfold qO;rw[if_neg (by simp[R])];by_cases hn:(fQ l p).1.num≠(es.length:Int)
 ·rw[if_pos hn];exact⟨fun j=>absurd j aX,fun _=>h.order E u hn⟩
 rw[if_neg hn];have I:=Decidable.not_not.1 hn;by_cases hs:(fQ l p).1.prev≠lq es
 ·rw[if_pos hs];exact⟨fun j=>absurd j aX,fun _=>h.seal E u I hs⟩
 rw[if_neg hs];exact⟨fun _=>h.step E u I (Decidable.not_not.1 hs),fun j=>absurd F j⟩
theorem nM.ends{w:World}{B g:Nat}{es:List dW}(h:nM w B g es):∃j u,w.cell? ⟨g,1,none⟩=some (.slice j es.length u):=by
 obtain⟨vo,ve,vl,E,R,I,aa⟩:=h.ex;obtain⟨j,u,rfl, -, -, -⟩:=iJ I;exact⟨j,u,E.cell' (i:=1) F⟩
noncomputable def Un(n:Nat):Array Oper:=xZ f10 n
theorem ac7(l:aj)(a:aN)(n c:Nat)(w:World)(a6:l.length=n)(b5:n<=c)(hn:n<=1000000000)(hc:c<=9223372036854775807)(bt:aK w a (l.map Y)):
 Calls prog 10 #[.slice a n c] w fun x w'=>∃g,x= .returned (.tuple #[.pointer (some ⟨g,0,none⟩),.int .i64 ((nI l).1.length:Int),.int .i64 (nI l).2])/\nM w' w.heap.size g (nI l).1/\w.heap.size<=g/\X w w':=by
 have bj:=O a6;obtain⟨b8,a5⟩:=jE (fun x w'=>∃g,x= .returned (.tuple #[.pointer (some ⟨g,0,none⟩),.int .i64 ((nI l).1.length:Int),.int .i64 (nI l).2])/\nM w' w.heap.size g (nI l).1/\w.heap.size<=g/\X w w':Ending->World->Prop);rw[<-a5];obtain⟨bl,bS⟩:=aB a5 (fun(p:Nat) j (aq:X w j)=>abz l a n c (p:Int) j a6 b5 J hc (bt.ext aq));clear a6 bt a5;go_enter func10,ntmps10;go_wp2_with fail;refine(acT w).mono ?_;rintro b7 b' ⟨g,rfl,bv,al,bq⟩;obtain⟨aE,be,a9⟩:=aW bv al bq;clear bv al bq;go_wp2_with fail;go_loopw [6] (fun i wr=>∃(p:Nat) (es:List dW),i= .int .i64 (p:Int)/\lW l p es/\nM wr w.heap.size g es/\X w wr) (fun i _=>n - (intOf i).toNat)
 case atStart=>exact⟨0,[],F,lW.start l,be,a9⟩
 case round=>
  obtain⟨p,es,rfl,bx,al,aq⟩:=hrel;obtain⟨aM,ao,am⟩:=aW bx al aq;clear bx al aq be a9;by_cases av:p<n
  ·have bi:=O (show p<l.length by rw[bj.out];exact av);have b1:decide ((p:Int)<(n:Int))=true:=aQ J;have b2:decide (p<n)=true:=aQ av;go_wp2_with fail;refine(bS p wr am).mono ?_;rintro b7 w2 ⟨e,rfl,a7,bu,e2⟩;have bc:=O bu;have bk:=O a7.1;have bh:=O (aG.len a7.1);obtain⟨E,a3⟩:=aC ((fQ l p).2.2);obtain⟨Q,a4⟩:=aC ((fQ l p).2.1);rw[a3,a4];obtain⟨az,b0,bo,a_⟩:=bU a3 a4 (ao.ext e2) (am.ext e2);clear bu a7 a3 a4 e2 am ao;go_upto_region 5 with(refine bg F _ (.tmp 7) _ F F F (ah.aI (vs:=dS.v) F F) cZ (aG.len (EJ w)) bh (i_ e) ?_);intro bL bp bE;have ar:X w2 bL:=bE.ext ((X.refl _).alloc _) bG;obtain⟨aw,ap,an,aR⟩:=bU bp (bo.ext ar) (a_.ext ar) (bk.ext ar);clear bp bE ar bo a_ bk;generalize w2.heap.size=b9 at*;go_upto_if 23 with fail;go_cut [9] (fun v wx=>∃R:Int,v= .int .i64 R/\(R=0->∃q:Nat,Q=(q:Int)/\p<q/\lW l q (es++[e.p])/\nM wx w.heap.size g (es++[e.p]))/\(R≠0->nI l=(es,R)/\nM wx w.heap.size g es)/\X w wx)
   case first=>
    by_cases ae:E=0
    ·have bm:=O (ac6 aM bi (az.trans ae));subst ae;go_wp2_with (refine bV F 34 _ F F aw cZ bh ?_);refine(ac5 w.heap.size g es e w bL ap aR an bG aE).mono ?_;rintro cb ca ⟨rfl,bw,br⟩;obtain⟨bd,bO⟩:=aB bw br;clear bw br;go_wp2_with fail;go_meet;refine⟨_,F,fun h=> ?_,fun h=> ?_,bO⟩
     ·have hs:=bm.out;rw[<-bc.out]at hs;obtain⟨q,u,ac,ad⟩:=hs.1 h;refine⟨q,b0.symm.trans u,ac,ad,?_⟩;have ab:=bd.out;unfold y5 at ab;rw[if_pos h]at ab;exact ab
     ·have hs:=bm.out;rw[<-bc.out]at hs;refine⟨hs.2 h,?_⟩;have ab:=bd.out;unfold y5 at ab;rw[if_neg h]at ab;exact ab
    ·have aa:=O (aM.bad bi (by rw[az.out];exact ae));have b3:(E==0)=false:=by simp;exact ae
     have b4:decide (E=0)=false:=aP ae;go_wp2_with fail;go_meet;exact⟨E,F,fun h=>absurd h ae,fun _=>⟨by rw[aa.out,az.out],ap⟩,an⟩
   case rest=>
   obtain⟨R,rfl,u,ac,ad⟩:=hcut;obtain⟨bN,a8⟩:=aC wc;rw[a8]at u ac ad⊢;have ba:=O ad;by_cases hF:R=0
   ·obtain⟨q,b6,bA,bz,af⟩:=u hF;subst hF;subst b6;obtain⟨bX,bR,aL⟩:=aW bA bz af;clear a8 wc u ac ad bA bz af ap aw aR an;go_wp2_with fail;go_roundw
    case rel=>exact⟨q,es++[e.p],F,bR,aL,ba⟩
    case measure=>simp[intOf];have:=bX.out;omega
   ·obtain⟨bB,af⟩:=ac hF;obtain⟨aa,aL⟩:=aB bB af;obtain⟨a1,a2,ai⟩:=af.ends;have ag:=O ai;have b3:(R != 0)=true:=by simp;exact hF
    have b4:decide (R=0)=false:=aP hF;clear a8 wc u ac ad bB af ai ap aw aR an;go_upto_region 8 with fail;obtain⟨C,I,aJ⟩:=jJ bN;have bP:C bN:=(I _).2 (X.refl _);have a0:∀j,C j->j.cell? ⟨g,1,none⟩=some (.slice a1 es.length a2):=fun j u=>by rw[((I j).1 u).cell (block_lt_of_cell ag)];exact ag
    refine fJ (ops:=(Un 8)) fun Z=> ?_;refine aA 0 ?_;refine aA 1 ?_;refine aA 2 ?_;refine aA 3 ?_;refine dA 4 (a0) ?_;refine aA 5 ?_;refine aA 6 ?_;refine aA 7 ?_;refine aA 8 ?_;refine aA 9 ?_;refine dH ?_;obtain⟨aD,ax⟩:=aB (aL.ext ((I _).1 Z)) (ba.ext ((I _).1 Z));go_wp2_with fail;refine bodyPost_ret (results_tmp3 F _ _ _) F ?_;rw[bl.out];refine⟨g,by rw[aa.out];rfl,?_,aE,ax⟩;rw[aa.out];exact aD
  ·have b1:decide ((p:Int)<(n:Int))=false:=aP J;have b2:decide (p<n)=false:=aP av;have aa:=O (aM.fin (by rw[bj.out];exact av));obtain⟨a1,a2,ai⟩:=ao.ends;have ag:=O ai;clear ai;go_upto_region 10 with fail;obtain⟨C,I,aJ⟩:=jJ wr;have bP:C wr:=(I _).2 (X.refl _);have a0:∀j,C j->j.cell? ⟨g,1,none⟩=some (.slice a1 es.length a2):=fun j u=>by rw[((I j).1 u).cell (block_lt_of_cell ag)];exact ag
   refine fJ (ops:=(Un 10)) fun Z=> ?_;refine aA 0 ?_;refine aA 1 ?_;refine aA 2 ?_;refine aA 3 ?_;refine dA 4 (a0) ?_;refine aA 5 ?_;refine aA 6 ?_;refine aA 7 ?_;refine aA 8 ?_;refine dH ?_;obtain⟨aD,ax⟩:=aB (ao.ext ((I _).1 Z)) (am.ext ((I _).1 Z));go_wp2_with fail;refine bodyPost_ret (results_tmp3 F _ _ _) F ?_;rw[bl.out];refine⟨g,by rw[aa.out];rfl,?_,aE,ax⟩;rw[aa.out];exact aD
def ac8:Go.Shelf.Ren:=⟨fun|6=>145 |15=>176 |14=>201 |28=>223 |29=>224 |20=>259 |21=>260 |22=>261 |23=>262 |24=>263 |25=>264 |26=>265 |27=>266 |46=>319 |47=>286 |48=>287 |49=>320 |50=>321 |57=>343 |n=>n,fun|22=>230 |24=>232 |25=>236 |3=>3 |39=>141 |0=>0 |53=>239 |55=>246 |4=>4 |46=>314 |45=>313 |50=>82 |5=>5 |9=>9 |66=>360 |70=>364 |76=>389 |77=>390 |n=>n,fun|n=>n⟩
theorem ac9:Go.Proofs.SlLaysF0.n6 prog ac8:=by repeat' first|kernel_rfl|(intro _;kernel_rfl)|exact MJ au au|constructor
section
open Go Go.RowKit Go.Shelf Go.Sort
theorem ada(x y:aj)(w:World)(hx:x.length=32)(R:y.length=32):
 Calls prog 148 #[.agg (x.map Y).toArray,.agg (y.map Y).toArray] w fun e w'=>e= .returned (.int .i64 (eH x y))/\iT w w':=by
 obtain⟨ad,ae⟩:=aB hx R;clear hx R;go_enter func148,ntmps148;go_upto_region 1 with fail;generalize u:World.alloc (World.alloc w _) _=j;have aa:ah j w.heap.size (x.map Y) 30:=by rw[<-u];exact(ah.aI F F).alloc _
 have ab:ah j (w.heap.size+1) (y.map Y) 30:=by rw[<-u];exact ah.aI aF F
 have E:iT w j:=by rw[<-u];exact((iT.refl w).alloc _).alloc _
 obtain⟨hb,ac⟩:=aB (fun n=>JK x y ⟨w.heap.size,0,none⟩ ⟨w.heap.size+1,0,none⟩ 32 32 32 32 (j.drewN n) ad ae (Bg aa.drewN) (Bg ab.drewN)) E;clear u aa ab E;refine wp_region_held_drew (S:=fun w'=>∃n,w'=j.drewN n) au ⟨1,F⟩ (fun Z=> ?_);refine aA 0 ?_;refine aA 1 ?_;refine aZ 2 ?_;intro af I;obtain⟨nq,ag⟩:=Z;generalize j.drew=ai at*;subst ag;go_wp2_with fail;refine(hb nq).mono ?_;rintro e w' ⟨rfl,rfl⟩;go_wp2_with fail;refine I _ _ ⟨nq,F⟩ ?_;clear I af;have Z:∃n,j.drewN nq=j.drewN n:=⟨nq,F⟩;refine aH ?_;refine aA 3 ?_;refine dH ?_;go_wp2_with fail;go_ret;exact⟨F,ac.drewN nq⟩
theorem adb(a b:Int)(g:Nat)(w:World)(hb:ah w g [.int .i64 a,.int .i64 b] 3):
 Calls prog 147 #[.slice (some ⟨g,0,none⟩) 2 2] w fun e w'=>e= .returned (.int .i64 (if a≠0 then a else b))/\w=w':=by
 have R:=hb.cell' (i:=0) F;have k1:=hb.cell' (i:=1) F;clear hb;by_cases ha:a=0
 ·subst ha;have j:((0:Int) != 0)=false:=F;by_cases hb:b=0
  ·subst hb;go_enter func147,ntmps147;go_wp2;go_loopw [5,8] (fun _ x wr=>∃i:Nat,i<=2/\x= .int .i64 i/\w=wr) (fun _ x _=>2 - (intOf x).toNat)
   case atStart=>exact⟨0,J,F,F⟩
   case round=>
    obtain⟨i,E,rfl,rfl⟩:=hrel;rcases(show i=0∨i=1∨i=2 by omega)with rfl|rfl|rfl
    ·go_wp2;go_roundw
     case rel=>exact⟨1,J,by first|rfl|trivial,by first|rfl|trivial⟩
     case measure=>simp[intOf]
    ·go_wp2;go_roundw
     case rel=>exact⟨2,J,by first|rfl|trivial,by first|rfl|trivial⟩
     case measure=>simp[intOf]
    ·go_wp2
     (try go_ret)
     exact⟨F,F⟩
  ·have I:(b != 0)=true:=by simp;exact hb
   have u:decide (b=0)=false:=aP hb;go_enter func147,ntmps147;go_wp2;go_loopw [5,8] (fun _ x wr=>∃i:Nat,i<=1/\x= .int .i64 i/\w=wr) (fun _ x _=>2 - (intOf x).toNat)
   case atStart=>exact⟨0,J,F,F⟩
   case round=>
    obtain⟨i,E,rfl,rfl⟩:=hrel;rcases(show i=0∨i=1 by omega)with rfl|rfl
    ·go_wp2;go_roundw
     case rel=>exact⟨1,J,by first|rfl|trivial,by first|rfl|trivial⟩
     case measure=>simp[intOf]
    ·go_wp2
     (try go_ret)
     exact⟨F,F⟩
 ·have j:(a != 0)=true:=by simp;exact ha
  have u:decide (a=0)=false:=aP ha;rw[if_pos ha];go_enter func147,ntmps147;go_wp2;go_loopw [5,8] (fun _ x wr=>x= .int .i64 0/\w=wr) (fun _ x _=>2 - (intOf x).toNat)
  case atStart=>exact⟨F,F⟩
  case round=>
   obtain⟨rfl,rfl⟩:=hrel;go_wp2
   (try go_ret)
   exact⟨F,F⟩
theorem ade:∀{a b:aj} (c d:aj),a.length=b.length->eH (a++c) (b++d)=if eH a b≠0 then eH a b else eH c d:=by
 intro a;induction a with
 |nil=>
  intro b c d h;have:b=[]:=length_eq_zero_iff.1 h.symm;subst this;rw[Js];rfl
 |cons x a I=>
  intro b c d h;cases b with
  |nil=>simp at h
  |cons y b=>
   have E:a.length=b.length:=by simpa using h
   have hc:=I c d E;unfold eH at hc⊢;simp only[cons_append,Lib.compareBytes]at hc⊢;by_cases j:x<y
   ·simp[j]
   ·by_cases u:y<x
    ·simp[j,u]
    ·simp only[j,u,if_false];exact hc
structure iD where
 r:nK
 ha:r.ask.length=32
 hw:r.who.length=16
instance:Inhabited iD:=⟨⟨nK.zero,F,F⟩⟩
def o9(x:iD):aO:=x.r.v
theorem IQ(x:iD):(o9 x).length=50:=by unfold o9 nK.v;simp[x.ha,x.hw]
theorem MW(x:iD):∀v∈o9 x,v.oneCell'=true:=by
 intro v j;unfold o9 nK.v at j;rcases mem_append.1 j with h|h
 ·exact b_ _ v h
 rcases mem_append.1 h with h|h
 ·exact b_ _ v h
 simp only[mem_cons,not_mem_nil,or_false]at h;rcases h with rfl|rfl<;>rfl
def yc(x y:iD):Int:=if eH x.r.ask y.r.ask≠0 then eH x.r.ask y.r.ask else eH x.r.who y.r.who
theorem Uo(x y:iD):yc x y=eH (x.r.ask++x.r.who) (y.r.ask++y.r.who):=(ade _ _ (x.ha.trans y.ha.symm)).symm
theorem MX(x y:iD):ltOf yc x y=qp (x.r.ask++x.r.who) (y.r.ask++y.r.who):=by
 unfold ltOf qp;rw[Uo]
theorem adf:Sort.SWO (ltOf yc) where
 irrefl x:=by rw[MX];exact Ju _
 trans x y z h1 h2:=by rw[MX]at*;exact FT h1 h2
 ntrans x y z h1 h2:=by rw[MX]at*;exact Jv h1 h2
theorem Ur:iH prog 232 50:=⟨⟨_,underlying232,F⟩,au⟩
theorem iD.MZ(x:iD):(x.r.v.drop 0).take 32=x.r.ask.map Y:=by
 unfold nK.v;rw[drop_zero,take_left' (by rw[length_map,x.ha])]
theorem iD.M_(x:iD):(x.r.v.drop 32).take 16=x.r.who.map Y:=by
 unfold nK.v;rw[drop_left' (by rw[length_map,x.ha]),take_left' (by rw[length_map,x.hw])]
theorem adg(x y:iD)(w:World):Calls prog 146 #[.agg (o9 x).toArray,.agg (o9 y).toArray] w fun e w'=>e= .returned (.int .i64 (yc x y))/\iT w w':=by
 obtain⟨aR,a0,az,aE,aD,aL,a2,a4⟩:=jg (fun w=>ada x.r.ask y.r.ask w x.ha y.ha) (fun w=>Gg x.r.who y.r.who w x.hw y.hw) (iD.MZ x) (iD.MZ y) (iD.M_ x) (iD.M_ y) (show(x.r.ask.map Y).length=32 by rw[length_map];exact x.ha) (show(y.r.ask.map Y).length=32 by rw[length_map];exact y.ha);obtain⟨a3,a5,a1⟩:=aW (show(x.r.who.map Y).length=16 by rw[length_map];exact x.hw) (show(y.r.who.map Y).length=16 by rw[length_map];exact y.hw) (show yc x y=(if eH x.r.ask y.r.ask≠0 then eH x.r.ask y.r.ask else eH x.r.who y.r.who)from F);generalize yc x y=a6 at*;generalize eH x.r.ask y.r.ask=ai at*;generalize eH x.r.who y.r.who=al at*;go_enter func146,ntmps146;go_upto_region 1 with(fail);generalize ab:World.alloc (World.alloc w _) _=R;have av:ah R w.heap.size x.r.v 232:=by rw[<-ab];exact(ah.aI F F).alloc _
 have aw:ah R (w.heap.size+1) y.r.v 232:=by rw[<-ab];exact ah.aI aF F
 have ax:Hid (iT w R):=by rw[<-ab];exact O (((iT.refl w).alloc _).alloc _)
 obtain⟨am,an⟩:=aB av aw;clear ab av aw;obtain⟨C,ao⟩:=jE (fun w'=>iT R w':World->Prop);have ap:∀w',C w'↔iT R w':=fun w'=>by rw[ao]
 clear ao;have j:=O ap;clear ap;have bP:C R:=(j _).2 (iT.refl _);refine wp_region_held_drew (S:=C) au ((j _).2 ((iT.refl _).drewN 1)) (fun Z=> ?_);refine aA 0 ?_;refine bD 1 F (bf F (fun E h=>bQ F F (dF (am.ext ((j E).1 h).ext) az) bY a2)) ?_;refine aA 2 ?_;refine bD 3 F (bf F (fun E h=>bQ F F (dF (an.ext ((j E).1 h).ext) aE) bY a4)) ?_;refine aA 5 ?_;refine bD 6 F (bf F (fun E h=>bQ F F (dF (am.ext ((j E).1 h).ext) aD) dh a3)) ?_;refine aA 7 ?_;refine bD 8 F (bf F (fun E h=>bQ F F (dF (an.ext ((j E).1 h).ext) aL) dh a5)) ?_;generalize R.drew=E at Z⊢;refine aZ 4 ?_;intro I u;go_wp2_with fail;refine(aR E).mono ?_;rintro e w2 ⟨rfl,aq⟩;have ad:C w2:=(j _).2 (((j _).1 Z).trans aq);go_wp2_with fail;refine u _ _ ad ?_;clear u I Z aq;refine aH ?_;refine aZ 9 ?_;intro I u;go_wp2_with fail;refine(a0 w2).mono ?_;rintro e ac ⟨rfl,ar⟩;have aa:C ac:=(j _).2 (((j _).1 ad).trans ar);go_wp2_with fail;refine u _ _ aa ?_;clear u I ad ar;refine aH ?_;refine aZ 10 ?_;intro I u;go_wp2_with fail;refine u _ _ ((j _).2 (((j _).1 aa).alloc _)) ?_;clear u I;generalize af:World.alloc ac _=ag;have aM:ah ag ac.heap.size [.int .i64 ai,.int .i64 al] 3:=by rw[<-af];exact ah.aI F F
 have ae:C ag:=by rw[<-af];exact(j _).2 (((j _).1 aa).alloc _)
 clear af aa;refine aH ?_;refine aZ 11 ?_;intro I u;go_wp2_with fail;refine(adb ai al ac.heap.size ag aM).mono ?_;rintro e a7 ⟨rfl,rfl⟩;rw[<-a1.out];go_wp2_with fail;refine u _ _ ae ?_;clear u I;have Z:=ae;refine aH ?_;refine aA 12 ?_;refine dH ?_;go_wp2_with fail;go_ret;exact⟨F,ax.trans ((j _).1 ae)⟩
theorem adh:∀j w,(callFunc 146 j).run prog w= .ok (.enter 146 j) w:=enters_of func146 au F
theorem adi{w:World}{B n:Nat}{v:Value}{ls:List iD}(own:w.ownsRow B 232 50 v n (fU o9 ls))(hn:ls.length=n)(j:n<4611686018427387904):
 Calls prog 145 #[v,.func (.func 146) #[] #[]] w fun x w'=>x= .returned (.tuple #[])/\∃es,es.Perm ls/\es.Pairwise (fun x y=>¬yc y x<0)/\w'.ownsRow B 232 50 v n (fU o9 es)/\w.grownBy w' v.ownBlock:=
 MI ac9 isAgg232 sizeOf232 IQ MW yc adf _ adg adh own hn j
theorem Us:pO prog 230 232 50 80:=⟨underlying230,⟨_,_,(info_parts EY).choose_spec.1,(info_parts EY).choose_spec.2.1,(info_parts EY).choose_spec.2.2.1,(info_parts EY).choose_spec.2.2.2,F⟩,aX⟩
end
def IU(j u:Int)(last:aj):aj:=[99,111,117,110,116,32]++Lib.itoa j++[32,116,105,109,101,32]++Lib.itoa u++[32,108,97,115,116,32]++gX last++[10]
def Na(ji:aj):aj:=[102,111,117,110,100,101,114,32]++gX ji++[10]
noncomputable def IV(rs:List aS):aj:=[112,111,108,105,99,121,32]++gX (dY 0 (lI rs rs.length))++[10]
def Dc(m:aj×aT):aj:=Lib.join ([109,101,109,98,101,114]::gX m.1::m.2.map (·.data.toList)) [32]++[10]
def Df(k:bC):aj:=[107,101,121,32]++gX k.key++[32]++k.label.data.toList++[32]++Lib.itoa k.epoch++[32]++gX k.commit++[32]++Lib.itoa (if k.rev then 1 else 0)++[32]++Lib.itoa k.esc++[32]++gX k.shared++[10]
def Dh(r:aj×(aj×(aT×Int))):aj:=Lib.join ([97,112,112,114,111,118,97,108]::gX r.1::gX r.2.1::Lib.itoa r.2.2.2::r.2.2.1.map (·.data.toList)) [32]++[10]
def uN(A:List (aj×List (aj×(aT×Int)))):List (aj×(aj×(aT×Int))):=A.flatMap fun x=>x.2.map fun y=>(x.1,y)
noncomputable def Ut(S:dw)(j:List (aj×aT))(ks:List bC)(rs:List (aj×(aj×(aT×Int)))):aj:=
 IU S.cnt S.tm S.last++(if 0<S.cnt then Na S.ji else[])++(match S.pol with|none=>[]|some q=>IV q)++j.flatMap Dc++ks.flatMap Df++rs.flatMap Dh
structure Nb(S:dw):Prop where
 m:S.ms.length<=65536
 k:S.ks.length<=65536
 r:(uN S.av).length<=65536
structure Nc(S:dw)(t:aj):Prop where
 ex:∃ms ks rs,ms.Perm S.ms/\ms.Pairwise (fun x y=>0<=eH y.1 x.1)/\ks.Perm (S.ks.map Prod.snd)/\ks.Pairwise (fun x y=>0<=eH y.key x.key)/\rs.Perm (uN S.av)/\
  rs.Pairwise (fun x y=>0<=eH (y.1++y.2.1) (x.1++x.2.1))/\t=Ut S ms ks rs
theorem Uu(x:aj)(l:List (aj))(N:Nat)(j:∀y∈l,y.length<=N):(Lib.join (x::l) [32]).length<=x.length+l.length*(N+1):=by
 induction l generalizing x with
 |nil=>simp[Lib.join]
 |cons y l E=>
  have I:=E y (fun z u=>j z (mem_cons_of_mem _ u));have R:=j y aF;have e:Lib.join (x::y::l) [32]=x++[32]++Lib.join (y::l) [32]:=by simp[Lib.join]
  rw[e];simp only[length_append,length_cons,length_nil,Nat.succ_mul,Nat.add_mul]at*;omega
theorem adk(s:ByteArray):aY s.data.toList=s:=by
 apply ByteArray.ext;simp[aY]
section
open Go Go.RowKit
section
variable {K V:Type} [DecidableEq K]
theorem Uw(hs:List (K×V))(k:K)(v:V):(dU hs k v).length<=hs.length+1:=by
 unfold dU;split<;>simp
theorem Ux(hs:List (K×V))(k:K):(iQ hs k).length<=hs.length:=(BP hs k).length_le
def vn{U:Type}(A:List (K×List U)):Nat:=(A.map fun x=>x.2.length).sum
theorem adl{U:Type}{A B:List (K×List U)}(h:A.Sublist B):vn A<=vn B:=by
 induction h with
 |slnil=>exact Nat.le_refl _
 |cons x _ j=>unfold vn at*;rw[map_cons,sum_cons];omega
 |cons_cons x _ j=>unfold vn at*;rw[map_cons,sum_cons,map_cons,sum_cons];omega
theorem Nh{U:Type}(f:List U->List U)(hf:∀l,(f l).length<=l.length):∀A:List (K×List U),vn (A.map fun y=>(y.1,f y.2))<=vn A
 |[]=>Nat.le_refl _
 |x::A=>by
  have h1:=Nh f hf A;have j:=hf x.2;unfold vn at*;rw[map_cons,map_cons,sum_cons,map_cons,sum_cons];exact Nat.add_le_add j h1
theorem Uy{U:Type}{x y:K×List U}:∀{A:List (K×List U)} {i:Nat},A[i]? =some x->vn (A.set i y)+x.2.length=vn A+y.2.length
 |[],i,h=>by simp at h
 |z::A,0,h=>by
  have e:z=x:=by simpa using h
  subst e;unfold vn;rw[set_cons_zero,map_cons,sum_cons,map_cons,sum_cons];omega
 |z::A,i+1,h=>by
  have j:=Uy (y:=y) (A:=A) (i:=i) (by simpa using h);unfold vn at*;rw[set_cons_succ,map_cons,sum_cons,map_cons,sum_cons];omega
theorem adn{M U:Type}[DecidableEq M](A:List (K×List (M×U)))(k:K)(m:M)(u:U):vn (dU A k (dU ((bW A k).getD []) m u))<=vn A+1:=by
 cases h:jq k A with
 |none=>
  have e:bW A k=none:=by unfold bW;rw[h]
  rw[e,Option.getD_none];unfold dU;rw[h];unfold vn;rw[map_append,sum_append];exact Nat.le_refl _
 |some i=>
  obtain⟨l,E⟩:=zX h;have e:bW A k=some l:=by unfold bW;rw[h];show(A[i]?).map _=_;rw[E];rfl
  rw[e,Option.getD_some];have I:=Uw l m u;generalize dU l m u=j at I;unfold dU;rw[h];show vn (A.set i (k,j))<=_;have R:=Uy (y:=(k,j)) E;have aa:((k,l):K×List (M×U)).2.length=l.length:=F;have ab:((k,j):K×List (M×U)).2.length=j.length:=F;omega
end
theorem ado(A:List (aj×List (aj×(aT×Int)))):(uN A).length=vn A:=by
 induction A with
 |nil=>rfl
 |cons x A j=>
  unfold uN vn at*;rw[flatMap_cons,length_append,length_map,map_cons,sum_cons,j]
theorem adp(S:dw)(e:aG)(x:bZ):(S.act e x).cnt=S.cnt/\(S.act e x).ms.length<=S.ms.length+1/\(S.act e x).ks.length<=S.ks.length+1/\vn (S.act e x).av<=vn S.av+1:=by
 have j:vn (S.av.map fun y=>(y.1,iQ y.2 x.member))<=vn S.av:=Nh _ (fun l=>Ux l _) S.av;have hs:=adn S.av x.commit e.bI ((bW S.ms e.bI).getD [],e.time);unfold dw.act;dsimp only
 repeat' split
 all_goals refine⟨F,?_,?_,?_⟩
 all_goals first|exact Nat.le_succ _|exact Uw _ _ _|exact Nat.le_succ_of_le (Ux _ _)|exact Nat.le_succ_of_le j|exact hs
theorem Uz(S:dw)(e:aG):(S.next e).cnt=S.cnt+1/\(S.next e).ms.length<=S.ms.length+1/\(S.next e).ks.length<=S.ks.length+1/\vn (S.next e).av<=vn S.av+1/\(S.next e).last=ig e/\(S.next e).tm=e.time:=by
 have h:=adp {S with ji:=if S.cnt=0 then e.bI else S.ji} e (mO e);generalize j:dw.act {S with ji:=if S.cnt=0 then e.bI else S.ji} e (mO e)=T at h;unfold dw.next;dsimp only;rw[j];refine⟨F,h.2.1,h.2.2.1,?_,F,F⟩;refine Nat.le_trans (Nh _ (fun l=>length_filter_le _ _) _) (Nat.le_trans ?_ h.2.2.2);split
 ·exact adl (BP _ _)
 ·exact Nat.le_refl _
theorem o_.sz{es:List aG}{S:dw}(h:o_ es S):S.cnt=es.length/\S.ms.length<=es.length/\S.ks.length<=es.length/\vn S.av<=es.length:=by
 induction h with
 |nil=>exact⟨F,Nat.le_refl _,Nat.le_refl _,Nat.le_refl _⟩
 | @snoc es S e j u I=>
  have E:=Uz S e;rw[length_append,length_singleton];omega
theorem o_.szP{es:List aG}{S:dw}(h:o_ es S)(hn:es.length<=65536):Nb S:=by
 have j:=h.sz;refine⟨J,J,?_⟩;rw[ado];omega
theorem Nj{S:dw}{e:aG}(h:S.ref e=0):dN e=0/\e.num=(S.cnt:Int)/\e.prev=S.last/\S.tm<=e.time:=by
 unfold dw.ref at h;by_cases j:dN e≠0
 ·rw[if_pos j]at h;exact absurd h j
 rw[if_neg j]at h;by_cases u:e.num≠(S.cnt:Int)
 ·rw[if_pos u]at h;cases h
 rw[if_neg u]at h;by_cases E:e.prev≠S.last
 ·rw[if_pos E]at h;cases h
 rw[if_neg E]at h;by_cases I:e.time<S.tm
 ·rw[if_pos I]at h;cases h
 exact⟨Decidable.not_not.1 j,Decidable.not_not.1 u,Decidable.not_not.1 E,J⟩
noncomputable def IW(es:List aG):aj:=match es.getLast? with|none=>kN|some e=>ig e
theorem adq(es:List aG)(e:aG):IW (es++[e])=ig e:=by
 unfold IW;rw[List.getLast?_append];rfl
theorem o_.last{es:List aG}{S:dw}(h:o_ es S):S.last=IW es:=by
 cases h with
 |nil=>rfl
 |snoc j u=>rw[adq];exact(Uz _ _).2.2.2.2.1
theorem o_.at{es:List aG}{S:dw}(h:o_ es S):∀{k:Nat} {e:aG},es[k]? =some e->dN e=0/\e.num=(k:Int)/\e.prev=IW (es.take k):=by
 induction h with
 |nil=>intro k e hk;simp at hk
 | @snoc es S E j R af=>
  intro k e hk;by_cases ae:k<es.length
  ·rw[List.getElem?_append_left ae]at hk;rw[take_append_of_le_length J];exact af hk
  ·rw[List.getElem?_append_right J]at hk;have ad:k - es.length=0:=by
    have:=(List.getElem?_eq_some_iff.1 hk).1;rw[length_singleton]at this;omega
   have u:k=es.length:=J;rw[ad]at hk;have I:E=e:=by simpa using hk
   subst I;obtain⟨aa,ab,ac,_⟩:=Nj R;refine⟨aa,by rw[ab,j.sz.1,u],?_⟩;rw[ac,j.last,u,take_left'];rfl
end
end Go.Proofs.YtjlhhnkhcbpnjaaGreatDoor
