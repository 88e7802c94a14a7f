/- Laws that the row leans on; no condition. -/
import Derived.Test.YtjlhhnkhcbpnjaaGreatDoorJM2
import Derived.Test.YtjlhhnkhcbpnjaaGreatDoorJM3
import Derived.Lib.ItoaNum
import Derived.IntWalk
import Derived.Lib.BytesEntry
import Derived.Lib.AppendStr
namespace Go.Proofs.YtjlhhnkhcbpnjaaGreatDoor
open Go Go.RowKit List Tryz
set_option linter.unusedVariables false
set_option linter.unusedSimpArgs false
set_option maxHeartbeats 40000000
set_option maxRecDepth 100000
theorem Xc{n:Nat}(h:2<=n)(I:n<=4611686018427387904):∃j,Lib.bitLen (n - 1)=j+1/\j<=61/\2^j=fB n:=by
 have hb:=Lib.bitLenAux_bounds 64 (n - 1) J J;have aa:=Lib.bitLen_le (n - 1) 62 J J;unfold Lib.bitLen at*;obtain⟨R,u,E⟩:=hb;generalize Lib.bitLenAux 64 (n - 1)=m at*;obtain⟨j,rfl⟩:∃j,m=j+1:=⟨m - 1,J⟩;rw[Nat.add_sub_cancel]at u;rw[Nat.pow_succ]at E;exact⟨j,F,J,OD J J⟩
theorem gL(n:Nat)(w:World)(h:2<=n)(ab:n<=4611686018427387904):
 Br 157 #[.int .i64 (n:Int)] w (.int .i64 (fB n:Nat)):=by
 obtain⟨j,R,ad,hs⟩:=Xc h ab;have E:=O hs;have u:=fun w=>Xb ((n - 1:Nat):Int) w J J;rw[Int.toNat_natCast,R]at u;have aa:=O u;have I:((n:Int) - 1)=((n - 1:Nat):Int):=J;have rz:=O I;have ae:=Nat.pow_le_pow_right (n:=2) J ad;clear hs u R I;go_enter func157,ntmps157;go_wp2_with fail;rw[rz.out];refine(aa w).mono ?_;rintro e w' ⟨rfl,rfl⟩;have ai:((j+1:Nat):Int) - 1=(j:Int):=J;go_wp2;go_ret;refine⟨Va (aew ?_),F⟩;have ac:((2:Int)^j)=((fB n:Nat):Int):=by rw[<-E.out];push_cast;rfl
 have af:fB n<=2305843009213693952:=by rw[<-E.out];exact Nat.le_trans ae aX
 have ag:(fB n:Int)<=2305843009213693952:=J;rw[ac,wrap64];omega
theorem Xd(n:Nat)(w:World)(h:2<=n)(ad:n<=2305843009213693952):
 Br 66 #[.int .i64 (n:Int)] w (.int .i64 (fB n:Nat)):=by
 go_enter func66,ntmps66;go_wp2
 go_loop [3] (fun k=>∃j:Nat,2^j<n/\k= .int .i64 ((2^j:Nat):Int)) (fun k=>n - (intOf k).toNat)
 case atStart=>exact⟨0,J,F⟩
 case round=>
  obtain⟨j,ab,rfl⟩:=hrel;have ae:0<2^j:=Nat.pow_pos J;have R:2^(j+1)=2^j*2:=Nat.pow_succ _ _;have I:¬2*2^j<n->2^j=fB n:=fun h=>OD ab J;obtain⟨u,aa⟩:=aB R I;clear R I;generalize E:2^j=p at*;have ac:=O E;clear E;by_cases j3:2*p<n
  ·go_wp2
   go_round
   case rel=>exact⟨j+1,by rw[u.out];omega,by rw[u.out];go_num⟩
   case measure=>simp[intOf];omega
  ·go_wp2;go_ret;refine⟨?_,F⟩;rw[aa.out j3];rfl
theorem Xe(x y:aj)(w:World)(hx:x.length=32)(ai:y.length=32):
 nW 102 #[.agg (x.map Y).toArray,.agg (y.map Y).toArray] w (.agg ((iO x y).map Y).toArray):=by
 obtain⟨a7,HY⟩:=aB hx ai;have aa:Hid (((iO x y).map Y).length=32):=O (by rw[length_map,tY]);have bd:=b_ (iO x y);have aE:(x++y).length=64:=by rw[length_append,hx,ai]
 have ag:=fun w c a h=>uV 2 (x++y) 64 c a w J J aE J h;rw[show dY 2 (x++y)=iO x y from F]at ag;have ao:=O ag;clear hx ai aE ag;generalize (iO x y).map Y=bj at*;go_enter func102,ntmps102;go_wp2_with fail;generalize iX:World.alloc (World.alloc (World.alloc w _) _) _=u;have xA:ah u w.heap.size (x.map Y) 31:=by rw[<-iX];exact((ah.aI F F).alloc _).alloc _
 have yA:ah u (w.heap.size+1) (y.map Y) 31:=by rw[<-iX];exact(ah.aI aF F).alloc _
 have zA:ah u (w.heap.size+2) (List.replicate 32 (.int .u8 0)) 31:=by rw[<-iX];exact ah.aI aF F
 have ae:X w u:=by rw[<-iX];exact((((X.refl w).alloc _).alloc _).alloc _)
 have bc:w.heap.size<=u.heap.size:=ae.size;clear iX;obtain⟨ap,aq,ZA,EA⟩:=bU xA yA zA ae;clear xA yA zA ae;obtain⟨C,iB,aJ,bP⟩:=iw (show bT w u [w.heap.size,w.heap.size+1] [(w.heap.size+2,32,31)] u from bT.yw EA (dV.two ap.lt aq.lt) ZA aF);refine fJ fun Z=> ?_;refine aA 0 ?_;refine aA 2 ?_;generalize u.drew=wD at*;have bi:u.heap.size<=wD.heap.size:=((iB wD).1 Z).kept.1;refine aZ 1 ?_;intro E j;go_wp2_with fail;refine(DL x (some ⟨w.heap.size,0,none⟩) 32 32 wD a7 J (aK.tO (((iB wD).1 Z).blk ap aF))).mono ?_;rintro e al ⟨bk,rfl,a1, -,ad⟩;have I:=aJ _ _ Z ad;go_wp2_with fail;refine j _ _ I ?_;clear Z j E;obtain⟨ab,a8,an⟩:=aW a1 (((iB al).1 I).blk aq aF) I;clear I;have ax:wD.heap.size<=al.heap.size:=ad.size;clear a1 ad;refine aH ?_;refine aZ 3 ?_;intro E j;go_wp2_with (first|(at_builtin;refine sH F _ _ F wD.heap.size (ys:=y) F F ab HY (by intro h;cases h) (aK.tO a8) J ax ?_));intro v2 w2 a2 ar;have a3:w2.ownsRow wD.heap.size 5 1 v2 64 ((x++y).map Y):=by rw[map_append];exact a2
 have a0:=pG ab;have af:C w2:=(iB w2).2 (((iB al).1 an).grown ar (by intro q ba;have:=a0 _ ba;omega) bc);go_wp2_with fail;refine j _ _ af ?_;clear j E a2 ar a0 ab an ax;obtain⟨a,c,rfl, -, -, -,az⟩:=nT a3;have uE:=O az;clear a3 az;refine aH ?_;refine aZ 4 ?_;intro E j;go_wp2_with fail;refine(ao w2 c a uE).mono ?_;rintro e a4 ⟨rfl,a_⟩;have R:=aJ _ _ af a_;go_wp2_with fail;refine j _ _ R ?_;clear j E;obtain⟨bl,F3,a5⟩:=((iB a4).1 R).Dn (r:=w.heap.size+2) (n:=32) (T:=31) aF;obtain⟨a9,tQ,a6⟩:=aW a5 F3 R;clear a5 F3 R af ao uE;refine aH ?_;refine aZ 5 ?_;intro E j;go_wp2_with (refine bg F _ _ _ F F F a9 bY tQ aa bd ?_);intro am ac be;go_wp2_with fail;have bh:=O ac;have aw:C am:=(iB am).2 (((iB a4).1 a6).store be ac (by simp[aa.out]) J (by simp<;>omega));refine j _ _ aw ?_;clear j E;refine dH ?_;go_wp2;refine gG F F ac bY aa F ⟨F,((iB am).1 aw).base⟩
theorem Bf:(prog.info? 31).map (·.size)=some 32:=au
theorem O_{P:Program}(x:aj)(p:Addr)(w:World)(aa:dP w p (x.map Y)):Sem.run P (Extern.Bytes.loadBytes p x.length ByteArray.empty) w= .ok ⟨x.toArray⟩ w:=by
 have I:=Go.Lib.run_loadBytesX (P:=P) w (x.map fun b=>(b.toNat:Int)) p .empty (fun j u E=>by
  rw[List.getElem?_map]at E;cases R:x[j]? with
  |none=>rw[R]at E;cases E
  |some b=>
   rw[R]at E;simp only[Option.map_some,Option.some.injEq]at E;subst E;exact aa j _ (by rw[List.getElem?_map,R];rfl))
 rw[length_map]at I;have e:Go.Lib.bytesOf (x.map fun b=>(b.toNat:Int))=x:=OI x;rw[e]at I;have h:(⟨ByteArray.empty.data++x.toArray⟩:ByteArray)=⟨x.toArray⟩:=by apply ByteArray.ext;show(#[]:Array UInt8)++x.toArray=x.toArray;simp
 rw[h]at I;exact I
theorem Xf{P:Program}(x y:aj)(p q:Addr)(c d:Nat)(w:World)(j:dP w p (x.map Y))(u:dP w q (y.map Y)):
 (Extern.BytealgCompare.compare #[.slice (some p) x.length c,.slice (some q) y.length d]).run P w= .ok (.int .i64 (eH x y)) w:=by
 change Sem.run P (do pure (goInt (Extern.BytealgCompare.cmp (<-Extern.Bytes.bytesOf (.slice (some p) x.length c)) (<-Extern.Bytes.bytesOf (.slice (some q) y.length d))))) w=_;simp only[Extern.Bytes.bytesOf,Sem.run_bind,Sem.run_pure,Result.andThen,O_ x p w j,O_ y q w u];rw[Lib.cmp_eq];rfl
theorem JK(x y:aj)(p q:Addr)(n m c d:Nat)(w:World)(hn:x.length=n)(E:y.length=m)(j:dP w p (x.map Y))(u:dP w q (y.map Y)):
 Br 177 #[.slice (some p) n c,.slice (some q) m d] w (.int .i64 (eH x y)):=by
 subst hn;subst E;have I:=Xf (P:=prog) x y p q c d w j u;generalize eH x y=r at*;generalize x.length=n at*;generalize y.length=m at*;clear j u;go_enter func177,ntmps177;go_wp2;rw[run_callFunc_extern func225 au au au (e:=Extern.BytealgCompare.compare) au,I];simp only[Result.andThen];rw[Oper.upon_value];go_wp2;go_ret;exact⟨F,F⟩
def iT(w w':World):Prop:=∃q j,w'=Sort.grow (w.drewN q) j
theorem iT.refl(w:World):iT w w:=⟨0,#[],by simp[Sort.grow,World.drewN]⟩
theorem iT.alloc{w w':World}(h:iT w w')(o:Obj):iT w (w'.alloc o):=by
 obtain⟨q,j,rfl⟩:=h;exact⟨q,j.push o,by simp[Sort.grow,World.alloc]⟩
theorem iT.drewN{w w':World}(h:iT w w')(n:Nat):iT w (w'.drewN n):=by
 obtain⟨q,j,rfl⟩:=h;exact⟨q+n,j,by simp[Sort.grow,World.drewN,Nat.add_assoc]⟩
theorem iT.trans{a b c:World}(h:iT a b)(k:iT b c):iT a c:=by
 obtain⟨q,j,rfl⟩:=h;obtain⟨E,u,rfl⟩:=k;exact⟨q+E,j++u,by simp[Sort.grow,World.drewN,Nat.add_assoc,Array.append_assoc]⟩
theorem iT.ext{w w':World}(h:iT w w'):X w w':=by
 obtain⟨q,u,rfl⟩:=h;refine⟨F,F,F,by simp[Sort.grow,World.drewN],fun i j=> ?_⟩;show(w.heap++u)[i]? =_;rw[Array.getElem?_append_left j]
theorem Bg{w:World}{g:Nat}{vs:aO}{T:TypeId}(h:ah w g vs T):dP w ⟨g,0,none⟩ vs:=fun j u E=>by rw[dn,Nat.zero_add];exact h.cell' E
theorem K7{G:Prop}(e:G:=by
 obtain⟨HX,HY,Dr,GA⟩:=bU hx hy (show(x.map Y).length=16 by rw[length_map];exact hx) (show(y.map Y).length=16 by rw[length_map];exact hy);clear hx hy;first|go_enter func278,ntmps278|go_enter func122,ntmps122
 go_wp2_with fail;generalize iX:World.alloc (World.alloc w _) _=wA;have xA:ah wA w.heap.size (x.map Y) 29:=by rw[<-iX];exact(ah.aI F F).alloc _
 have yA:ah wA (w.heap.size+1) (y.map Y) 29:=by rw[<-iX];exact ah.aI aF F
 have eA:iT w wA:=by rw[<-iX];exact((iT.refl w).alloc _).alloc _
 obtain⟨hb,EA⟩:=aB (fun n=>JK x y ⟨w.heap.size,0,none⟩ ⟨w.heap.size+1,0,none⟩ 16 16 16 16 (wA.drewN n) HX HY (Bg xA.drewN) (Bg yA.drewN)) eA;clear iX xA yA eA;refine wp_region_held_drew (S:=fun w'=>∃n,w'=wA.drewN n) au ⟨1,F⟩ (fun Z=> ?_);refine aA 0 ?_;refine aA 1 ?_;refine aZ 2 ?_;intro Q' hQ;obtain⟨nq,Kk⟩:=Z;generalize wA.drew=wB at*;subst Kk;go_wp2_with fail;refine(hb nq).mono ?_;rintro e w' ⟨rfl,rfl⟩;go_wp2_with fail;refine hQ _ _ ⟨nq,F⟩ ?_;clear hQ Q';have Z:∃n,wA.drewN nq=wA.drewN n:=⟨nq,F⟩;refine aH ?_;refine aA 3 ?_;refine dH ?_;go_wp2_with fail;go_ret;first|exact⟨F,(EA.drewN nq).ext⟩|exact⟨F,EA.drewN nq⟩):G:=e
theorem Xg(x y:aj)(w:World)(hx:x.length=16)(hy:y.length=16):
 Calls prog 278 #[.agg (x.map Y).toArray,.agg (y.map Y).toArray] w fun e w'=>e= .returned (.int .i64 (eH x y))/\X w w':=K7
theorem Gg(x y:aj)(w:World)(hx:x.length=16)(hy:y.length=16):
 Calls prog 122 #[.agg (x.map Y).toArray,.agg (y.map Y).toArray] w fun e w'=>e= .returned (.int .i64 (eH x y))/\iT w w':=K7
theorem Xh(x y:aj)(w:World)(j:x.length=16)(u:y.length=16):
 Calls prog 122 #[.agg (x.map Y).toArray,.agg (y.map Y).toArray] w fun e w'=>e= .returned (.int .i64 (eH x y))/\X w w':=
 (Gg x y w j u).mono fun _ _ h=>⟨h.1,h.2.ext⟩
def lT(n:Int):List Bool:=
 if n=1 then[true,false,false,false,false,false,false,false,false,false,false,false]
 else if n=2 then[false,true,true,false,false,false,false,false,false,false,false,false]
 else if n=3 then[false,true,false,false,false,false,false,false,false,false,false,false]
 else if n=4 then[false,false,false,true,true,false,false,false,false,false,false,false]
 else if n=5 then[false,false,false,false,true,true,false,false,false,false,false,false]
 else if n=6 then[false,false,false,false,true,true,true,false,false,false,false,false]
 else if n=7 then[false,false,false,false,false,false,false,true,false,false,false,false]
 else if n=8 then[false,false,false,false,true,false,false,false,false,false,false,false]
 else if n=9 then[false,false,false,false,true,true,false,false,true,true,false,false]
 else if n=10 then[false,false,false,false,true,true,false,false,false,true,false,false]
 else if n=11 then[false,false,false,false,true,false,false,false,false,false,true,false]
 else[false,false,false,false,true,false,false,false,false,false,true,true]
theorem DR(n:Int):(lT n).length=12:=by
 unfold lT;simp only[apply_ite List.length,length_cons,length_nil,ite_self]
def DT(n:Int):aO:=(lT n).map .bool
theorem sJ:iH prog 304 12:=⟨⟨_,underlying304,F⟩,au⟩
theorem Pg(n:Int)(w:World):
 nW 207 #[.int .i64 n] w (.agg (DT n).toArray):=by
 rcases(by omega:n=1∨n=2∨n=3∨n=4∨n=5∨n=6∨n=7∨n=8∨n=9∨n=10∨n=11∨(¬n=1/\¬n=2/\¬n=3/\¬n=4/\¬n=5/\¬n=6/\¬n=7/\¬n=8/\¬n=9/\¬n=10/\¬n=11))with rfl|rfl|rfl|rfl|rfl|rfl|rfl|rfl|rfl|rfl|rfl|h
 ·skip
  go_enter func207,ntmps207;go_wp2_with fail;refine gG F F (ah.aI (vs:=[.bool true,.bool false,.bool false,.bool false,.bool false,.bool false,.bool false,.bool false,.bool false,.bool false,.bool false,.bool false]) F F) sJ F F ⟨F,(X.refl w).alloc _⟩
 ·skip
  go_enter func207,ntmps207;go_wp2_with fail;refine gG F F (ah.aI (vs:=[.bool false,.bool true,.bool true,.bool false,.bool false,.bool false,.bool false,.bool false,.bool false,.bool false,.bool false,.bool false]) F F) sJ F F ⟨F,(X.refl w).alloc _⟩
 ·skip
  go_enter func207,ntmps207;go_wp2_with fail;refine gG F F (ah.aI (vs:=[.bool false,.bool true,.bool false,.bool false,.bool false,.bool false,.bool false,.bool false,.bool false,.bool false,.bool false,.bool false]) F F) sJ F F ⟨F,(X.refl w).alloc _⟩
 ·skip
  go_enter func207,ntmps207;go_wp2_with fail;refine gG F F (ah.aI (vs:=[.bool false,.bool false,.bool false,.bool true,.bool true,.bool false,.bool false,.bool false,.bool false,.bool false,.bool false,.bool false]) F F) sJ F F ⟨F,(X.refl w).alloc _⟩
 ·skip
  go_enter func207,ntmps207;go_wp2_with fail;refine gG F F (ah.aI (vs:=[.bool false,.bool false,.bool false,.bool false,.bool true,.bool true,.bool false,.bool false,.bool false,.bool false,.bool false,.bool false]) F F) sJ F F ⟨F,(X.refl w).alloc _⟩
 ·skip
  go_enter func207,ntmps207;go_wp2_with fail;refine gG F F (ah.aI (vs:=[.bool false,.bool false,.bool false,.bool false,.bool true,.bool true,.bool true,.bool false,.bool false,.bool false,.bool false,.bool false]) F F) sJ F F ⟨F,(X.refl w).alloc _⟩
 ·skip
  go_enter func207,ntmps207;go_wp2_with fail;refine gG F F (ah.aI (vs:=[.bool false,.bool false,.bool false,.bool false,.bool false,.bool false,.bool false,.bool true,.bool false,.bool false,.bool false,.bool false]) F F) sJ F F ⟨F,(X.refl w).alloc _⟩
 ·skip
  go_enter func207,ntmps207;go_wp2_with fail;refine gG F F (ah.aI (vs:=[.bool false,.bool false,.bool false,.bool false,.bool true,.bool false,.bool false,.bool false,.bool false,.bool false,.bool false,.bool false]) F F) sJ F F ⟨F,(X.refl w).alloc _⟩
 ·skip
  go_enter func207,ntmps207;go_wp2_with fail;refine gG F F (ah.aI (vs:=[.bool false,.bool false,.bool false,.bool false,.bool true,.bool true,.bool false,.bool false,.bool true,.bool true,.bool false,.bool false]) F F) sJ F F ⟨F,(X.refl w).alloc _⟩
 ·skip
  go_enter func207,ntmps207;go_wp2_with fail;refine gG F F (ah.aI (vs:=[.bool false,.bool false,.bool false,.bool false,.bool true,.bool true,.bool false,.bool false,.bool false,.bool true,.bool false,.bool false]) F F) sJ F F ⟨F,(X.refl w).alloc _⟩
 ·skip
  go_enter func207,ntmps207;go_wp2_with fail;refine gG F F (ah.aI (vs:=[.bool false,.bool false,.bool false,.bool false,.bool true,.bool false,.bool false,.bool false,.bool false,.bool false,.bool true,.bool false]) F F) sJ F F ⟨F,(X.refl w).alloc _⟩
 ·have j:DT n=[.bool false,.bool false,.bool false,.bool false,.bool true,.bool false,.bool false,.bool false,.bool false,.bool false,.bool true,.bool true]:=by unfold DT lT;rw[if_neg h.1,if_neg h.2.1,if_neg h.2.2.1,if_neg h.2.2.2.1,if_neg h.2.2.2.2.1,if_neg h.2.2.2.2.2.1,if_neg h.2.2.2.2.2.2.1,if_neg h.2.2.2.2.2.2.2.1,if_neg h.2.2.2.2.2.2.2.2.1,if_neg h.2.2.2.2.2.2.2.2.2.1,if_neg h.2.2.2.2.2.2.2.2.2.2];rfl
  rw[j];have u:(n==1)=false:=by simpa using h.1
  have ai:decide (n=1)=false:=aP h.1;have E:(n==2)=false:=by simpa using h.2.1
  have al:decide (n=2)=false:=aP h.2.1;have R:(n==3)=false:=by simpa using h.2.2.1
  have r2:decide (n=3)=false:=aP h.2.2.1;have aa:(n==4)=false:=by simpa using h.2.2.2.1
  have an:decide (n=4)=false:=aP h.2.2.2.1;have ab:(n==5)=false:=by simpa using h.2.2.2.2.1
  have ao:decide (n=5)=false:=aP h.2.2.2.2.1;have ac:(n==6)=false:=by simpa using h.2.2.2.2.2.1
  have ap:decide (n=6)=false:=aP h.2.2.2.2.2.1;have ad:(n==7)=false:=by simpa using h.2.2.2.2.2.2.1
  have aq:decide (n=7)=false:=aP h.2.2.2.2.2.2.1;have ae:(n==8)=false:=by simpa using h.2.2.2.2.2.2.2.1
  have ar:decide (n=8)=false:=aP h.2.2.2.2.2.2.2.1;have af:(n==9)=false:=by simpa using h.2.2.2.2.2.2.2.2.1
  have aw:decide (n=9)=false:=aP h.2.2.2.2.2.2.2.2.1;have ag:(n==10)=false:=by simpa using h.2.2.2.2.2.2.2.2.2.1
  have ax:decide (n=10)=false:=aP h.2.2.2.2.2.2.2.2.2.1;have I:(n==11)=false:=by simpa using h.2.2.2.2.2.2.2.2.2.2
  have am:decide (n=11)=false:=aP h.2.2.2.2.2.2.2.2.2.2;clear h j;go_enter func207,ntmps207;go_wp2_with fail;refine gG F F (ah.aI (vs:=[.bool false,.bool false,.bool false,.bool false,.bool true,.bool false,.bool false,.bool false,.bool false,.bool false,.bool true,.bool true]) F F) sJ F F ⟨F,(X.refl w).alloc _⟩
structure ay where
 text:ByteArray
 member:aj
 ra:aN
 rn:Nat
 rc:Nat
 roles:aT
 label:ByteArray
 commit:aj
 epoch:Int
 purpose:Int
 reason:Int
 need:Int
 version:Int
 count:Int
 ha:aN
 hn:Nat
 hc:Nat
 mK:List (aj)
def ay.t(b:ay):aO:=[.int .i64 b.epoch,.int .i64 b.purpose,.int .i64 b.reason,.int .i64 b.need,.int .i64 b.version,.int .i64 b.count,.slice b.ha b.hn b.hc]
def ay.v(b:ay):aO:= .string b.text::(b.member.map Y++(.slice b.ra b.rn b.rc:: .string b.label::(b.commit.map Y++b.t)))
def oP(l:List (aj)):Prop:=∀x∈l,x.length=16
structure ay.Ok(w:World)(b:ay):Prop where
 ts:b.text.size<=140737488355328
 hm:b.member.length=16
 hcm:b.commit.length=32
 rl:b.roles.length=b.rn
 qZ:b.rn<=b.rc
 rm:b.rn<=140737488355328
 nU:aK w b.ra (b.roles.map bM)
 rs:∀s∈b.roles,s.size<=140737488355328
 ls:b.label.size<=140737488355328
 hl:b.mK.length=b.hn
 hnc:b.hn<=b.hc
 vZ:b.hn<=140737488355328
 h16:oP b.mK
 hcell:aK w b.ha (dB b.mK)
theorem ay.Ok.ext{w w':World}{b:ay}(h:b.Ok w)(e:X w w'):b.Ok w':=
 ⟨h.ts,h.hm,h.hcm,h.rl,h.qZ,h.rm,h.nU.ext e,h.rs,h.ls,h.hl,h.hnc,h.vZ,h.h16,h.hcell.ext e⟩
theorem ay.len{w:World}{b:ay}(h:b.Ok w):b.v.length=58:=by unfold ay.v ay.t;simp[h.hm,h.hcm]
theorem eP:iH prog 101 58:=⟨⟨_,underlying101,F⟩,au⟩
theorem lC{x:Value}{l r:aO}{n i:Nat}(j:l.length=n):(x::(l++r))[n+1+i]? =r[i]? :=by grind
theorem ay.aL(b:ay):b.v[0]? =some (.string b.text):=F
theorem ay.pI{w:World}{b:ay}(h:b.Ok w):b.v[17]? =some (.slice b.ra b.rn b.rc):=by
 unfold ay.v;exact lC (n:=16) (i:=0) (by rw[length_map,h.hm])
theorem ay.zH{w:World}{b:ay}(h:b.Ok w):b.v[18]? =some (.string b.label):=by
 unfold ay.v;exact lC (n:=16) (i:=1) (by rw[length_map,h.hm])
theorem ay.zI{w:World}{b:ay}(h:b.Ok w)(i:Nat):b.v[51+i]? =b.t[i]? :=by
 unfold ay.v;rw[show 51+i=16+1+(32+1+(i+1)) by omega,lC (by rw[length_map,h.hm])];rw[show 32+1+(i+1)=(32+1+i)+1 by omega,List.getElem?_cons_succ];exact lC (n:=32) (by rw[length_map,h.hcm])
theorem ay.mD{w:World}{b:ay}(h:b.Ok w):b.v[51]? =some (.int .i64 b.epoch):=ay.zI h 0
theorem ay.nV{w:World}{b:ay}(h:b.Ok w):b.v[52]? =some (.int .i64 b.purpose):=ay.zI h 1
theorem ay.oQ{w:World}{b:ay}(h:b.Ok w):b.v[53]? =some (.int .i64 b.reason):=ay.zI h 2
theorem ay.xw{w:World}{b:ay}(h:b.Ok w):b.v[54]? =some (.int .i64 b.need):=ay.zI h 3
theorem ay.GQ{w:World}{b:ay}(h:b.Ok w):b.v[55]? =some (.int .i64 b.version):=ay.zI h 4
theorem ay.Bh{w:World}{b:ay}(h:b.Ok w):b.v[56]? =some (.int .i64 b.count):=ay.zI h 5
theorem ay.xB{w:World}{b:ay}(h:b.Ok w):b.v[57]? =some (.slice b.ha b.hn b.hc):=ay.zI h 6
theorem ay.JL{w:World}{b:ay}{g:Nat}(h:b.Ok w)(hb:ah w g b.v 101):dP w ⟨g,1,none⟩ (b.member.map Y):=by
 intro j u E;rw[dn];refine hb.cell' ?_;unfold ay.v;rw[show 1+j=j+1 by omega,List.getElem?_cons_succ,List.getElem?_append_left (List.getElem?_eq_some_iff.1 E).1];exact E
theorem ay.comm{w:World}{b:ay}{g:Nat}(h:b.Ok w)(hb:ah w g b.v 101):dP w ⟨g,19,none⟩ (b.commit.map Y):=by
 intro j u E;rw[dn];refine hb.cell' ?_;unfold ay.v;rw[show 19+j=16+1+(j+2) by omega,lC (by rw[length_map,h.hm]),List.getElem?_cons_succ,List.getElem?_cons_succ,List.getElem?_append_left (List.getElem?_eq_some_iff.1 E).1];exact E
def ay.set(b:ay):List Bool:=[!b.text.toList.isEmpty,!(b.member==List.replicate 16 0),decide (0<b.rn),!b.label.toList.isEmpty,!(b.commit==List.replicate 32 0),b.epoch != 0,b.purpose != 0,b.reason != 0,b.need != 0,decide (0<b.hn),b.version != 0,b.count != 0]
def nX(b:ay)(n:List Bool):Bool:=(n.zip b.set).any fun p=> !p.1&&p.2
def kU(s:ByteArray):aj:=UInt8.ofNat s.size::s.data.toList
theorem DU(s:ByteArray):(kU s).length=s.size+1:=by simp_all [kU]
theorem Xi(n:Nat):IntKind.u8.wrap (n:Int)=((UInt8.ofNat n).toNat:Int):=by
 have h:(UInt8.ofNat n).toNat=n%256:=UInt8.toNat_ofNat;rw[h];show(n:Int)%256=_;omega
theorem Below.blk{B:Nat}{w w':World}{g:Nat}{vs:aO}{T:TypeId}(h:Below B w w')(j:g<B)(hb:ah w g vs T):ah w' g vs T:=by
 unfold ah at*;rw[h.block g j];exact hb
section
open Go Go.RowKit
theorem jm{P:Program}{o:Oper}{a:Act}{j:BinOp}{t u:TypeId}{x y:Operand}(I:o.op= .binOp j t x y u){xs ys:Array Value}{b:Value}(aa:a.eval x= .agg xs)(ab:a.eval y= .agg ys)
 (E:P.eqGuardType P.depth t=false)(R:∀w,(binOp j t (.agg xs) (.agg ys)).run P w= .ok b w)(w:World):(execOp a.eval o).run P w= .ok (.value b) w:=by
 unfold execOp;simp only[I,aa,ab,Sem.run_bind,run_eqGuard_agg w j t x y xs ys E,Result.andThen_ok,R,Sem.run_pure]
theorem oD:prog.eqGuardType prog.depth 29=false:=au
section
variable {P:Program} {ops:Array Oper} {rest:List Oper} {o:Oper} {a:Act} {w:World} {Q:Exit->Act->World->Prop}
theorem oU{v:Value}(j:(Region.wanted o (yielded ops a.tmps)=true/\(execOp a.eval o).run P w= .ok (.value v) w)∨(Region.wanted o (yielded ops a.tmps)=false/\v=undef))(h:wpList P ops Q rest (a.put o.dst v) w):wpList P ops Q (o::rest) a w:=by grind [jU,wpList_skip]
theorem ku{v:Value}{j:Prop}(h:j)(u:((Region.wanted o (yielded ops a.tmps)=true/\(execOp a.eval o).run P w= .ok (.value v) w)∨(Region.wanted o (yielded ops a.tmps)=false/\v=undef)):=by(first|exact .inl ⟨F,by first|(go_simp;try with_reducible rfl)⟩|exact .inr ⟨F,F⟩))(hx:j->wpList P ops Q rest (a.put o.dst v) w:=by(intro hx;(try simp only[Act.put,setIfInBounds_toArray,set_cons_succ,set_cons_zero]);exact hx)):wpList P ops Q (o::rest) a w:=oU u (hx h)
theorem dD(b:Bool){v:Value}{j:Prop}(h:j)(u:(b=true->((Region.wanted o (yielded ops a.tmps)=true/\(execOp a.eval o).run P w= .ok (.value v) w)∨(Region.wanted o (yielded ops a.tmps)=false/\v=undef)))/\(b=false->((Region.wanted o (yielded ops a.tmps)=true/\(execOp a.eval o).run P w= .ok (.value v) w)∨(Region.wanted o (yielded ops a.tmps)=false/\v=undef))):=by(refine⟨fun kC=> ?_,fun kC=> ?_⟩<;>(subst kC;first|exact .inl ⟨F,by first|(go_simp;try with_reducible rfl)⟩|exact .inr ⟨F,F⟩)))(hx:j->wpList P ops Q rest (a.put o.dst v) w:=by(intro hx;(try simp only[Act.put,setIfInBounds_toArray,set_cons_succ,set_cons_zero]);exact hx)):wpList P ops Q (o::rest) a w:=oU (by cases hb:b with|true=>exact u.1 hb|false=>exact u.2 hb) (hx h)
theorem iL(b c:Bool){v:Value}{u:Prop}(h:u)(j:(b=true->(c=true->((Region.wanted o (yielded ops a.tmps)=true/\(execOp a.eval o).run P w= .ok (.value v) w)∨(Region.wanted o (yielded ops a.tmps)=false/\v=undef)))/\(c=false->((Region.wanted o (yielded ops a.tmps)=true/\(execOp a.eval o).run P w= .ok (.value v) w)∨(Region.wanted o (yielded ops a.tmps)=false/\v=undef))))/\(b=false->(c=true->((Region.wanted o (yielded ops a.tmps)=true/\(execOp a.eval o).run P w= .ok (.value v) w)∨(Region.wanted o (yielded ops a.tmps)=false/\v=undef)))/\(c=false->((Region.wanted o (yielded ops a.tmps)=true/\(execOp a.eval o).run P w= .ok (.value v) w)∨(Region.wanted o (yielded ops a.tmps)=false/\v=undef)))):=by(refine⟨fun kC=>⟨fun Gh=> ?_,fun Gh=> ?_⟩,fun kC=>⟨fun Gh=> ?_,fun Gh=> ?_⟩⟩<;>(subst kC;subst Gh;first|exact .inl ⟨F,by first|(go_simp;try with_reducible rfl)⟩|exact .inr ⟨F,F⟩)))(hx:u->wpList P ops Q rest (a.put o.dst v) w:=by(intro hx;(try simp only[Act.put,setIfInBounds_toArray,set_cons_succ,set_cons_zero]);exact hx)):wpList P ops Q (o::rest) a w:=oU (by cases hb:b with|true=>(cases hc:c with|true=>exact(j.1 hb).1 hc|false=>exact(j.1 hb).2 hc)|false=>(cases hc:c with|true=>exact(j.2 hb).1 hc|false=>exact(j.2 hb).2 hc)) (hx h)
end
theorem Xj(b:ay)(az ag ai ap al aq ar aw ax am an ao:Bool)(w:World)(bl:b.Ok w):
 nW 275 #[.agg b.v.toArray,.agg #[.bool az,.bool ag,.bool ai,.bool ap,.bool al,.bool aq,.bool ar,.bool aw,.bool ax,.bool am,.bool an,.bool ao]] w (.bool (nX b [az,ag,ai,ap,al,aq,ar,aw,ax,am,an,ao])):=by
 have aE:=O bl;clear bl;go_enter func275,ntmps275;go_upto_region 1 with(fail);generalize iX:World.alloc (World.alloc w _) _=a0;have a4:ah a0 w.heap.size b.v 101:=by rw[<-iX];exact(ah.aI F F).alloc _
 have a1:ah a0 (w.heap.size+1) [.bool az,.bool ag,.bool ai,.bool ap,.bool al,.bool aq,.bool ar,.bool aw,.bool ax,.bool am,.bool an,.bool ao] 304:=by rw[<-iX];exact ah.aI aF F
 have a5:X w a0:=by rw[<-iX];exact((X.refl w).alloc _).alloc _
 obtain⟨a2,EA⟩:=aB a4 a5;clear iX a4 a5;have b7:a0.cell? ⟨w.heap.size+1,0,none⟩=some (.bool az):=a1.cell' F;have b8:a0.cell? ⟨w.heap.size+1,1,none⟩=some (.bool ag):=a1.cell' F;have n2:a0.cell? ⟨w.heap.size+1,2,none⟩=some (.bool ai):=a1.cell' F;have ca:a0.cell? ⟨w.heap.size+1,3,none⟩=some (.bool ap):=a1.cell' F;have cb:a0.cell? ⟨w.heap.size+1,4,none⟩=some (.bool al):=a1.cell' F;have cc:a0.cell? ⟨w.heap.size+1,5,none⟩=some (.bool aq):=a1.cell' F;have cd:a0.cell? ⟨w.heap.size+1,6,none⟩=some (.bool ar):=a1.cell' F;have ce:a0.cell? ⟨w.heap.size+1,7,none⟩=some (.bool aw):=a1.cell' F;have cf:a0.cell? ⟨w.heap.size+1,8,none⟩=some (.bool ax):=a1.cell' F;have cg:a0.cell? ⟨w.heap.size+1,9,none⟩=some (.bool am):=a1.cell' F;have b9:a0.cell? ⟨w.heap.size+1,10,none⟩=some (.bool an):=a1.cell' F;have b':a0.cell? ⟨w.heap.size+1,11,none⟩=some (.bool ao):=a1.cell' F;clear a1;have bw:=a2.cell' (ay.aL b);have bx:=a2.cell' (ay.pI aE);have bz:=a2.cell' (ay.zH aE);have b0:=a2.cell' (ay.mD aE);have b1:=a2.cell' (ay.nV aE);have b2:=a2.cell' (ay.oQ aE);have b3:=a2.cell' (ay.xw aE);have b4:=a2.cell' (ay.GQ aE);have b5:=a2.cell' (ay.Bh aE);have b6:=a2.cell' (ay.xB aE);obtain⟨bo,bm,bt,bp,bv,bu⟩:=iq (ay.JL (b:=b) (aE.ext EA) a2) (ay.comm (b:=b) (aE.ext EA) a2) (show(b.member.map Y).length=16 by rw[length_map];exact aE.hm) (show(b.commit.map Y).length=32 by rw[length_map];exact aE.hcm) (fun w=>vY underlying29 b.member (List.replicate 16 0) aE.hm aF w) (fun w=>vY underlying31 b.commit (List.replicate 32 0) aE.hcm aF w)
 refine wp_region_list ?_;refine ku (v:= .pointer (some ⟨w.heap.size+1,0,none⟩)) ?_;refine ku (v:= .bool az) ?_;refine ku (v:= .bool (!az)) ?_;refine ku (v:= .bool (!az)) ?_;refine dD az (v:=bif az then undef else .pointer (some ⟨w.heap.size,0,none⟩)) ?_;refine dD az (v:=bif az then undef else .string b.text) ?_;refine dD az (v:=bif az then undef else .bool (!b.text.toList.isEmpty)) ?_;refine dD az (v:= .bool (!az&& !b.text.toList.isEmpty)) ?_;generalize a6:(!az&& !b.text.toList.isEmpty)=j;refine ku (v:= .bool j) ?_;refine dD j (v:=bif j then undef else .pointer (some ⟨w.heap.size+1,1,none⟩)) ?_;refine dD j (v:=bif j then undef else .bool ag) ?_;refine dD j (v:=bif j then undef else .bool (!ag)) ?_;refine dD j (v:=bif j then undef else .bool (!ag)) ?_;refine iL j ag (v:=bif (j||ag)then undef else .pointer (some ⟨w.heap.size,1,none⟩)) ?_;refine oU (v:=bif (j||ag)then undef else .agg (b.member.map Y).toArray) ?hy15 ?hz15
 case hy15=>((cases j<;>cases ag)<;>(first|exact .inl ⟨F,by first|(simp only[Bool.or_self,cond_false];exact bQ F F bo dh bt)⟩|exact .inr ⟨F,F⟩))
 case hz15=>
 refine lY ?_;refine oU (v:=bif (j||ag)then undef else .agg ((List.replicate 16 (0:UInt8)).map Y).toArray) ?hy16 ?hz16
 case hy16=>((cases j<;>cases ag)<;>(first|exact .inl ⟨F,by first|(go_simp;first|with_reducible rfl|rfl|done)⟩|exact .inr ⟨F,F⟩))
 case hz16=>
 refine lY ?_;refine oU (v:=bif (j||ag)then undef else .bool (!(b.member==List.replicate 16 0))) ?hy17 ?hz17
 case hy17=>((cases j<;>cases ag)<;>(first|exact .inl ⟨F,by first|(simp only[Bool.or_self,cond_false];exact jm F F F oD bv _)⟩|exact .inr ⟨F,F⟩))
 case hz17=>
 refine lY ?_;refine iL j ag (v:=bif j then undef else .bool (!ag&& !(b.member==List.replicate 16 0))) ?_;refine dD j (v:= .bool (j||(!ag&& !(b.member==List.replicate 16 0)))) ?_;generalize a_:(j||(!ag&& !(b.member==List.replicate 16 0)))=u;refine ku (v:= .bool u) ?_;refine dD u (v:=bif u then undef else .pointer (some ⟨w.heap.size+1,2,none⟩)) ?_;refine dD u (v:=bif u then undef else .bool ai) ?_;refine dD u (v:=bif u then undef else .bool (!ai)) ?_;refine dD u (v:=bif u then undef else .bool (!ai)) ?_;refine iL u ai (v:=bif (u||ai)then undef else .pointer (some ⟨w.heap.size,17,none⟩)) ?_;refine iL u ai (v:=bif (u||ai)then undef else .slice b.ra b.rn b.rc) ?_;refine iL u ai (v:=bif (u||ai)then undef else .int .i64 (b.rn:Int)) ?_;refine oU (v:=bif (u||ai)then undef else .bool (decide (0<b.rn))) ?hy28 ?hz28
 case hy28=>((cases u<;>cases ai)<;>(first|exact .inl ⟨F,by first|(go_simp;first|with_reducible rfl|rfl|done)⟩|exact .inr ⟨F,F⟩))
 case hz28=>
 refine lY ?_;refine iL u ai (v:=bif u then undef else .bool (!ai&&decide (0<b.rn))) ?_;refine dD u (v:= .bool (u||(!ai&&decide (0<b.rn)))) ?_;generalize ba:(u||(!ai&&decide (0<b.rn)))=ab;refine ku (v:= .bool ab) ?_;refine dD ab (v:=bif ab then undef else .pointer (some ⟨w.heap.size+1,3,none⟩)) ?_;refine dD ab (v:=bif ab then undef else .bool ap) ?_;refine dD ab (v:=bif ab then undef else .bool (!ap)) ?_;refine dD ab (v:=bif ab then undef else .bool (!ap)) ?_;refine iL ab ap (v:=bif (ab||ap)then undef else .pointer (some ⟨w.heap.size,18,none⟩)) ?_;refine iL ab ap (v:=bif (ab||ap)then undef else .string b.label) ?_;refine iL ab ap (v:=bif (ab||ap)then undef else .bool (!b.label.toList.isEmpty)) ?_;refine iL ab ap (v:=bif ab then undef else .bool (!ap&& !b.label.toList.isEmpty)) ?_;refine dD ab (v:= .bool (ab||(!ap&& !b.label.toList.isEmpty))) ?_;generalize bc:(ab||(!ap&& !b.label.toList.isEmpty))=E;refine ku (v:= .bool E) ?_;refine dD E (v:=bif E then undef else .pointer (some ⟨w.heap.size+1,4,none⟩)) ?_;refine dD E (v:=bif E then undef else .bool al) ?_;refine dD E (v:=bif E then undef else .bool (!al)) ?_;refine dD E (v:=bif E then undef else .bool (!al)) ?_;refine iL E al (v:=bif (E||al)then undef else .pointer (some ⟨w.heap.size,19,none⟩)) ?_;refine oU (v:=bif (E||al)then undef else .agg (b.commit.map Y).toArray) ?hy47 ?hz47
 case hy47=>((cases E<;>cases al)<;>(first|exact .inl ⟨F,by first|(simp only[Bool.or_self,cond_false];exact bQ F F bm bY bp)⟩|exact .inr ⟨F,F⟩))
 case hz47=>
 refine lY ?_;refine oU (v:=bif (E||al)then undef else .agg ((List.replicate 32 (0:UInt8)).map Y).toArray) ?hy48 ?hz48
 case hy48=>((cases E<;>cases al)<;>(first|exact .inl ⟨F,by first|(go_simp;first|with_reducible rfl|rfl|done)⟩|exact .inr ⟨F,F⟩))
 case hz48=>
 refine lY ?_;refine oU (v:=bif (E||al)then undef else .bool (!(b.commit==List.replicate 32 0))) ?hy49 ?hz49
 case hy49=>((cases E<;>cases al)<;>(first|exact .inl ⟨F,by first|(simp only[Bool.or_self,cond_false];exact jm F F F O5 bu _)⟩|exact .inr ⟨F,F⟩))
 case hz49=>
 refine lY ?_;refine iL E al (v:=bif E then undef else .bool (!al&& !(b.commit==List.replicate 32 0))) ?_;refine dD E (v:= .bool (E||(!al&& !(b.commit==List.replicate 32 0)))) ?_;generalize bd:(E||(!al&& !(b.commit==List.replicate 32 0)))=ac;refine ku (v:= .bool ac) ?_;refine dD ac (v:=bif ac then undef else .pointer (some ⟨w.heap.size+1,5,none⟩)) ?_;refine dD ac (v:=bif ac then undef else .bool aq) ?_;refine dD ac (v:=bif ac then undef else .bool (!aq)) ?_;refine dD ac (v:=bif ac then undef else .bool (!aq)) ?_;refine iL ac aq (v:=bif (ac||aq)then undef else .pointer (some ⟨w.heap.size,51,none⟩)) ?_;refine iL ac aq (v:=bif (ac||aq)then undef else .int .i64 b.epoch) ?_;refine oU (v:=bif (ac||aq)then undef else .bool (b.epoch != 0)) ?hy59 ?hz59
 case hy59=>((cases ac<;>cases aq)<;>(first|exact .inl ⟨F,by first|(go_simp;first|with_reducible rfl|rfl|done)⟩|exact .inr ⟨F,F⟩))
 case hz59=>
 refine lY ?_;refine iL ac aq (v:=bif ac then undef else .bool (!aq&&b.epoch != 0)) ?_;refine dD ac (v:= .bool (ac||(!aq&&b.epoch != 0))) ?_;generalize be:(ac||(!aq&&b.epoch != 0))=ad;refine ku (v:= .bool ad) ?_;refine dD ad (v:=bif ad then undef else .pointer (some ⟨w.heap.size+1,6,none⟩)) ?_;refine dD ad (v:=bif ad then undef else .bool ar) ?_;refine dD ad (v:=bif ad then undef else .bool (!ar)) ?_;refine dD ad (v:=bif ad then undef else .bool (!ar)) ?_;refine iL ad ar (v:=bif (ad||ar)then undef else .pointer (some ⟨w.heap.size,52,none⟩)) ?_;refine iL ad ar (v:=bif (ad||ar)then undef else .int .i64 b.purpose) ?_;refine oU (v:=bif (ad||ar)then undef else .bool (b.purpose != 0)) ?hy69 ?hz69
 case hy69=>((cases ad<;>cases ar)<;>(first|exact .inl ⟨F,by first|(go_simp;first|with_reducible rfl|rfl|done)⟩|exact .inr ⟨F,F⟩))
 case hz69=>
 refine lY ?_;refine iL ad ar (v:=bif ad then undef else .bool (!ar&&b.purpose != 0)) ?_;refine dD ad (v:= .bool (ad||(!ar&&b.purpose != 0))) ?_;generalize bh:(ad||(!ar&&b.purpose != 0))=ae;refine ku (v:= .bool ae) ?_;refine dD ae (v:=bif ae then undef else .pointer (some ⟨w.heap.size+1,7,none⟩)) ?_;refine dD ae (v:=bif ae then undef else .bool aw) ?_;refine dD ae (v:=bif ae then undef else .bool (!aw)) ?_;refine dD ae (v:=bif ae then undef else .bool (!aw)) ?_;refine iL ae aw (v:=bif (ae||aw)then undef else .pointer (some ⟨w.heap.size,53,none⟩)) ?_;refine iL ae aw (v:=bif (ae||aw)then undef else .int .i64 b.reason) ?_;refine oU (v:=bif (ae||aw)then undef else .bool (b.reason != 0)) ?hy79 ?hz79
 case hy79=>((cases ae<;>cases aw)<;>(first|exact .inl ⟨F,by first|(go_simp;first|with_reducible rfl|rfl|done)⟩|exact .inr ⟨F,F⟩))
 case hz79=>
 refine lY ?_;refine iL ae aw (v:=bif ae then undef else .bool (!aw&&b.reason != 0)) ?_;refine dD ae (v:= .bool (ae||(!aw&&b.reason != 0))) ?_;generalize bi:(ae||(!aw&&b.reason != 0))=af;refine ku (v:= .bool af) ?_;refine dD af (v:=bif af then undef else .pointer (some ⟨w.heap.size+1,8,none⟩)) ?_;refine dD af (v:=bif af then undef else .bool ax) ?_;refine dD af (v:=bif af then undef else .bool (!ax)) ?_;refine dD af (v:=bif af then undef else .bool (!ax)) ?_;refine iL af ax (v:=bif (af||ax)then undef else .pointer (some ⟨w.heap.size,54,none⟩)) ?_;refine iL af ax (v:=bif (af||ax)then undef else .int .i64 b.need) ?_;refine oU (v:=bif (af||ax)then undef else .bool (b.need != 0)) ?hy89 ?hz89
 case hy89=>((cases af<;>cases ax)<;>(first|exact .inl ⟨F,by first|(go_simp;first|with_reducible rfl|rfl|done)⟩|exact .inr ⟨F,F⟩))
 case hz89=>
 refine lY ?_;refine iL af ax (v:=bif af then undef else .bool (!ax&&b.need != 0)) ?_;refine dD af (v:= .bool (af||(!ax&&b.need != 0))) ?_;generalize bj:(af||(!ax&&b.need != 0))=I;refine ku (v:= .bool I) ?_;refine dD I (v:=bif I then undef else .pointer (some ⟨w.heap.size+1,9,none⟩)) ?_;refine dD I (v:=bif I then undef else .bool am) ?_;refine dD I (v:=bif I then undef else .bool (!am)) ?_;refine dD I (v:=bif I then undef else .bool (!am)) ?_;refine iL I am (v:=bif (I||am)then undef else .pointer (some ⟨w.heap.size,57,none⟩)) ?_;refine iL I am (v:=bif (I||am)then undef else .slice b.ha b.hn b.hc) ?_;refine iL I am (v:=bif (I||am)then undef else .int .i64 (b.hn:Int)) ?_;refine oU (v:=bif (I||am)then undef else .bool (decide (0<b.hn))) ?hy100 ?hz100
 case hy100=>((cases I<;>cases am)<;>(first|exact .inl ⟨F,by first|(go_simp;first|with_reducible rfl|rfl|done)⟩|exact .inr ⟨F,F⟩))
 case hz100=>
 refine lY ?_;refine iL I am (v:=bif I then undef else .bool (!am&&decide (0<b.hn))) ?_;refine dD I (v:= .bool (I||(!am&&decide (0<b.hn)))) ?_;generalize a7:(I||(!am&&decide (0<b.hn)))=R;refine ku (v:= .bool R) ?_;refine dD R (v:=bif R then undef else .pointer (some ⟨w.heap.size+1,10,none⟩)) ?_;refine dD R (v:=bif R then undef else .bool an) ?_;refine dD R (v:=bif R then undef else .bool (!an)) ?_;refine dD R (v:=bif R then undef else .bool (!an)) ?_;refine iL R an (v:=bif (R||an)then undef else .pointer (some ⟨w.heap.size,55,none⟩)) ?_;refine iL R an (v:=bif (R||an)then undef else .int .i64 b.version) ?_;refine oU (v:=bif (R||an)then undef else .bool (b.version != 0)) ?hy110 ?hz110
 case hy110=>((cases R<;>cases an)<;>(first|exact .inl ⟨F,by first|(go_simp;first|with_reducible rfl|rfl|done)⟩|exact .inr ⟨F,F⟩))
 case hz110=>
 refine lY ?_;refine iL R an (v:=bif R then undef else .bool (!an&&b.version != 0)) ?_;refine dD R (v:= .bool (R||(!an&&b.version != 0))) ?_;generalize a8:(R||(!an&&b.version != 0))=aa;refine ku (v:= .bool aa) ?_;refine dD aa (v:=bif aa then undef else .pointer (some ⟨w.heap.size+1,11,none⟩)) ?_;refine dD aa (v:=bif aa then undef else .bool ao) ?_;refine dD aa (v:=bif aa then undef else .bool (!ao)) ?_;refine dD aa (v:=bif aa then undef else .bool (!ao)) ?_;refine iL aa ao (v:=bif (aa||ao)then undef else .pointer (some ⟨w.heap.size,56,none⟩)) ?_;refine iL aa ao (v:=bif (aa||ao)then undef else .int .i64 b.count) ?_;refine oU (v:=bif (aa||ao)then undef else .bool (b.count != 0)) ?hy120 ?hz120
 case hy120=>((cases aa<;>cases ao)<;>(first|exact .inl ⟨F,by first|(go_simp;first|with_reducible rfl|rfl|done)⟩|exact .inr ⟨F,F⟩))
 case hz120=>
 refine lY ?_;refine iL aa ao (v:=bif aa then undef else .bool (!ao&&b.count != 0)) ?_;refine dD aa (v:= .bool (aa||(!ao&&b.count != 0))) ?_;generalize a9:(aa||(!ao&&b.count != 0))=a3;refine ku (v:= .bool a3) ?_;have bk:nX b [az,ag,ai,ap,al,aq,ar,aw,ax,am,an,ao]=a3:=by rw[<-a9,<-a8,<-a7,<-bj,<-bi,<-bh,<-be,<-bd,<-bc,<-ba,<-a_,<-a6];simp only[nX,ay.set,zip_cons_cons,zip_nil_right,any_cons,any_nil,Bool.or_false,Bool.or_assoc]
 have br:=O bk;clear bk a6 a_ ba bc bd be bh bi bj a7 a8 a9;go_wp2_with fail;go_ret;exact⟨by rw[br.out];rfl,EA⟩
end
end Go.Proofs.YtjlhhnkhcbpnjaaGreatDoor
