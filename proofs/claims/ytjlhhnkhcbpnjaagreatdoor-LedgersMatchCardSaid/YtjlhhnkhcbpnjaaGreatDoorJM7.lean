/- Laws that the row leans on; no condition. -/
import Derived.Test.YtjlhhnkhcbpnjaaGreatDoorJM6
import Derived.Laws.Runes
import Derived.Laws.RangeAny
import Derived.Laws.RangeString
import Derived.Lib.OthersKept
import Derived.Lib.TrimU
import Derived.Deep.LoopGhost
import Derived.WalkMore
import Derived.Laws.IdiomStrings
import Derived.Lib.FrozenHead
namespace Go.Proofs.YtjlhhnkhcbpnjaaGreatDoor
open Go Go.RowKit List Tryz
set_option linter.unusedVariables false
set_option linter.unusedSimpArgs false
set_option maxHeartbeats 40000000
set_option maxRecDepth 100000
def bZ.r(x:bZ):ay:=⟨x.text,x.member,none,x.roles.length,x.roles.length,x.roles,x.label,x.commit,x.epoch,x.purpose,x.reason,x.need,x.version,x.count,none,x.mK.length,x.mK.length,x.mK⟩
noncomputable def uh(act:Int)(x:bZ):Int:=jS act x.r
theorem Gv{act:Int}{b:ay}(j:b.roles.length=b.rn)(u:b.mK.length=b.hn):jS act b=uh act b.p:=by grind [uh,jS,nX,ay.set,pJ,bZ.r,ay.p]
noncomputable def kE(f:aj->Int)(act:Int)(l:aj):bZ×Int:=
 if iI act=false then(kD,3)else if 32768<l.length then(kD,5)else
 match jC f (gy act) kD l with
 |none=>(kD,1)
 |some (x,rest)=>if 0<rest.length then(kD,2)else if uh act x=0 then(x,0)else(kD,uh act x)
theorem XC(act:Int)(l:aj)(a:aN)(n c:Nat)(w:World)(an:l.length=n)(cE:n<=c)(hn:n<=140737488355328)(ce:aK w a (l.map Y)):
 Calls prog 156 #[.int .i64 act,.slice a n c] w fun e w'=>∃r:ay,e= .returned (.tuple #[.agg r.v.toArray,.int .i64 (kE jV act l).2])/\r.Fit/\bJ w' w.heap.size r.ra (r.roles.map bM)/\bJ w' w.heap.size r.ha (dB r.mK)/\r.p=(kE jV act l).1/\X w w':=by
 obtain⟨cs,cr⟩:=aB an ce;obtain⟨cL,aa⟩:=aC (kE jV act l);rw[aa];unfold kE at aa;have R:=Pg act;unfold DT at R;obtain⟨bc,bd,bi,ac,bj,ai,ad,ae,bk,bl,be,bh,aw⟩:=JV (DR act);rw[aw]at R;have R:=O R;clear ce;go_enter func156,ntmps156;go_upto_region 1 with(fail);generalize iX:World.alloc w _=ag;have zA:ah ag w.heap.size dI.v 101:=by rw[<-iX];exact ah.aI F F
 have cb:X w ag:=by rw[<-iX];exact(X.refl w).alloc _
 obtain⟨ZA,EA⟩:=aB zA cb;clear iX zA cb;go_wp2_with fail;refine(Ot act ag).mono ?_;rintro e w2 ⟨rfl,rfl⟩;cases bm:iI act with
 |false=>
  rw[bm,if_pos F]at aa;subst aa;clear an aw R;go_wp2_with (refine bg F _ _ _ F F F ZA eP fM (xs:=dI.v) fM (lD dI) ?_);intro a6 ac bw;go_wp2_with fail;exact iy F F ac eP fM F ⟨dI,F,rE,.inl F,.inl F,F,bw.ext EA l5⟩
 |true=>
 rw[bm,if_neg aF]at aa;by_cases ao:32768<n
 ·rw[an,if_pos ao]at aa;subst aa;have cy:decide (32768<n)=true:=aQ ao;have cz:decide ((32768:Int)<(n:Int))=true:=aQ J;clear an aw R ao;go_wp2_with (refine bg F _ _ _ F F F ZA eP fM (xs:=dI.v) fM (lD dI) ?_);intro a6 ac bw;go_wp2_with fail;exact iy F F ac eP fM F ⟨dI,F,rE,.inl F,.inl F,F,bw.ext EA l5⟩
 rw[an,if_neg ao]at aa;have ab:=O aa;have cy:decide (32768<n)=false:=aP ao;have cz:decide ((32768:Int)<(n:Int))=false:=aP J;have cc:(fun i=>[bc,bd,bi,ac,bj,ai,ad,ae,bk,bl,be,bh].getD i false)=fun i=>dK act i:=by unfold dK;rw[aw]
 have cj:Gj.filter (fun i=>[bc,bd,bi,ac,bj,ai,ad,ae,bk,bl,be,bh].getD i false)=gy act:=by rw[cc];exact JR bm
 have b4:=O cj;clear an aw aa ao cj cc;go_upto_region 6 with(fail);generalize bu:World.alloc ag _=wB;obtain⟨g,af⟩:=aC ag.heap.size;have ck:ah wB g [.slice a n c,.bool false] RT:=by rw[<-bu,<-af];exact ah.aI F F
 have ar:X ag wB:=by rw[<-bu];exact(X.refl ag).alloc _
 rw[af];have cP:w.heap.size<g:=by rw[<-af];exact ZA.lt
 have cF:g<=wB.heap.size:=by rw[<-af];exact ar.size
 have cl:gI RT g wB g l false:=by
  refine⟨a,n,c,ck,cs,cE,hn,cF,?_⟩;rcases(cr.ext EA)with a4|⟨b,off,ha,a4⟩
  ·exact .inl a4
  ·by_cases cf:l.map Y=[]
   ·exact .inl cf
   ·obtain⟨u,cG⟩:∃u,(l.map Y)[0]? =some u:=⟨_,List.getElem?_eq_getElem (length_pos_iff.2 cf)⟩;have hb:b<g:=by rw[<-af];exact block_lt_of_cell (a4 0 u cG)
    refine .inr ⟨b,off,ha,hb,J,fun j v cH=>wu (a4 j v cH) (ar.block b (by rw[af];exact hb))⟩
 obtain⟨b7,b9,b0⟩:=aW cl (ZA.ext ar) (EA.ext ar);clear bu ck cl ar ZA EA af;go_wp2_with fail;refine(R wB).mono ?_;rintro e a6 ⟨rfl,a3⟩;obtain⟨ba,b1⟩:=aB (b9.ext a3) (b0.ext a3);have cd:=b7.ext a3;clear a3 b9 b0 b7 R;go_wp2_with fail;refine(XB l false bc bd bi ac bj ai ad ae bk bl be bh g g a6 cd).mono ?_;rintro e bz ⟨r,cR,cm,rfl,a5,cg,ch,ax,bt,br⟩;rw[b4.out]at bt;obtain⟨b',b2,b6,a1,a0⟩:=dM (ba.grown br (by simp;omega)) (b1.grown br (by simp;omega)) ax bt a5;have bo:w.heap.size+1<=a6.heap.size:=ba.lt;obtain⟨b5,b8,aq⟩:=aW (cg.lower bo) (ch.lower bo) (show r.v.length=58 by unfold ay.v ay.t;simp[a5.hm,a5.hcm]);have cN:g<bz.heap.size:=ax.lt;clear cd ax bt a5 cg ch br bo ba b1 b4;go_wp2_with (refine bg F _ _ _ F F F (ah.aI (vs:=dI.v) F F) eP fM (xs:=r.v) aq (lD r) ?_);intro co ai cn;have al:X bz co:=cn.ext ((X.refl bz).alloc _) l5;obtain⟨a2,aE,a9,a_⟩:=bU (b'.ext al) (b2.ext al) (b5.ext al) (b8.ext al);have ax:=b6.ext al;have a7:=O ai;clear ai cn al b' b2 b6 b5 b8;obtain⟨cw,n2,cx,u6,cD, -,cQ, -, -⟩:=ax;have cI:=u6.cell' (i:=0) (v:= .slice cw n2 cx) F;have k1:=u6.cell' (i:=1) (v:= .bool cm) F;clear u6;cases cm with
 |true=>
  have R:jC jV (gy act) kD l=none:=(a1.2 F).resolve_left aF;have I:=ab.out;rw[R]at I;simp only at I;subst I;clear ab a1 R;go_wp2_with (refine bg F _ _ _ F F F a2 eP fM (xs:=dI.v) fM (lD dI) ?_);intro cp ad bx;go_wp2_with fail;exact iy F F ad eP fM F ⟨dI,F,rE,.inl F,.inl F,F,bx.ext aE l5⟩
 |false=>
 have ci:=(a1.1 F).2;have I:=ab.out;rw[ci]at I;simp only at I;rw[cD]at I;clear ab a1 ci;by_cases ap:0<n2
 ·rw[if_pos ap]at I;subst I;have cA:decide (0<n2)=true:=aQ ap;have cC:decide ((0:Int)<(n2:Int))=true:=aQ J;clear ap;go_wp2_with (refine bg F _ _ _ F F F a2 eP fM (xs:=dI.v) fM (lD dI) ?_);intro cp ad bx;go_wp2_with fail;exact iy F F ad eP fM F ⟨dI,F,rE,.inl F,.inl F,F,bx.ext aE l5⟩
 rw[if_neg ap]at I;have cA:decide (0<n2)=false:=aP ap;have cC:decide ((0:Int)<(n2:Int))=false:=aP J;have bp:=Xr act r;rw[Gv a0.rl a0.hl]at bp;have a8:=O bp;generalize uh act r.p=E at I a8;have ab:=O I;clear bp I ap;go_wp2_with (refine bV F 101 (.tmp 7) F F a7 eP aq ?_);refine(a8 co (a0.ok a9 a_)).mono ?_;rintro e cp ⟨rfl,am⟩;obtain⟨ca,b3,cq,ct,cv⟩:=dM (a2.ext am) (aE.ext am) (a7.ext am) (a9.ext am) (a_.ext am);clear am a2 aE a7 a9 a_ a8 cI k1;by_cases bv:E=0
 ·subst bv;have I:=ab.out;rw[if_pos F]at I;subst I;clear ab;go_wp2_with (first|(refine bV F 101 (.tmp 7) F F cq eP aq ?_)|(refine bg F _ _ _ F F F ca eP fM (xs:=r.v) aq (lD r) ?_));intro cJ ae az;go_wp2_with fail;exact iy F F ae eP aq F ⟨r,F,a0,(ct.upd az (Nat.lt_succ_self _)).lower (Nat.le_succ _),(cv.upd az (Nat.lt_succ_self _)).lower (Nat.le_succ _),F,az.ext b3 l5⟩
 ·have I:=ab.out;rw[if_neg bv]at I;subst I;have cM:(E != 0)=true:=by simpa using bv
  clear ab;go_wp2_with (refine bg F _ _ _ F F F ca eP fM (xs:=dI.v) fM (lD dI) ?_);intro cJ ae az;go_wp2_with fail;exact iy F F ae eP fM F ⟨dI,F,rE,.inl F,.inl F,F,az.ext b3 l5⟩
def tH:ByteArray:=⟨#[97,98,99,100,101,102,103,104,105,106,107,108,109,110,111,112,113,114,115,116,117,118,119,120,121,122,48,49,50,51,52,53,54,55,56,57,45,46,95]⟩
theorem PV:∀b∈tH.data.toList,b.toNat<128:=aX
theorem XD:∀c:Fin 256,tH.data.toList.any (· ==UInt8.ofNat c.val)=jl (UInt8.ofNat c.val):=by decide+kernel
def uY(r:Nat):Bool:=decide (r<128)&&jl (UInt8.ofNat r)
theorem PW(s:ByteArray)(c:Int)(w:World):
 Br 325 #[.string s,.int .u8 c] w (.int .i64 (firstIdx s c.toNat.toUInt8)):=by
 go_enter func325,ntmps325;go_wp2;rw[run_callFunc_extern func328 au au au (e:=Extern.BytealgIndexByte.indexByte) au,run_indexByte_string];simp only[Result.andThen];rw[Oper.upon_value];go_wp2;go_ret;exact⟨F,F⟩
theorem XE(r:Nat)(w:World)(j:r<128):
 Br 291 #[.string tH,.int .i32 (r:Int)] w (.int .i64 (firstIdx tH (UInt8.ofNat r))):=by
 have h:=O (fun w'=>PW tH (r:Int) w');have g1:decide ((0:Int)<=(r:Int))=true:=aQ J;have u:decide ((r:Int)<128)=true:=aQ J;have g3:decide (r<128)=true:=aQ j;have g4:IntKind.u8.wrap (r:Int)=r:=IntWalk.u8_in _ J;go_enter func291,ntmps291;go_wp2_with (first|(go_at_call 325;refine(h _).mono ?_;rintro e w' ⟨rfl,rfl⟩));go_ret;exact⟨F,F⟩
theorem XF(w:World):
 nW 291 #[.string tH,.int .i32 65533] w (.int .i64 (-1)):=by
 obtain⟨s,hs⟩:=aC tH;have mU:s.size=39:=by rw[<-hs];rfl
 have ae:∀b∈s.data.toList,b.toNat<128:=by rw[<-hs];exact PV
 rw[hs];obtain⟨an,al⟩:=aB mU ae;clear hs mU ae;go_enter func291,ntmps291;go_wp2
 go_loopg [] 39 (fun ao wx=>∃j:Nat,wx.heap[w.heap.size]? =some (.stringIter s j)/\Below w.heap.size w wx/\39<=j+ao)
 case atStart=>exact⟨0,World.iter_heap w s 0,(Below.refl _ w).alloc l5 _,J⟩
 case round=>
  obtain⟨j,E,R,ar⟩:=hrel;by_cases u:j<s.size
  ·obtain⟨I,rfl⟩:∃I,gk=I+1:=⟨gk - 1,by have:=an.out;omega⟩;have aa:∀ty,(Instr.next (.pointer (some ⟨w.heap.size,0,none⟩)) true ty).run prog wr=_:=fun ty=>Lib.run_next_any_at wr w.heap.size s j ty E u;have hb:(s[j]'u).toNat<128:=al.out _ (Array.getElem_mem_toList (xs:=s.data) u);have ag:=decode_ascii s j u hb;rw[ag]at aa;simp only at aa;obtain⟨ac,ad⟩:=aC ((s[j]'u).toNat);rw[ad]at aa hb;have ai:=Lib.iterAt_heap wr w.heap.size s j (j+1) E;have af:=Lib.below_iterAt R (k:=w.heap.size) l5 s (j+1);obtain⟨am,ab⟩:=aB ai af;have g1:((ac:Int)==65533)=false:=by simp;omega
   have aq:(ac==65533)=false:=by simp;omega
   have ap:39<=(j+1)+I:=J;clear ai af E R ag ad;go_wp2
   go_roundg I
   case measure=>omega
   case rel=>exact⟨j+1,am,ab,ap⟩
  ·have aa:∀ty,(Instr.next (.pointer (some ⟨w.heap.size,0,none⟩)) true ty).run prog wr=_:=fun ty=>Lib.run_next_end_at wr w.heap.size s j ty E u;have ab:=O R;clear E R;go_wp2;go_ret;exact⟨F,ab⟩
theorem XG(r:Nat)(w:World)(R:55296<=r)(aa:r<=57343):
 Br 291 #[.string tH,.int .i32 (r:Int)] w (.int .i64 (-1)):=by
 have g1:decide ((0:Int)<=(r:Int))=true:=aQ J;have j:decide ((r:Int)<128)=false:=aP J;have g3:decide (r<128)=false:=aP J;have g4:((r:Int)==65533)=false:=by simp;omega
 have g5:(r==65533)=false:=by simp;omega
 have g6:decide ((r:Int)<55296)=false:=aP J;have u:decide (r<55296)=false:=aP J;have E:decide ((57343:Int)<(r:Int))=false:=aP J;have I:decide (57343<r)=false:=aP J;go_enter func291,ntmps291;go_wp2;go_ret;exact⟨F,F⟩
theorem PX(s:ByteArray)(i:Nat)(h:i<s.size)(w:World):(Instr.index 9 (.string s) (.int .i64 (i:Int))).run prog w= .ok (.int .u8 ((s[i]'h).toNat:Int)) w:=by
 have j:s[i]? =some (s[i]'h):=getElem?_pos s i h;simp[Instr.index,asIntOf,run_underlying underlying9,j]
theorem Kq{o:Oper}{a:Act}{x y:Operand}{s:ByteArray}{i:Nat}{v:Value}(j:o.op= .index 9 x y)(u:a.eval x= .string s)(E:a.eval y= .int .i64 (i:Int))(h:∀w,(Instr.index 9 (.string s) (.int .i64 (i:Int))).run prog w= .ok v w)(w:World):
 (execOp a.eval o).run prog w= .ok (.value v) w:=by simp_all [execOp]
theorem XH(s:ByteArray)(i:Nat)(j:i<=s.size)(w:World):(Instr.sliceAt 9 (.string s) (some (.int .i64 (i:Int))) none none).run prog w= .ok (.string (s.extract i s.size)) w:=by
 have u:(0:Int)<=i/\(i:Int)<=s.size:=J;simp[Instr.sliceAt,Instr.slice,Instr.sliceBounds,Instr.sliceBound,asIntOf,run_underlying underlying9,j]
theorem XI{o:Oper}{a:Act}{x y:Operand}{s:ByteArray}{i:Nat}(u:o.op= .slice 9 x (some y) none none)(E:a.eval x= .string s)(I:a.eval y= .int .i64 (i:Int))(j:i<=s.size)(w:World):
 (execOp a.eval o).run prog w= .ok (.value (.string (s.extract i s.size))) w:=by
 unfold execOp;simp only[u,E,I,Option.map_some,Option.map_none,Sem.run_bind,XH s i j w,Result.andThen_ok,Sem.run_pure]
theorem XJ(r:Nat)(w:World)(aa:r<=1114111)(ab:r<55296∨57343<r):
 Br 326 #[.int .i32 (r:Int)] w (.bool true):=by
 have g1:decide ((0:Int)<=(r:Int))=true:=aQ J;by_cases h:r<55296
 ·have g6:decide ((r:Int)<55296)=true:=aQ J;have j:decide (r<55296)=true:=aQ J;go_enter func326,ntmps326;go_wp2;go_ret;exact⟨F,F⟩
 ·have g6:decide ((r:Int)<55296)=false:=aP J;have j:decide (r<55296)=false:=aP J;have I:decide ((57343:Int)<(r:Int))=true:=aQ J;have R:decide (57343<r)=true:=aQ J;have u:decide ((r:Int)<=1114111)=true:=aQ J;have E:decide (r<=1114111)=true:=aQ J;go_enter func326,ntmps326;go_wp2;go_ret;exact⟨F,F⟩
theorem XK(r:Nat)(w:World)(a4:128<=r)(aw:r<=1114111)(ab:r<55296∨57343<r)(ax:r≠65533):
 nW 291 #[.string tH,.int .i32 (r:Int)] w (.int .i64 (-1)):=by
 have al:Utf8.valid (r:Int)=true:=by
  rw[validRune_eq];unfold validRune;exact aQ J
 obtain⟨aq,ar,E⟩:=encode_facts (r:Int) al J;obtain⟨rs,aE⟩:=aC (Utf8.encode (r:Int));rw[aE]at aq ar E;obtain⟨m,ag⟩:=jE (rs.size - 1);have aa:m<rs.size:=J;have ai:=E J;have ad:128<=(rs[m]'aa).toNat:=by subst ag;exact ai
 have a6:((rs.size:Nat):Int) - 1=(m:Int):=J;have R:=fun w=>PX rs m aa w;obtain⟨s,hs⟩:=aC tH;have mU:s.size=39:=by rw[<-hs];rfl
 have I:∀b∈s.data.toList,b.toNat<128:=by rw[<-hs];exact PV
 have u:m<s.size:=J;have ae:=fun w=>PX s m u w;have hb:(s[m]'u).toNat<128:=I _ (Array.getElem_mem_toList (xs:=s.data) u);obtain⟨c,hc⟩:=aC ((rs[m]'aa));obtain⟨b,u7⟩:=aC ((s[m]'u).toNat);rw[hc]at R ad;rw[u7]at ae hb;have a5:=c.toNat_lt;obtain⟨af,az⟩:=aB (fun a e w'=>PW (s.extract a e) (c.toNat:Int) w') (fun a e=>firstIdx_ascii s a e c I ad);have vD:((c.toNat:Int)).toNat.toUInt8=c:=aF;rw[vD]at af;rw[hs];obtain⟨a2,a0⟩:=aB mU (fun w'=>XJ r w' aw ab);clear hs I ai E ag hc u7 mU ab al vD;have g1:decide ((0:Int)<=(r:Int))=true:=aQ J;have a3:decide ((r:Int)<128)=false:=aP J;have g3:decide (r<128)=false:=aP J;have g4:((r:Int)==65533)=false:=by simp;omega
 have g5:(r==65533)=false:=by simp[ax]
 go_enter func291,ntmps291;go_wp2_with (first|(go_at_call 326;refine(a0 _).mono ?_;rintro e w' ⟨rfl,rfl⟩))
 go_step3
 go_wp2_with fail;go_loopw [9] (fun x wr=>x= .int .i64 (m:Int)/\wr=w) (fun _ _=>0)
 case atStart=>exact⟨F,F⟩
 case round=>
  obtain⟨rfl,rfl⟩:=hrel;have k1:decide ((m:Int)<(s.size:Int))=true:=aQ J;have k2:decide (m<s.size)=true:=aQ u;have k3:((b:Int) != (c.toNat:Int))=true:=by simp;omega
  have k4:(b != c.toNat)=true:=by simp;omega
  go_wp2_with fail
  go_step3
  go_wp2_with fail;obtain⟨C,iB,aJ⟩:=jJ wr;refine wp_region_held_drew (S:=C) au ((iB _).2 (X.refl wr).drew) (fun Z=> ?_);refine aA 0 ?_;refine aA 1 ?_;refine bD 2 F (bf F (fun j _=>Kq F F F ae j)) ?_;refine aA 3 ?_;refine aA 4 ?_;refine bD 5 F (bf F (fun j _=>Kq F F F R j)) ?_;refine aA 6 ?_;have ap:X wr wr.drew:=(X.refl wr).drew;generalize wr.drew=wD at*;refine dH ?_;clear Z aJ iB C;go_wp2_with fail;obtain⟨C,iB,aJ⟩:=jJ wD;refine wp_region_held_drew (S:=C) au ((iB _).2 (X.refl wD).drew) (fun Z=> ?_);have a1:IntKind.i64.wrap ((m:Int)+1)=((m+1:Nat):Int):=by rw[IntWalk.i64_in _ J];omega
  have Dm:m+1<=s.size:=J;generalize m+1=am at*;refine aA 0 ?_;refine aA 1 ?_;refine aA 2 ?_;refine bD 3 F (bf F (fun j _=>XI (i:=am) F F F Dm j)) ?_;refine aA 4 ?_;refine aA 5 ?_;refine bD 6 F (bf F (fun j _=>Kq F F F R j)) ?_;clear a1;generalize wD.drew=wE at*;refine aZ 7 ?_;intro ao ac;go_wp2_with fail;refine(af am s.size _).mono ?_;rintro e wF ⟨rfl,rfl⟩;go_wp2_with fail;refine ac _ _ Z ?_;clear ac ao;refine aH ?_;rw[az.out];refine aA 8 ?_;refine dH ?_;have an:=O (ap.ext ((iB _).1 Z));clear Z aJ iB C;go_wp2_with fail;rw[Exit.noGoto_ret];go_wp2_with fail;rw[Exit.noGoto_ret];go_ret;exact⟨F,an⟩
theorem PY{c:UInt8}(h:128<=c.toNat):jl c=false:=by
 unfold jl;simp;omega
theorem PZ{r:Nat}(h:r<128):uY r=jl (UInt8.ofNat r):=by grind [uY]
theorem Gw{r:Nat}(h:128<=r):uY r=false:=by grind [uY]
theorem XL(c:UInt8)(h:c.toNat<128):uY c.toNat=jl c:=by
 rw[PZ h,UInt8.ofNat_toNat]
theorem XM(r:Nat)(w:World)(h:r<=1114111):
 Calls prog 291 #[.string tH,.int .i32 (r:Int)] w fun e w'=>∃z:Int,e= .returned (.int .i64 z)/\decide (0<=z)=uY r/\X w w':=by
 by_cases u:r<128
 ·refine(XE r w u).mono ?_;rintro e w' ⟨rfl,rfl⟩;refine⟨_,F,?_,X.refl _⟩;rw[firstIdx_nonneg,PZ u];have:=XD ⟨r,J⟩;exact this
 ·by_cases E:r=65533
  ·subst E;refine(XF w).mono ?_;rintro e w' ⟨rfl,j⟩;exact⟨_,F,by rw[Gw J];rfl,j⟩
  ·by_cases I:55296<=r/\r<=57343
   ·refine(XG r w I.1 I.2).mono ?_;rintro e w' ⟨rfl,rfl⟩;exact⟨_,F,by rw[Gw J];rfl,X.refl _⟩
   ·refine(XK r w J h J E).mono ?_;rintro e w' ⟨rfl,j⟩;exact⟨_,F,by rw[Gw J];rfl,j⟩
theorem XO(r:Nat)(w:World)(h:r<=1114111):
 nW 235 #[.string tH,.int .i32 (r:Int)] w (.bool (uY r)):=by
 have u:=O (fun w'=>XM r w' h);generalize uY r=R at*;generalize tH=s at*;go_enter func235,ntmps235;go_wp2_with fail;refine(u w).mono ?_;rintro e aa ⟨z,rfl,I,j⟩;have E:=O j;clear j u;go_wp2_with fail;go_ret;exact⟨by first|rfl|rw[I],E⟩
theorem XP(r:Nat)(w:World)(h:r<=1114111):
 nW 234 #[.int .i32 (r:Int)] w (.bool (!uY r)):=by
 have u:=O (fun w'=>XO r w' h);generalize uY r=I at*;go_enter func234,ntmps234;go_wp2_with fail;refine(u w).mono ?_;rintro e R ⟨rfl,j⟩;have E:=O j;clear j u;go_wp2_with fail;go_ret;exact⟨F,E⟩
def Eb:Value:= .func (.func 234) #[] #[]
theorem XQ(s:ByteArray)(w:World):
 Calls prog 324 #[.string s,Eb,.bool true] w fun e w'=>∃z:Int,e= .returned (.int .i64 z)/\decide (0<=z)= !(s.data.toList.all jl)/\X w w':=by
 obtain⟨N,al⟩:=aC s.size;have a4:s.data.toList.length=N:=by rw[<-al,Array.length_toList];rfl
 obtain⟨ba,az⟩:=aB a4 al;clear a4 al;unfold Eb;go_enter func324,ntmps324;go_wp2
 go_loopg [] N (fun bc wx=>∃j:Nat,wx.heap[w.heap.size]? =some (.stringIter s j)/\Below w.heap.size w wx/\Hid ((s.data.toList.take j).all jl=true)/\N<=j+bc)
 case atStart=>exact⟨0,World.iter_heap w s 0,(Below.refl _ w).alloc l5 _,O aF,J⟩
 case round=>
  obtain⟨j,ac,ae,om,bi⟩:=hrel;by_cases u:j<s.size
  ·have bj:j<N:=by rw[<-az.out];exact u
   obtain⟨ai,rfl⟩:∃ai,gk=ai+1:=⟨gk - 1,J⟩;have ap:∀ty,(Instr.next (.pointer (some ⟨w.heap.size,0,none⟩)) true ty).run prog wr=_:=fun ty=>Lib.run_next_any_at wr w.heap.size s j ty ac u;have af:=Lib.rune_le s j;have hc:s.data.toList[j]? =some (s[j]'u):=by rw[Array.getElem?_toList];exact Array.getElem?_eq_getElem u
   obtain⟨aE,E⟩:=aC ((Utf8.decode s j).1);obtain⟨K,aa⟩:=aC ((Utf8.decode s j).2);have a5:uY aE=jl (s[j]'u)/\(jl (s[j]'u)=true->K=1):=by
    by_cases hb:(s[j]'u).toNat<128
    ·have be:=decode_ascii s j u hb;rw[be]at E aa;simp only at E aa;rw[<-E];exact⟨XL _ hb,fun _=>aa.symm⟩
    ·have a2:=(decode_high s j u J).1;rw[E]at a2;refine⟨by rw[Gw a2,PY J],fun h=> ?_⟩;rw[PY J]at h;cases h
   rw[E]at ap af;rw[aa]at ap;obtain⟨b,hb⟩:=aC ((s[j]'u));rw[hb]at a5 hc;obtain⟨ad,aq⟩:=a5;have ao:=Lib.iterAt_heap wr w.heap.size s j (j+K) ac;have an:=Lib.below_iterAt ae (k:=w.heap.size) l5 s (j+K);obtain⟨ax,I,ab,aw⟩:=bU ao an (fun w'=>XP aE w' af) hc;generalize wr.iterAt w.heap.size s (j+K)=ar at*;have bh:w.heap.size<ar.heap.size:=(Array.getElem?_eq_some_iff.1 ax).1;cases tL:jl b with
   |true=>
    rw[tL]at ad;have bd:=aq tL;subst bd;rw[ad]at ab;have a6:(s.data.toList.take (j+1)).all jl=true:=by
     rw[take_add_one,aw.out,all_append,om.out];simp[tL]
    have nA:=O a6;clear ac ae ao an E aa ad aq hc a6 hb af;go_wp2_with fail;refine(ab ar).mono ?_;rintro e a7 ⟨rfl,R⟩;have a3:a7.heap[w.heap.size]? =some (.stringIter s (j+1)):=by rw[R.block _ bh];exact ax
    obtain⟨a_,ag⟩:=aB a3 (I.trans (R.mono I.size));clear R a3 ab;go_wp2_with fail
    go_roundg ai
    case measure=>omega
    case rel=>exact⟨j+1,a_,ag,nA,J⟩
   |false=>
    rw[tL]at ad;rw[ad]at ab;have a0:s.data.toList.all jl=false:=by
     rw[all_eq_false];exact⟨b,mem_of_getElem? aw,by rw[tL];simp⟩
    have a9:=O a0;clear ac ae ao an E aa ad aq hc a0 hb af;go_wp2_with fail;refine(ab ar).mono ?_;rintro e a7 ⟨rfl,R⟩;have ag:=O (I.trans (R.mono I.size));clear R ab;go_wp2_with fail;go_ret;exact⟨_,F,by rw[a9.out];exact aQ J,ag⟩
  ·have ap:∀ty,(Instr.next (.pointer (some ⟨w.heap.size,0,none⟩)) true ty).run prog wr=_:=fun ty=>Lib.run_next_end_at wr w.heap.size s j ty ac u;have a1:s.data.toList.take j=s.data.toList:=take_of_length_le (by rw[ba.out];have:=az.out;omega);have am:=om.out;rw[a1]at am;obtain⟨a8,I⟩:=aB am ae;clear ac ae om am a1;go_wp2_with fail;go_ret;exact⟨_,F,by rw[a8.out];rfl,I⟩
theorem XR(s:ByteArray)(w:World):
 nW 233 #[.string s,Eb] w (.bool (!(s.data.toList.all jl))):=by
 have I:=O (fun w'=>XQ s w');generalize s.data.toList.all jl=b at*;generalize Eb=aa at*;have R:Hid (∀w,Calls prog 290 #[.string s,aa] w fun e w'=>∃z:Int,e= .returned (.int .i64 z)/\decide (0<=z)=(!b)/\X w w'):=by
  refine O fun w=> ?_;go_enter func290,ntmps290;go_wp2_with fail;refine(I w).mono ?_;rintro e ab ⟨z,rfl,u,j⟩;obtain⟨E,HZ⟩:=aB j u;clear j I u;go_wp2_with fail;go_ret;exact⟨z,F,HZ,E⟩
 clear I;go_enter func233,ntmps233;go_wp2_with fail;refine(R w).mono ?_;rintro e ab ⟨z,rfl,u,j⟩;have E:=O j;clear j R;go_wp2_with fail;go_ret;exact⟨by first|rfl|rw[u],E⟩
theorem Ec(s:ByteArray)(w:World)(hn:s.size<=9223372036854775807):
 nW 186 #[.string s] w (.bool (jK s.data.toList)):=by
 have hc:=O (fun w'=>XR s w');obtain⟨n,ab⟩:=aC s.size;have u:s.data.toList.length=n:=by rw[<-ab,Array.length_toList];rfl
 obtain⟨ag,j⟩:=aC (jK s.data.toList);rw[j];unfold jK at j;have R:s.data.toList.isEmpty=decide (n=0):=by
  rw[Bool.eq_iff_iff,isEmpty_iff,decide_eq_true_eq,<-u,length_eq_zero_iff]
 have E:s=ByteArray.empty↔n=0:=by
  constructor
  ·rintro rfl;rw[<-ab];rfl
  ·intro h;have:s.data.toList=[]:=length_eq_zero_iff.1 (by rw[u];exact h);cases s with
   |mk d=>cases d with
    |mk l=>simp at this;subst this;rfl
 rw[R,u]at j;generalize s.data.toList.all jl=b at*;by_cases I:n=0
 ·have hs:=E.2 I;subst hs;subst I;simp at j;subst j;clear hc E R u ab;go_enter func186,ntmps186;go_wp2;go_ret;exact⟨F,X.refl _⟩
 ·have af:¬s=ByteArray.empty:=fun h=>I (E.1 h);have ad:s.toList.isEmpty=false:=by
   have:=decide_eq_emptyBytes s;rw[aP af]at this;exact this.symm
  have ai:¬s.toList=[]:=by
   intro h;rw[h]at ad;cases ad
  rw[aP I]at j;by_cases nE:n<=32
  ·have g1:decide ((n:Int)<=32)=true:=aQ J;have aa:decide (n<=32)=true:=aQ nE;rw[aa]at j;simp at j;subst j;clear E R u;unfold Eb at hc;go_enter func186,ntmps186;go_wp2_with fail;refine(hc w).mono ?_;rintro e al ⟨rfl,ac⟩;have ae:=O ac;clear ac hc;go_wp2_with fail;go_ret;exact⟨by first|rfl|simp,ae⟩
  ·have g1:decide ((n:Int)<=32)=false:=aP J;have aa:decide (n<=32)=false:=aP nE;rw[aa]at j;simp at j;subst j;clear hc E R u;go_enter func186,ntmps186;go_wp2;go_ret;exact⟨F,X.refl _⟩
theorem Bz{P:Program}{ops:Array Oper}{rest:List Oper}{o:Oper}{a:Act}{w w':World}{Q:Exit->Act->World->Prop}{v:Value}(u:o.guard=none)(E:(execOp a.eval o).run P w= .ok (.value v) w')(h:wpList P ops Q rest (a.put o.dst v) w'):wpList P ops Q (o::rest) a w:=
 wpList_plain u fun K j=>by
  unfold Oper.wp;rw[E,Oper.upon_value];exact j _ _ h
theorem P5{o:Oper}{a:Act}{x:Operand}{s:ByteArray}(j:o.op= .convert 9 32 x)(u:a.eval x= .string s)(w:World):
 (execOp a.eval o).run prog w= .ok (.value (.slice (some ⟨w.heap.size,0,none⟩) s.size (grownCap w s.size 0 5)))
  (w.drew.alloc (.cells (bytesRow s (grownCap w s.size 0 5)) 5 ((bytesRow s (grownCap w s.size 0 5)).size,(bytesRow s (grownCap w s.size 0 5)).size+1))):=by
 unfold execOp;simp only[j,u,Sem.run_bind,run_bytes_of_string w _ _ _ s underlying9 underlying32 underlying5,Result.andThen_ok,Sem.run_pure]
theorem P6(s:ByteArray)(c:Nat)(w:World)(z:Nat×Nat):aK (w.drew.alloc (.cells (bytesRow s c) 5 z)) (some ⟨w.heap.size,0,none⟩) (s.data.toList.map Y):=by
 refine .inr ⟨w.heap.size,0,F,fun i u j=> ?_⟩;have I:i<s.data.size:=by
  have:=(List.getElem?_eq_some_iff.1 j).1;rw[length_map,Array.length_toList]at this;exact this
 have E:(w.drew.alloc (.cells (bytesRow s c) 5 z)).heap[w.heap.size]? =some (.cells (bytesRow s c) 5 z):=by
  show(w.heap.push _)[w.heap.size]? =_;simp
 rw[Nat.zero_add];have hb:(bytesRow s c)[i]? =some u:=by
  unfold bytesRow;rw[Array.getElem?_append_left (by simpa using I),Array.getElem?_map];rw[List.getElem?_map,Array.getElem?_toList]at j;exact j
 simp only[World.cell?,E];exact hb
def h_(w:World)(base:Nat)(v:Value)(n:Nat)(xs:aj):Prop:=
 xs.length=n/\((v= .slice none 0 0/\n=0)∨
  ∃g cap cu j,v= .slice (some ⟨g,0,none⟩) n cap/\base<=g/\w.heap[g]? =some (.cells cu 5 j)/\(j.2=0∨cap<=j.1)/\n<=cap/\cap<=maxLen/\cu.size=cap/\cu.toList.take n=xs.map Y)
theorem h_.of{w:World}{base:Nat}{v:Value}{n:Nat}{xs:aj}(h:w.ownsRow base 5 1 v n (xs.map Y)):h_ w base v n xs:=by
 obtain⟨u,h⟩:=h;rw[length_map,Nat.mul_one]at u;refine⟨u,?_⟩;rcases h with h|⟨g,cap,cu,E,I,R,aa,ab,ac,j⟩
 ·exact .inl h
 ·exact .inr ⟨g,cap,cu,(0,0),E,I,R,.inl F,aa,ab,J,by rw[Nat.mul_one]at j;exact j⟩
theorem h_.turn{w w':World}{B:Nat}{v:Value}{n:Nat}{xs:aj}(h:h_ w B v n xs)(k:∀i,B<=i->i<w.heap.size->w'.heap[i]? =w.heap[i]?):h_ w' B v n xs:=by
 refine⟨h.1,?_⟩;rcases h.2 with h|⟨g,cap,cu,E,I,j,u,R⟩
 ·exact .inl h
 ·exact .inr ⟨g,cap,cu,E,I,j,(k g j (Array.getElem?_eq_some_iff.1 u).1).trans u,R⟩
theorem h_.ext{w w':World}{B:Nat}{v:Value}{n:Nat}{xs:aj}(h:h_ w B v n xs)(e:X w w'):h_ w' B v n xs:=h.turn fun i _ j=>e.block i j
theorem h_.lower{w:World}{B B':Nat}{v:Value}{n:Nat}{xs:aj}(h:h_ w B v n xs)(hb:B'<=B):h_ w B' v n xs:=by
 refine⟨h.1,?_⟩;rcases h.2 with h|⟨g,cap,cu,j,u,E,I⟩
 ·exact .inl h
 ·exact .inr ⟨g,cap,cu,j,u,Nat.le_trans hb E,I⟩
theorem h_.pK{w:World}{B:Nat}{v:Value}{n:Nat}{xs:aj}(h:h_ w B v n xs):∀g,v.ownBlock=some g->B<=g:=by
 intro g j;rcases h.2 with⟨rfl,_⟩|⟨E,cap,cu,u,rfl,hb,_⟩
 ·cases j
 ·simp[Value.ownBlock]at j;omega
theorem h_.slice{w:World}{B:Nat}{v:Value}{n:Nat}{xs:aj}(h:h_ w B v n xs):
 ∃a c,v= .slice a n c/\n<=c/\c<=maxLen/\(a=none->c=0)/\aK w a (xs.map Y):=by
 obtain⟨ad,h⟩:=h;rcases h with⟨rfl,rfl⟩|⟨g,cap,cu,E,rfl,hb,ab,ae,I,R,af,aa⟩
 ·refine⟨none,0,F,Nat.le_refl _,by unfold maxLen;omega,fun _=>rfl,.inl ?_⟩;rw[length_eq_zero_iff.1 ad];rfl
 ·refine⟨_,cap,F,I,R,(fun h=>by cases h),.inr ⟨g,0,F,fun i u j=> ?_⟩⟩;rw[<-aa]at j;have ac:i<n:=by
   have:=(List.getElem?_eq_some_iff.1 j).1;simp only[length_take]at this;omega
  rw[List.getElem?_take_of_lt ac]at j;rw[Nat.zero_add,cell_of_row w g i cu _ E ab];simpa using j
theorem Kr(P:Program)(g o:Nat)(t:TypeId)(fz:Nat×Nat):∀(vs:aO) (i:Nat) (cu:Array Value) (w:World),w.heap[g]? =some (.cells cu t fz)->(fz.2=0∨o+i+vs.length<=fz.1)->o+i+vs.length<=cu.size->(∀v∈vs,v.oneCell'=true)->
 (storeCells ⟨g,o,none⟩ vs i).run P w= .ok () (w.setRow g (cu.toList.take (o+i)++vs++cu.toList.drop (o+i+vs.length)).toArray)
 |[],i,cu,w,hg,_,_,_=>by
  simp only[storeCells,append_nil,length_nil,Nat.add_zero,take_append_drop,Array.toArray_toList];rw[setRow_self w g cu t fz hg];rfl
 |v::rest,i,cu,w,hg,vN,hl,h1=>by
  have hi:o+i<cu.size:=by simp at hl;omega
  have j:(⟨g,o,none⟩:Addr).add i=⟨g,o+i,none⟩:=by unfold Addr.add;split<;>simp_all
  have u:w.cell? ⟨g,o+i,none⟩=some cu[o+i]:=by simp[World.cell?,hg,hi]
  have E:w.frozen? ⟨g,o+i,none⟩=false:=by
   obtain⟨ac,ab⟩:=fz;simp only[World.frozen?,hg,Bool.and_eq_false_iff,decide_eq_false_iff_not];simp only[length_cons]at vN;omega
  have I:(store ((⟨g,o,none⟩:Addr).add i) v).run P w= .ok () (w.setRow g (cu.setIfInBounds (o+i) v)):=by
   rw[j,run_store P w _ v _ (h1 v aF),u];simp[E,setCell_eq_setRow w g (o+i) cu t fz v hg]
  have aa:=Kr P g o t fz rest (i+1) (cu.setIfInBounds (o+i) v) (w.setRow g (cu.setIfInBounds (o+i) v)) (setRow_heap w g cu _ t _ hg) (by simp only[length_cons]at vN;omega) (by simp at hl⊢;omega) (fun x R=>h1 x (by simp[R]));simp only[storeCells,Sem.run_bind,I,Result.andThen_ok,aa,setRow_setRow]
  congr 3
  have e:=list_seg_step cu.toList (o+i) v rest (by simp at hl⊢;omega);simpa[Array.toList_setIfInBounds,Nat.add_assoc]using e
theorem P7{w:World}{base g cap n:Nat}{cu:Array Value}{j:Nat×Nat}{xs ys:aj}(u:xs.length=n)(hb:base<=g)(I:w.heap[g]? =some (.cells cu 5 j))(vN:j.2=0∨cap<=j.1)(E:cap<=maxLen)(aa:cu.size=cap)(ht:cu.toList.take n=xs.map Y)(R:n+ys.length<=cap):
 h_ (w.setRow g (cu.toList.take n++ys.map Y++cu.toList.drop (n+ys.length)).toArray) base (.slice (some ⟨g,0,none⟩) (n+ys.length) cap) (n+ys.length) (xs++ys):=by
 refine⟨by rw[length_append,u],.inr ⟨g,cap,_,j,F,hb,setRow_heap w g cu _ _ _ I,vN,R,E,?_,?_⟩⟩
 ·simp only[size_toArray,length_append,length_take,length_drop,Array.length_toList,length_map];omega
 ·rw[ht,<-map_append];have:(List.map Y (xs++ys)).length=n+ys.length:=by rw[length_map,length_append,u]
  exact take_left' this
theorem P8(w:World)(g:Nat)(cs:Array Value):w.grownBy (w.setRow g cs) (some g):=⟨F,F,F,aF,fun k _ hk=>setRow_other w g k _ (fun e=>hk (by rw[e]))⟩
theorem XT(w:World)(base:Nat)(ty:TypeId){v:Value}{n m c:Nat}{xs ys:aj}{y:Addr}(E:h_ w base v n xs)(I:ys.length=m)(hc:∀j u,(ys.map Y)[j]? =some u->w.cell? (y.add j)=some u)(hb:n+m<=140737488355328)(ab:base<=w.heap.size):
 ∃v' w',(Builtin.append_ #[32,32] ty #[v,.slice (some y) m c]).run prog w= .ok v' w'/\h_ w' base v' (n+m) (xs++ys)/\w.grownBy w' v.ownBlock:=by
 obtain⟨ag,hi,af,mU,aa⟩:=info_parts xu;rcases E.2 with⟨rfl,rfl⟩|⟨g,cap,cu,fz,rfl,am,hg,vN,a0,an,ap,ax⟩
 ·have az:xs=[]:=length_eq_zero_iff.1 E.1;subst az;obtain⟨v',w',h1,ai,al,_⟩:=run_append_own (P:=prog) w base 32 ty 5 ag _ 1 1 underlying32 hi af mU aa F aX (.slice none 0 0) 0 [] (World.ownsRow_nil w base _ 1) y m c (ys.map Y) (by rw[length_map,I,Nat.mul_one]) hc (b_ _) (by unfold maxLen;omega) J ab;exact⟨v',w',h1,h_.of (by simpa using ai),al⟩
 ·by_cases ad:n+m<=cap
  ·subst I;have hf:=run_firstCells_some (P:=prog) w 1 ys.length y ys.length c (ys.map Y) (by rw[length_map,Nat.mul_one]) hc;have ae:=Kr prog g n 5 fz (ys.map Y) 0 cu w hg (by rw[length_map];omega) (by rw[length_map];omega) (b_ _);simp only[Nat.add_zero,length_map]at ae;refine⟨_,_,?_,P7 E.1 am hg vN an ap ax ad,P8 w g _⟩;simp[Builtin.append_,run_underlying underlying32,sizeOf,typeInfo,hi,mU,Builtin.lenOf,ad,hf,Addr.add_lit,ae]
  ·obtain⟨a',c',R,_,_,_,ac⟩:=E.slice;injection R with R _ _;have ar:∀j u,(xs.map Y)[j]? =some u->w.cell? ((⟨g,0,none⟩:Addr).add j)=some u:=by
    rw[<-R]at ac;exact wX ac
   have aw:=run_append_grow (P:=prog) w 32 ty 5 ag _ underlying32 hi af ⟨g,0,none⟩ n cap (xs.map Y) (by rw[mU,length_map,E.1,Nat.mul_one]) ar y m c (ys.map Y) (by rw[mU,length_map,I,Nat.mul_one]) hc J J (by rw[aa];exact growslice_fits J J);have aq:=grownCap_ge w (n+m) cap 5;have ao:grownCap w (n+m) cap 5<=maxLen:=grownCap_le_maxLen w (n+m) cap _ (by unfold maxLen;omega);refine⟨_,_,aw,⟨by rw[length_append,E.1,I],.inr ⟨w.heap.size,_,_,(0,0),F,ab,heap_alloc_new w.drew _,.inl F,aq,ao,?_,?_⟩⟩,⟨F,F,F,aF,fun k hk _=>((X.refl w.drew).alloc _).block k hk⟩⟩
   ·have aE:(Value.int IntKind.u8 0).cells.size=1:=F;simp only[Array.size_append,size_toArray,size_zeroCells,aE,length_map,E.1,I];omega
   ·simp only[Array.toList_append,append_assoc];rw[<-append_assoc,<-map_append];exact take_left' (by rw[length_map,length_append,E.1,I])
theorem Kt(s:ByteArray):Lib.strCells s=s.data.toList.map Y:=F
theorem XU(w:World)(base:Nat)(ty:TypeId){v:Value}{n:Nat}{xs:aj}(s:ByteArray)(E:h_ w base v n xs)(hb:n+s.size<=140737488355328)(ab:base<=w.heap.size):
 ∃v' w',(Builtin.append_ #[32,9] ty #[v,.string s]).run prog w= .ok v' w'/\h_ w' base v' (n+s.size) (xs++s.data.toList)/\w.grownBy w' v.ownBlock:=by
 obtain⟨ai,hi,ag,mU,aa⟩:=info_parts xu;have I:s.data.toList.length=s.size:=by rw[Array.length_toList];rfl
 rcases E.2 with⟨rfl,rfl⟩|⟨g,cap,cu,fz,rfl,an,hg,vN,a1,ao,aq,az⟩
 ·have aE:xs=[]:=length_eq_zero_iff.1 E.1;subst aE;obtain⟨v',w',h1,al,am,_⟩:=Lib.run_append_own_string (P:=prog) w base 32 9 ty 5 ai underlying32 underlying9 hi ag mU aa (.slice none 0 0) 0 [] (World.ownsRow_nil w base _ 1) s (by unfold maxLen;omega) J ab;exact⟨v',w',h1,h_.of (by simpa[Kt]using al),am⟩
 ·by_cases ae:n+s.size<=cap
  ·have hf:=Lib.run_firstCells_string (P:=prog) w 1 s;have af:=Kr prog g n 5 fz (Lib.strCells s) 0 cu w hg (by rw[Lib.strCells_length];omega) (by rw[Lib.strCells_length];omega) (Lib.strCells_oneCell s);simp only[Nat.add_zero,Lib.strCells_length]at af;have ad:=P7 (ys:=s.data.toList) E.1 an hg vN ao aq az (by rw[I];exact ae);rw[I,<-Kt]at ad;refine⟨_,_,?_,ad,P8 w g _⟩;simp[Builtin.append_,run_underlying underlying32,run_underlying underlying9,sizeOf,typeInfo,hi,mU,Builtin.lenOf,ae,hf,Addr.add_lit,af]
  ·obtain⟨a',c',R,_,_,_,ac⟩:=E.slice;injection R with R _ _;have aw:∀j u,(xs.map Y)[j]? =some u->w.cell? ((⟨g,0,none⟩:Addr).add j)=some u:=by
    rw[<-R]at ac;exact wX ac
   have ax:=Lib.run_append_grow_string (P:=prog) w 32 9 ty 5 ai _ underlying32 underlying9 hi ag ⟨g,0,none⟩ n cap (xs.map Y) (by rw[mU,length_map,E.1,Nat.mul_one]) aw s J J (by rw[aa];exact growslice_fits J J);have ar:=grownCap_ge w (n+s.size) cap 5;have ap:grownCap w (n+s.size) cap 5<=maxLen:=grownCap_le_maxLen w (n+s.size) cap _ (by unfold maxLen;omega);refine⟨_,_,ax,⟨by rw[length_append,E.1,I],.inr ⟨w.heap.size,_,_,(0,0),F,ab,heap_alloc_new w.drew _,.inl F,ar,ap,?_,?_⟩⟩,⟨F,F,F,aF,fun k hk _=>((X.refl w.drew).alloc _).block k hk⟩⟩
   ·have a0:(Value.int IntKind.u8 0).cells.size=1:=F;simp only[Array.size_append,size_toArray,size_zeroCells,a0,length_map,E.1,Lib.strCells_length];omega
   ·simp only[Array.toList_append,append_assoc];rw[<-append_assoc,Kt,<-map_append];exact take_left' (by rw[length_map,length_append,E.1,I])
theorem uj{ops:Array Oper}{rest:List Oper}{o:Oper}{a:Act}{w:World}{Q:Exit->Act->World->Prop}(ab:o.guard=none)(s x:Operand)
 (ad:o.op= .call {callee:= .builtin .append,args:= #[s,x],argTypes:= #[32,32]})(base:Nat){v:Value}{n m c:Nat}{xs ys:aj}{y:Addr}
 (hs:a.eval s=v)(ag:a.eval x= .slice (some y) m c)(ae:h_ w base v n xs)(ac:ys.length=m)(hc:∀j u,(ys.map Y)[j]? =some u->w.cell? (y.add j)=some u)
 (hb:n+m<=140737488355328)(aa:base<=w.heap.size)
 (h:∀v' w',h_ w' base v' (n+m) (xs++ys)->w.grownBy w' v.ownBlock->wpList prog ops Q rest (a.put o.dst v') w'):wpList prog ops Q (o::rest) a w:=by
 obtain⟨v',w',af,E,I⟩:=XT w base o.type (c:=c) ae ac hc hb aa;exact wpList_plain ab fun K R=>Lib.wp_append_run w s x _ _ ad v _ hs ag v' w' af (R _ _ (h v' w' E I))
theorem P9{ops:Array Oper}{rest:List Oper}{o:Oper}{a:Act}{w:World}{Q:Exit->Act->World->Prop}(aa:o.guard=none)(j x:Operand)
 (ab:o.op= .call {callee:= .builtin .append,args:= #[j,x],argTypes:= #[32,9]})(base:Nat){v:Value}{n:Nat}{xs:aj}{s:ByteArray}
 (hs:a.eval j=v)(ae:a.eval x= .string s)(ac:h_ w base v n xs)
 (hb:n+s.size<=140737488355328)(R:base<=w.heap.size)
 (h:∀v' w',h_ w' base v' (n+s.size) (xs++s.data.toList)->w.grownBy w' v.ownBlock->wpList prog ops Q rest (a.put o.dst v') w'):wpList prog ops Q (o::rest) a w:=by
 obtain⟨v',w',ad,u,E⟩:=XU w base o.type s ac hb R;exact wpList_plain aa fun K I=>Lib.wp_append_run w j x _ _ ab v _ hs ae v' w' ad (I _ _ (h v' w' u E))
theorem Gx(sq:List Nat)(i:Nat)(x:bZ):fG (sq++[i]) x=fG sq x++jo i x:=by unfold fG;simp
theorem BA(n:Int):IntKind.u8.wrap n=((kL n).toNat:Int):=by
 unfold kL;rw[UInt8.toNat_ofNat'];show n%256=_;omega
theorem P_(n:Nat):kL (n:Int)=UInt8.ofNat n:=by grind [kL,UInt8.toNat_inj,UInt8.toNat_ofNat']
structure Fh(b:ay):Prop where
 t:b.text.size<=32768
 rn:b.rn<=16
 hn:b.hn<=32
 rs:∀s∈b.roles,s.size<=32
 l:b.label.size<=32
 e:0<=b.epoch/\b.epoch<=4294967295
 c:0<=b.count/\b.count<=65536
structure xF(w0:World)(gn B:Nat)(bs:List Bool)(b:ay)(N:Nat)(sq:List Nat)(v:Value)(w:World):Prop where
 body:ah w w0.heap.size b.v 101
 needs:ah w gn (bs.map .bool) 304
 own:h_ w B v (fG sq b.p).length (fG sq b.p)
 len:(fG sq b.p).length<=N
 ext:X w0 w
 le:B<=w.heap.size
theorem Below.lF{B:Nat}{w w':World}{g:Nat}{vs:aO}{T:TypeId}(h:Below B w w')(j:g<B)(hb:ah w g vs T):ah w' g vs T:=by
 unfold ah at*;rw[h.block g j];exact hb
theorem xF.next{w0:World}{j B:Nat}{bs:List Bool}{b:ay}{N M i:Nat}{sq:List Nat}{v v3:Value}{w u:World}(h:xF w0 j B bs b N sq v w)(E:w0.heap.size<B)(hn:j<B)(e:Below B w u){m:Nat}(own:h_ u B v3 m (fG sq b.p++jo i b.p))(hf:(jo i b.p).length<=M):xF w0 j B bs b (N+M) (sq++[i]) v3 u where
 body:=Below.lF e E h.body
 needs:=Below.lF e hn h.needs
 own:=by
  have I:=own.1;rw[Gx];rw[I];exact own
 len:=by
  have:=h.len;rw[Gx,length_append];omega
 ext:=Below.trans h.ext (e.mono J)
 le:=Nat.le_trans h.le e.size
theorem xF.skip{w0:World}{j B:Nat}{bs:List Bool}{b:ay}{N i M:Nat}{sq:List Nat}{v:Value}{w:World}(h:xF w0 j B bs b N sq v w):xF w0 j B bs b (N+M) (sq++if(false=true)then[i]else[]) v w:=by grind [ay,xF]
theorem xF.seq{w0:World}{j B:Nat}{bs:List Bool}{b:ay}{N:Nat}{sq zT:List Nat}{v:Value}{w:World}(h:xF w0 j B bs b N sq v w)(e:sq=zT):xF w0 j B bs b N zT v w:=e▸h
structure Qa(b:ay)(act:Int):Prop where
 t:dK act 0=false->b.text=⟨#[]⟩
 m:dK act 1=false->b.member=List.replicate 16 0
 r:dK act 2=false->b.rn=0
 l:dK act 3=false->b.label=⟨#[]⟩
 c:dK act 4=false->b.commit=List.replicate 32 0
 e:dK act 5=false->b.epoch=0
 p:dK act 6=false->b.purpose=0
 a:dK act 7=false->b.reason=0
 n:dK act 8=false->b.need=0
 h:dK act 9=false->b.hn=0
 v:dK act 10=false->b.version=0
 k:dK act 11=false->b.count=0
theorem dx{s:ByteArray}(h:s.toList.isEmpty=true):s=⟨#[]⟩:=by
 rw[isEmpty_iff,ByteArray.toList_eq]at h;apply ByteArray.ext;exact Array.toList_eq_nil_iff.1 h
theorem Qb{b:ay}{act:Int}(h:nX b (lT act)=false):Qa b act:=by
 obtain⟨u,E,aa,ab,ac,ad,ae,af,ag,ai,I,R,j⟩:=JV (DR act);rw[j]at h;simp only[nX,ay.set,zip_cons_cons,zip_nil_right,any_cons,any_nil,Bool.or_false,Bool.or_eq_false_iff]at h;obtain⟨al,am,ap,aq,ar,aw,ax,az,aE,a0,an,ao⟩:=h;have a1:∀i,dK act i=[u,E,aa,ab,ac,ad,ae,af,ag,ai,I,R].getD i false:=fun i=>by unfold dK;rw[j]
 refine⟨fun q=> ?_,fun q=> ?_,fun q=> ?_,fun q=> ?_,fun q=> ?_,fun q=> ?_,fun q=> ?_,fun q=> ?_,fun q=> ?_,fun q=> ?_,fun q=> ?_,fun q=> ?_⟩<;>rw[a1]at q<;>simp only[getD_cons_zero,getD_cons_succ]at q<;>subst q
 ·exact dx (by simpa using al)
 ·simpa using am
 ·simpa using ap
 ·exact dx (by simpa using aq)
 ·simpa using ar
 ·simpa using aw
 ·simpa using ax
 ·simpa using az
 ·simpa using aE
 ·simpa using a0
 ·simpa using an
 ·simpa using ao
theorem Qc:∀(p:Option ByteArray) (ls:aT),ng p ls=0->∀s∈ls,jK s.data.toList=true
 |_,[],_,s,hs=>by cases hs
 |p,x::ls,h,s,hs=>by
  rw[ng]at h;cases hx:jK x.data.toList with
  |false=>rw[hx]at h;simp at h
  |true=>
   rw[hx,if_pos F]at h;split at h
   ·rcases mem_cons.1 hs with rfl|hs
    ·exact hx
    ·exact Qc _ ls h s hs
   ·cases h
theorem Qd{s:ByteArray}(h:jK s.data.toList=true):s.size<=32:=by simp_all [jK]
structure zi(b:ay)(act:Int):Prop where
 uZ:iI act=true
 zeros:Qa b act
 t:b.text.size<=32768
 rn:b.rn<=16
 hn:b.hn<=32
 roles:vV b.roles=0
 label:dK act 3=true->jK b.label.data.toList=true
 range:pJ act b=false
 rises:tZ b.mK=true
theorem Ed{b:ay}{act:Int}(h:jS act b=0):zi b act:=by
 unfold jS at h;split at h
 ·cases h
 ·rename_i u;split at h
  ·cases h
  ·rename_i E;split at h
   ·cases h
   ·rename_i ab;split at h
    ·rename_i j;rw[h]at j;cases j
    ·rename_i j;split at h
     ·cases h
     ·rename_i I;split at h
      ·cases h
      ·rename_i R;split at h
       ·cases h
       ·rename_i aa;simp only[Bool.or_eq_true,decide_eq_true_eq,not_or,Bool.not_eq_true',Bool.not_eq_true,Bool.not_eq_false,Bool.and_eq_true,not_and,bne_iff_ne,ne_eq,Decidable.not_not]at u E ab j I R aa;exact⟨u,Qb E,J,J,J,j,I,R,aa⟩
theorem zi.small{b:ay}{act:Int}(h:zi b act):Fh b:=by
 have j:=h.range;unfold pJ at j;simp only[Bool.or_eq_false_iff,dR,decide_eq_false_iff_not,Bool.and_eq_false_imp]at j;refine⟨h.t,h.rn,h.hn,fun s hs=>Qd (Qc none _ h.roles s hs),?_,J,J⟩;cases hn:dK act 3 with
 |true=>exact Qd (h.label hn)
 |false=>rw[h.zeros.l hn];decide
theorem Ee{l:List (aj)}{k:Nat}(h:∀x∈l,x.length<=k):l.flatten.length<=l.length*k:=by
 induction l with
 |nil=>simp
 |cons a l u=>
  have E:=h a aF;have I:=u (fun x j=>h x (by simp[j]));rw[flatten_cons,length_append,length_cons,Nat.add_mul,Nat.one_mul];omega
theorem Qe{b:ay}(h:Fh b)(j:b.roles.length=b.rn):(Bj b.roles).length<=600:=by
 unfold Bj;rw[length_cons];have:=Ee (l:=b.roles.map kU) (k:=33) (by
  intro x u;obtain⟨s,hs,rfl⟩:=mem_map.1 u;rw[DU];have:=h.rs s hs;omega)
 rw[length_map,j]at this;have:=h.rn;omega
theorem XV{b:ay}(h:Fh b)(k:Nat)(hk:k<=16):((b.roles.take k).map kU).flatten.length<=600:=by
 have:=Ee (l:=(b.roles.take k).map kU) (k:=33) (by
  intro x j;obtain⟨s,hs,rfl⟩:=mem_map.1 j;rw[DU];have:=h.rs s (mem_of_mem_take hs);omega)
 rw[length_map,length_take]at this;omega
theorem XW{ls:aT}{k:Nat}{x:ByteArray}(h:ls[k]? =some x):((ls.take (k+1)).map kU).flatten=((ls.take k).map kU).flatten++kU x:=by
 rw[take_add_one,h];simp
theorem XY{b:ay}(j:oP b.mK)(k:Nat)(hk:k<=32):(b.mK.take k).flatten.length<=600:=by
 have:=Ee (l:=b.mK.take k) (k:=16) (fun x u=>by rw[j x (mem_of_mem_take u)];exact Nat.le_refl _);rw[length_take]at this;omega
theorem XZ{ls:List (aj)}{k:Nat}{x:aj}(h:ls[k]? =some x):(ls.take (k+1)).flatten=(ls.take k).flatten++x:=by
 rw[take_add_one,h];simp
theorem Qg{b:ay}(h:Fh b)(u:b.mK.length=b.hn)(j:oP b.mK):(Bl b.mK).length<=600:=by
 unfold Bl;rw[length_cons];have:=Ee (l:=b.mK) (k:=16) (fun x E=>by rw[j x E];exact Nat.le_refl _);rw[u]at this;have:=h.hn;omega
def BD:List (aj):=[[],[116],[109,114],[109],[108,99],[101,99],[112,101,99],[97],[99],[110,104,101,99],[104,101,99],[118,99],[118,107,99]]
def rF(k:Nat):aj:=BD.getD k []
theorem X0{k:Nat}(hk:k<13):(BD.map fun l=>Value.string ⟨l.toArray⟩)[k]? =some (.string ⟨(rF k).toArray⟩):=by
 have:BD[k]? =some (rF k):=by
  unfold rF;rw[getD_eq_getElem?_getD];have j:k<BD.length:=hk;rw[List.getElem?_eq_getElem j];rfl
 rw[List.getElem?_map,this];rfl
theorem Gy(k:Nat)(w:World)(hk:k<13):
 nW 126 #[.int .i64 (k:Int)] w (.string ⟨(rF k).toArray⟩):=by
 have R:∀w,(Instr.buildSlice 98 13 #[(0,.string ⟨#[]⟩),(1,.string ⟨#[116]⟩),(2,.string ⟨#[109,114]⟩),(3,.string ⟨#[109]⟩),(4,.string ⟨#[108,99]⟩),(5,.string ⟨#[101,99]⟩),(6,.string ⟨#[112,101,99]⟩),(7,.string ⟨#[97]⟩),(8,.string ⟨#[99]⟩),(9,.string ⟨#[110,104,101,99]⟩),(10,.string ⟨#[104,101,99]⟩),(11,.string ⟨#[118,99]⟩),(12,.string ⟨#[118,107,99]⟩)]).run prog w= .ok (.slice (some ⟨w.heap.size,0,none⟩) 13 13) (w.alloc (.cells (BD.map fun l=>Value.string ⟨l.toArray⟩).toArray 9)):=by
  intro w
  kernel_rfl
 have E:(w.alloc (.cells (BD.map fun l=>Value.string ⟨l.toArray⟩).toArray 9)).cell? ((⟨w.heap.size,0,none⟩:Addr).add (k*1))=some (.string ⟨(rF k).toArray⟩):=by
  rw[dn];exact(ah.yu w _ _).cell' (by rw[Nat.zero_add,Nat.mul_one];exact X0 hk)
 have j:=O E;clear E;obtain⟨u,I⟩:=aC ((⟨(rF k).toArray⟩:ByteArray):ByteArray);rw[I]at j⊢;clear I;go_enter func126,ntmps126;go_wp2_with (first|(refine bF F (fP (i:=k) F F F underlying98 tV hk _) ?_)|(refine bF F (kT F F j oO) ?_));go_ret;exact⟨F,(X.refl w).alloc _⟩
section
open Go Go.RowKit
abbrev OT:TypeId:=210
theorem xG(l:aj)(s:Bool)(D g m:Nat)(w:World)(az:m<=140737488355328)(aE:gI OT D w g l s):
 Calls prog 127 #[.pointer (some ⟨g,0,none⟩),.int .i64 (m:Int)] w fun e w'=>∃a c x af am,e= .returned (.slice a m c)/\m<=c/\x.length=m/\qw w' g a (x.map Y)/\gI OT D w' g af am/\fA (fK m) l s x af am/\af.length<=l.length/\w.grownBy w' (some g):=by
 obtain⟨a,n,c,hb,hn,a6,hc,a3,ai⟩:=aE;obtain⟨aa,I,uE⟩:=aW hb hn ai;have a1:=hb.cell' (i:=0) (v:= .slice a n c) F;have k1:=hb.cell' (i:=1) (v:= .bool s) F;have ar:=hb.frozen 1;have aq:=hb.frozen 0;have a9:=aa.lt;clear hb hn ai;by_cases h:n<m
 ·have ao:decide (n<m)=true:=aQ h;have ap:decide ((n:Int)<(m:Int))=true:=aQ J;go_enter func127,ntmps127;go_upto_region 3 with(fail);generalize iX:World.setCell (World.setCell w _ _) _ _=j;have R:ah j g [.slice none 0 0,.bool true] OT:=by rw[<-iX];exact(aa.set 1 (.bool true)).set 0 (.slice none 0 0)
  have E:aU w g j:=by rw[<-iX];exact(aU.setCell _).trans (aU.setCell _)
  obtain⟨an,ag⟩:=aB R E;clear iX R E a1 k1 aq ar;have a5:=F6 j m az;go_wp2_with fail;generalize al:World.alloc j _=wB;have a2:ah wB j.heap.size ((List.replicate m (0:UInt8)).map Y) 5:=by rw[<-al];exact ah.aI F aF
  have ab:X j wB:=by rw[<-al];exact(X.refl j).alloc _
  have mU:=ag.size;go_wp2_with fail;go_ret;refine⟨_,_,List.replicate m 0,[],true,F,Nat.le_refl _,aF,?_,?_,⟨fun ac=>(by cases ac),fun _=> .inr ?_⟩,Nat.zero_le _,?_⟩
  ·exact .inr ⟨j.heap.size,0,F,J,fun i u a0=>by rw[Nat.zero_add];exact a2.cell' a0⟩
  ·have a8:=ab.size;exact⟨none,0,0,an.ext ab,F,Nat.le_refl _,J,J,.inl F⟩
  ·unfold fK;rw[I.out,if_pos h]
  ·exact xk (FU (sG w (some g)) ag) ab
 ·have ao:decide (n<m)=false:=aP h;have ap:decide ((n:Int)<(m:Int))=false:=aP J;have ae:m<=c:=J;have Gr:m<=n:=J;go_enter func127,ntmps127;go_wp2_with (first|(refine bF F (DX F F F underlying32 gu ae F _) ?_)|(refine zy F _ _ _ _ F F F underlying32 gu Gr ?_));generalize iX:World.setCell w _ _=j;have R:ah j g [.slice (dL a c m) (n - m) (c - m),.bool s] OT:=by rw[<-iX];exact aa.set 0 (.slice (dL a c m) (n - m) (c - m))
  have E:aU w g j:=by rw[<-iX];exact aU.setCell _
  have aw:=FU (sG w (some g)) E;go_ret;have a4:(l.map Y).length=n:=by rw[length_map];exact I
  refine⟨_,_,l.take m,l.drop m,s,F,ae,?_,?_,?_,⟨fun ac=>⟨ac,?_⟩,fun ax=> .inl ax⟩,?_,aw⟩
  ·rw[length_take,I.out];omega
  ·rw[map_take];exact((uE.turn fun k _ ad=>E.block k ad).Pv c m ae).off
  ·have a7:=E.size;refine⟨_,_,_,R,by rw[length_drop,I.out],J,J,J,?_⟩;rw[map_drop];exact(uE.turn fun k _ ad=>E.block k ad).Px c m J
  ·unfold fK;rw[I.out,if_neg h]
  ·rw[length_drop];omega
theorem yH(l:aj)(s:Bool)(D g:Nat)(w:World)(j:gI OT D w g l s):
 Calls prog 128 #[.pointer (some ⟨g,0,none⟩)] w fun e w'=>∃x:Nat,e= .returned (.int .i64 (x:Int))/\x<256/\Fe OT D kV w g l s x w':=by
 have ac:=O j;clear j;go_enter func128,ntmps128;go_wp2_with fail;refine(xG l s D g 1 w J ac).mono ?_;rintro e w' ⟨a,am,x,ag,ai,rfl,vD,u,hc,j,ht,R,I⟩;obtain⟨b,off,rfl,E⟩:=hc.cells.gQ (by rw[length_map,u];omega);obtain⟨c,rfl⟩:∃c,x=[c]:=by
  match x,u with
  |[c],_=>exact⟨c,F⟩
 have af:w'.cell? ⟨b,off,none⟩=some (.int .u8 (c.toNat:Int)):=E 0 _ F;obtain⟨al,ad,ae,aa,ab⟩:=dM af j ht I R;clear hc E j ht I R u;have an:=c.toNat_lt;have ao:IntKind.i64.wrap (c.toNat:Int)=(c.toNat:Int):=IntWalk.i64_in _ J;go_wp2_with fail;go_ret;refine⟨c.toNat,F,J,ag,ai,ad,?_,ab,aa⟩;exact(ae.map (fun x=>(x.headD 0).toNat)).congr F
def kF(l:aj):Int:=kK (jM l)
theorem Qh{act:Int}(h:iI act=true):(gy act).Nodup/\∀i∈gy act,i<12:=by
 rcases wo h with rfl|rfl|rfl|rfl|rfl|rfl|rfl|rfl|rfl|rfl|rfl|rfl<;>decide
def jZ(i:Nat):UInt8:=[116,109,114,108,99,101,112,97,110,104,118,107].getD i 0
theorem Qi{act:Int}(h:iI act=true):rF act.toNat=(gy act).map jZ:=by
 rcases wo h with rfl|rfl|rfl|rfl|rfl|rfl|rfl|rfl|rfl|rfl|rfl|rfl<;>decide
structure AQ(w0:World)(g gi B:Nat)(us:ByteArray)(l0:aj)(sq:List Nat)(w:World)(r:ay)(l:aj)(s:Bool):Prop where
 body:ah w (w0.heap.size+1) r.v 101
 res:ah w w0.heap.size dI.v 101
 rd:gI OT w0.heap.size w g l s
 took:fA (jC kF sq kD) l0 false r.p l s
 ext:X w0 w
 fit:r.Fit
 jF:bJ w B r.ra (r.roles.map bM)
 hhi:bJ w B r.ha (dB r.mK)
 nr:2∉sq->xE r
 nh:9∉sq->ug r
 it:w.heap[gi]? =some (.stringIter us sq.length)
section
variable {w0:World} {g gi B i:Nat} {us:ByteArray} {l0:aj} {sq:List Nat} {w:World} {r:ay} {l:aj} {s:Bool}
structure BF(w0:World)(g gi B:Nat)(us:ByteArray)(l0:aj)(sq:List Nat)(w:World)(r:ay)(l:aj)(s:Bool):Prop where
 body:ah w (w0.heap.size+1) r.v 101
 res:ah w w0.heap.size dI.v 101
 rd:gI OT w0.heap.size w g l s
 took:fA (jC kF sq kD) l0 false r.p l s
 ext:X w0 w
 fit:r.Fit
 jF:bJ w B r.ra (r.roles.map bM)
 hhi:bJ w B r.ha (dB r.mK)
 nr:2∉sq->xE r
 nh:9∉sq->ug r
 it:w.heap[gi]? =some (.stringIter us (sq.length+1))
theorem X.Ef{W w w':World}{k:Nat}(h:X W w)(g:w.grownBy w' (some k))(hk:W.heap.size<=k):X W w':=h.grown g (by intro q j;injection j with j;omega)
theorem BF.store(h:BF w0 g gi B us l0 sq w r l s){w2 aa:World}{I:aj}{R:Bool}{r2:ay}(aq:w0.heap.size+1<g)(ar:w0.heap.size+1<gi)(ao:gi≠g)(af:w0.heap.size+1<B)(ag:g<B)(j:w.grownBy w2 (some g))(rd:gI OT w0.heap.size w2 g I R)(u:aU w2 (w0.heap.size+1) aa)
 (hb:ah aa (w0.heap.size+1) r2.v 101)(ap:fA (jC kF (sq++[i]) kD) l0 false r2.p I R)(fit:r2.Fit)(ab:r2.ra=r.ra)(al:r2.rn=r.rn)(ai:r2.rc=r.rc)(ac:r2.roles=r.roles)(ad:r2.ha=r.ha)(an:r2.hn=r.hn)(am:r2.hc=r.hc)(ae:r2.mK=r.mK):AQ w0 g gi B us l0 (sq++[i]) aa r2 I R where
 body:=hb
 res:=(h.res.grown j (by simp;omega)).upd u J
 rd:=rd.upd u J J
 took:=ap
 ext:=u.ext (h.ext.Ef j J) J
 fit:=fit
 jF:=by rw[ab,ac];exact(h.jF.grown j ag).upd u af
 hhi:=by rw[ad,ae];exact(h.hhi.grown j ag).upd u af
 nr:=fun hn=>by
  have:=h.nr (fun E=>hn (by simp[E]));exact⟨ab.trans this.a,al.trans this.n,ai.trans this.c,ac.trans this.l⟩
 nh:=fun hn=>by
  have:=h.nh (fun E=>hn (by simp[E]));exact⟨ad.trans this.a,an.trans this.n,am.trans this.c,ae.trans this.l⟩
 it:=by
  rw[u.block gi J,j.block gi (Array.getElem?_eq_some_iff.1 h.it).1 (by simpa using ao),h.it,length_append];rfl
theorem BF.aM(h:BF w0 g gi B us l0 sq w r l s){w2:World}(u:w0.heap.size+1<g)(j:w.grownBy w2 (some g)):ah w2 (w0.heap.size+1) r.v 101:=h.body.grown j (by simp;omega)
theorem AQ.next(h:AQ w0 g gi B us l0 sq w r l s){w2:World}(I:w0.heap.size+1<g)(aa:w0.heap.size+1<gi)(ab:gi≠g)(R:gi<B)(u:∀k,k≠gi->w2.heap[k]? =w.heap[k]?)(hs:w2.heap.size=w.heap.size)(j:w2.os=w.os/\w2.tape=w.tape/\w2.output=w.output)(E:w2.heap[gi]? =some (.stringIter us (sq.length+1))):BF w0 g gi B us l0 sq w2 r l s where
 body:=by unfold ah;rw[u _ J];exact h.body
 res:=by unfold ah;rw[u _ J];exact h.res
 rd:=h.rd.same ⟨J,fun k hk=>u k J,u g J⟩
 took:=h.took
 ext:=⟨j.1.trans h.ext.os,j.2.1.trans h.ext.tape,j.2.2.trans h.ext.output,by have:=h.ext.size;omega,fun k hk=>(u k J).trans (h.ext.block k hk)⟩
 fit:=h.fit
 jF:=h.jF.turn fun k hk _=>u k J
 hhi:=h.hhi.turn fun k hk _=>u k J
 nr:=h.nr
 nh:=h.nh
 it:=E
end
end
theorem aeA(s:ByteArray)(c:Int)(w:World):
 Calls prog 295 #[.string s,.int .u8 c] w fun e w'=>e= .returned (.int .i64 (Lib.indexByte s.data.toList c.toNat.toUInt8))/\w'=w:=by
 go_enter func295,ntmps295;go_wp2;rw[run_callFunc_extern func328 au au au (e:=Extern.BytealgIndexByte.indexByte) au,Lib.run_indexByteString];simp only[Result.andThen];rw[Oper.upon_value];go_wp2;go_ret;exact⟨F,F⟩
theorem aeo(s:ByteArray)(c:UInt8)(w:World):
 Calls prog 238 #[.string s,.string ⟨#[c]⟩] w fun e w'=>e= .returned (.int .i64 (Lib.indexByte s.data.toList c))/\w'=w:=by
 go_enter func238,ntmps238;go_wp2_with (go_at_call 295;refine(aeA _ _ _).mono ?_;rintro e w' ⟨rfl,rfl⟩)
 ·have h:([c]==s.toList)=true:=by assumption
  go_ret;refine⟨?_,F⟩;have e:s.data.toList=[c]:=by rw[<-Lib.toList_data];exact(beq_iff_eq.1 h).symm
  rw[e];simp[Lib.indexByte]
 ·go_ret;exact⟨F,F⟩
theorem aek(s:ByteArray)(c:UInt8)(w:World):
 Calls prog 232 #[.string s,.string ⟨#[c]⟩] w fun e w'=>e= .returned (.int .i64 (Lib.indexByte s.data.toList c))/\w'=w:=by
 go_enter func232,ntmps232;go_wp2_with (go_at_call 238;refine(aeo _ _ _).mono ?_;rintro e w' ⟨rfl,rfl⟩);go_ret;exact⟨F,F⟩
theorem aeB(s:ByteArray)(c:UInt8)(w:World):
 Calls prog 184 #[.string s,.string ⟨#[c]⟩] w fun e w'=>e= .returned (.bool (decide (0<=Lib.indexByte s.data.toList c)))/\w'=w:=by
 go_enter func184,ntmps184;go_wp2_with (go_at_call 232;refine(aek _ _ _).mono ?_;rintro e w' ⟨rfl,rfl⟩);go_ret;exact⟨F,F⟩
theorem X3:∀(a:Fin 13) (k:Fin 12),1<=a.val->decide (0<=Lib.indexByte (rF a.val) (jZ k.val))=(lT (a.val:Int)).getD k.val false:=by decide+kernel
theorem Qj(act:Int)(k:Nat)(w:World)(h:iI act=true)(hk:k<12):
 Br 184 #[.string ⟨(rF act.toNat).toArray⟩,.string ⟨#[jZ k]⟩] w (.bool (dK act k)):=by
 refine(aeB ⟨(rF act.toNat).toArray⟩ (jZ k) w).mono ?_;rintro e w' ⟨rfl,rfl⟩;refine⟨?_,F⟩;unfold iI at h;simp only[Bool.and_eq_true,decide_eq_true_eq]at h;have j:=X3 ⟨act.toNat,J⟩ ⟨k,hk⟩ (by show 1<=act.toNat;omega);unfold dK;have u:((act.toNat:Nat):Int)=act:=J;simp only[u]at j;rw[<-j]
def yI(l:List (UInt8×Bool)):aO:=(l.map fun p=>[Value.string ⟨#[p.1]⟩,.bool p.2]).flatten
theorem X4{l:List (UInt8×Bool)}{k:Nat}{p:UInt8×Bool}(h:l[k]? =some p):∀j,j<2->(yI l)[2*k+j]? =([Value.string ⟨#[p.1]⟩,.bool p.2]:aO)[j]? :=by
 intro j E;induction l generalizing k with
 |nil=>cases h
 |cons a l u=>
  have hc:yI (a::l)=[Value.string ⟨#[a.1]⟩,.bool a.2]++yI l:=F;rw[hc];cases k with
  |zero=>
   cases h;rw[List.getElem?_append_left (by simp;omega),Nat.mul_zero,Nat.zero_add]
  |succ k=>
   rw[List.getElem?_append_right (by simp;omega),show 2*(k+1)+j - [Value.string ⟨#[a.1]⟩,.bool a.2].length=2*k+j by simp;omega];exact u (by simpa using h)
abbrev PT:TypeId:=327
theorem Qk:iH prog PT 2:=⟨⟨_,underlying327,F⟩,au⟩
theorem Ql:(prog.info? PT).map (·.size)=some 2:=au
theorem X5:(prog.info? PT).map (fun i=>(i.zero,i.size,i.bytes))=some (some (.agg #[.string ⟨#[]⟩,.bool false]),2,24):=au
theorem X6(j u R aa ab ac ad ae af ag E I:Bool)(w:World):(Instr.buildSlice 328 12 #[(0,.agg #[.string ⟨#[116]⟩,.bool j]),(1,.agg #[.string ⟨#[109]⟩,.bool u]),(2,.agg #[.string ⟨#[114]⟩,.bool R]),(3,.agg #[.string ⟨#[108]⟩,.bool aa]),(4,.agg #[.string ⟨#[99]⟩,.bool ab]),(5,.agg #[.string ⟨#[101]⟩,.bool ac]),(6,.agg #[.string ⟨#[112]⟩,.bool ad]),(7,.agg #[.string ⟨#[97]⟩,.bool ae]),(8,.agg #[.string ⟨#[110]⟩,.bool af]),(9,.agg #[.string ⟨#[104]⟩,.bool ag]),(10,.agg #[.string ⟨#[118]⟩,.bool E]),(11,.agg #[.string ⟨#[107]⟩,.bool I])]).run prog w= .ok (.slice (some ⟨w.heap.size,0,none⟩) 12 12) (w.alloc (.cells (yI [(116,j),(109,u),(114,R),(108,aa),(99,ab),(101,ac),(112,ad),(97,ae),(110,af),(104,ag),(118,E),(107,I)]).toArray PT)):=by
 obtain⟨ao,am,an,mU,ap⟩:=info_parts X5;refine run_buildSlice (P:=prog) w 328 PT 12 _ (yI [(116,j),(109,u),(114,R),(108,aa),(99,ab),(101,ac),(112,ad),(97,ae),(110,af),(104,ag),(118,E),(107,I)]).toArray ao _ underlying328 am an (by rw[mU];omega) (by rw[mU];omega) ?_;have hf:∀ai:Array Value,ai.size=24->Instr.fill (fun i=>some (i*2,2)) ai [(0,.agg #[.string ⟨#[116]⟩,.bool j]),(1,.agg #[.string ⟨#[109]⟩,.bool u]),(2,.agg #[.string ⟨#[114]⟩,.bool R]),(3,.agg #[.string ⟨#[108]⟩,.bool aa]),(4,.agg #[.string ⟨#[99]⟩,.bool ab]),(5,.agg #[.string ⟨#[101]⟩,.bool ac]),(6,.agg #[.string ⟨#[112]⟩,.bool ad]),(7,.agg #[.string ⟨#[97]⟩,.bool ae]),(8,.agg #[.string ⟨#[110]⟩,.bool af]),(9,.agg #[.string ⟨#[104]⟩,.bool ag]),(10,.agg #[.string ⟨#[118]⟩,.bool E]),(11,.agg #[.string ⟨#[107]⟩,.bool I])]=some (yI [(116,j),(109,u),(114,R),(108,aa),(99,ab),(101,ac),(112,ad),(97,ae),(110,af),(104,ag),(118,E),(107,I)]).toArray:=by
  intro ai hc;have h:=Great.fill_whole (s:=2) J [.agg #[.string ⟨#[116]⟩,.bool j],.agg #[.string ⟨#[109]⟩,.bool u],.agg #[.string ⟨#[114]⟩,.bool R],.agg #[.string ⟨#[108]⟩,.bool aa],.agg #[.string ⟨#[99]⟩,.bool ab],.agg #[.string ⟨#[101]⟩,.bool ac],.agg #[.string ⟨#[112]⟩,.bool ad],.agg #[.string ⟨#[97]⟩,.bool ae],.agg #[.string ⟨#[110]⟩,.bool af],.agg #[.string ⟨#[104]⟩,.bool ag],.agg #[.string ⟨#[118]⟩,.bool E],.agg #[.string ⟨#[107]⟩,.bool I]] ai (by intro v al;simp only[mem_cons,not_mem_nil,or_false]at al;rcases al with rfl|rfl|rfl|rfl|rfl|rfl|rfl|rfl|rfl|rfl|rfl|rfl<;>rfl) (by simp[hc]);simpa[Value.cells,yI]using h
 rw[mU];exact hf _ (by simp[Builtin.zeroCells,Value.cells])
theorem X7(j u R aa ab ac ad ae af ag E I:Bool):∀k,k<12->([(116,j),(109,u),(114,R),(108,aa),(99,ab),(101,ac),(112,ad),(97,ae),(110,af),(104,ag),(118,E),(107,I)]:List (UInt8×Bool))[k]? =some (jZ k,[j,u,R,aa,ab,ac,ad,ae,af,ag,E,I].getD k false):=by
 intro k hk;rcases(by omega:k=0∨k=1∨k=2∨k=3∨k=4∨k=5∨k=6∨k=7∨k=8∨k=9∨k=10∨k=11)with rfl|rfl|rfl|rfl|rfl|rfl|rfl|rfl|rfl|rfl|rfl|rfl<;>rfl
theorem Qm{xs u:List Bool}(aa:xs.length=12)(hn:u.length=12):((u.zip xs).any fun p=> !p.1&&p.2)=true↔∃k,k<12/\u.getD k false=false/\xs.getD k false=true:=by
 rw[any_eq_true]
 constructor
 ·rintro⟨p,R,j⟩;obtain⟨k,hk,rfl⟩:=mem_iff_getElem.1 R;rw[length_zip]at hk;refine⟨k,J,?_,?_⟩
  ·rw[getD_eq_getElem?_getD,List.getElem?_eq_getElem J];simp only[getElem_zip,Bool.and_eq_true,Bool.not_eq_true']at j;simpa using j.1
  ·rw[getD_eq_getElem?_getD,List.getElem?_eq_getElem J];simp only[getElem_zip,Bool.and_eq_true,Bool.not_eq_true']at j;simpa using j.2
 ·rintro⟨k,hk,E,I⟩;refine⟨(u.zip xs)[k]'(by rw[length_zip];omega),getElem_mem _,?_⟩;rw[getD_eq_getElem?_getD,List.getElem?_eq_getElem J]at E I;simp only[getElem_zip];simp only[Option.getD_some]at E I;rw[E,I];rfl
theorem X8(act:Int)(b:ay)(w:World)(b6:b.Ok w)(ha:iI act=true):
 nW 182 #[.int .i64 act,.agg b.v.toArray] w (.int .i64 (if nX b (lT act)then 2 else 0)):=by
 obtain⟨I,b4⟩:=aB b6 (fun k w=>Qj act k w ha);have cn:1<=act/\act<=12:=by unfold iI at ha;simpa using ha
 obtain⟨K,rfl⟩:∃K:Nat,act=(K:Int):=⟨act.toNat,J⟩;have b8:=O (fun w=>Gy K w J);obtain⟨u,ar⟩:=aC ((⟨(rF K).toArray⟩:ByteArray):ByteArray);rw[show(K:Int).toNat=K from F,ar]at b4;rw[ar]at b8;have co:=O (show nX b (lT (K:Int))=((lT (K:Int)).zip b.set).any (fun p=> !p.1&&p.2)from F);obtain⟨cw,a8⟩:=aC ((if nX b (lT (K:Int))then(2:Int)else 0):Int);rw[a8];have br:=O a8;clear b6 ar cn ha a8;go_enter func182,ntmps182;go_upto_region 1 with(fail);generalize iX:World.alloc w _=bi;have bv:ah bi w.heap.size b.v 101:=by rw[<-iX];exact ah.aI F F
 have bw:X w bi:=by rw[<-iX];exact(X.refl w).alloc _
 obtain⟨bj,EA⟩:=aB bv bw;clear iX bv bw;go_wp2_with fail;refine(b8 bi).mono ?_;rintro e w2 ⟨rfl,e2⟩;obtain⟨aa,a1⟩:=aB (bj.ext e2) (EA.ext e2);have a5:=O (I.ext a1);clear e2 bj EA;obtain⟨cd,cc,cg,cf⟩:=bU (show(b.member.map Y).length=16 by rw[length_map];exact I.hm) (show(b.commit.map Y).length=32 by rw[length_map];exact I.hcm) (fun w=>vY underlying29 b.member (List.replicate 16 0) I.hm aF w) (fun w=>vY underlying31 b.commit (List.replicate 32 0) I.hcm aF w);have be:b.set=b.set:=F
 conv at be=>rhs;unfold ay.set
 have R:=O be;clear be;go_upto_region 2 with(fail);obtain⟨C,iB,aJ⟩:=jJ w2;refine wp_region_held_drew (S:=C) au ((iB _).2 (X.refl w2).drew) (fun Z=> ?_);refine d_ 0 (v:= .pointer (some ⟨w.heap.size,0,none⟩)) F au au au (fun _ _ _ h=>h) (.inl ⟨F,?va1⟩) Z ?vb1
 case va1=>(intro _ _;go_simp;try with_reducible rfl)
 case vb1=>
 refine cO ?_;refine d_ 1 (v:= .string b.text) F au au au (fun _ _ _ h=>h) (.inl ⟨F,?va2⟩) Z ?vb2
 case va2=>(intro E eU;have oz:=(aa.ext ((iB E).1 eU)).cell' (ay.aL b);go_simp;try with_reducible rfl)
 case vb2=>
 refine cO ?_;refine d_ 2 (v:= .bool (!b.text.toList.isEmpty)) F au au au (fun _ _ _ h=>h) (.inl ⟨F,?va3⟩) Z ?vb3
 case va3=>(intro _ _;go_simp;try with_reducible rfl)
 case vb3=>
 refine cO ?_;generalize (!b.text.toList.isEmpty)=ab at R⊢;refine d_ 3 (v:= .agg #[.string ⟨#[116]⟩,.bool ab]) F au au au (fun _ _ _ h=>h) (.inl ⟨F,?va4⟩) Z ?vb4
 case va4=>(intro _ _;go_simp;try with_reducible rfl)
 case vb4=>
 refine cO ?_;refine d_ 4 (v:= .pointer (some ⟨w.heap.size,1,none⟩)) F au au au (fun _ _ _ h=>h) (.inl ⟨F,?va5⟩) Z ?vb5
 case va5=>(intro _ _;go_simp;try with_reducible rfl)
 case vb5=>
 refine cO ?_;refine d_ 5 (v:= .agg (b.member.map Y).toArray) F au au au (fun _ _ _ h=>h) (.inl ⟨F,?va6⟩) Z ?vb6
 case va6=>(intro E eU;exact bQ F F (ay.JL (a5.ext ((iB E).1 eU)) (aa.ext ((iB E).1 eU))) dh cd)
 case vb6=>
 refine cO ?_;refine d_ 6 (v:= .agg ((List.replicate 16 (0:UInt8)).map Y).toArray) F au au au (fun _ _ _ h=>h) (.inl ⟨F,?va7⟩) Z ?vb7
 case va7=>(intro _ _;go_simp;first|with_reducible rfl|rfl|done)
 case vb7=>
 refine cO ?_;refine d_ 7 (v:= .bool (!(b.member==List.replicate 16 0))) F au au au (fun _ _ _ h=>h) (.inl ⟨F,?va8⟩) Z ?vb8
 case va8=>(intro E _;exact jm F F F oD cg E)
 case vb8=>
 refine cO ?_;generalize (!(b.member==List.replicate 16 0))=ac at R⊢;refine d_ 8 (v:= .agg #[.string ⟨#[109]⟩,.bool ac]) F au au au (fun _ _ _ h=>h) (.inl ⟨F,?va9⟩) Z ?vb9
 case va9=>(intro _ _;go_simp;try with_reducible rfl)
 case vb9=>
 refine cO ?_;refine d_ 9 (v:= .pointer (some ⟨w.heap.size,17,none⟩)) F au au au (fun _ _ _ h=>h) (.inl ⟨F,?va10⟩) Z ?vb10
 case va10=>(intro _ _;go_simp;try with_reducible rfl)
 case vb10=>
 refine cO ?_;refine d_ 10 (v:= .slice b.ra b.rn b.rc) F au au au (fun _ _ _ h=>h) (.inl ⟨F,?va11⟩) Z ?vb11
 case va11=>(intro E eU;have oz:=(aa.ext ((iB E).1 eU)).cell' (ay.pI I);go_simp;try with_reducible rfl)
 case vb11=>
 refine cO ?_;refine d_ 11 (v:= .int .i64 (b.rn:Int)) F au au au (fun _ _ _ h=>h) (.inl ⟨F,?va12⟩) Z ?vb12
 case va12=>(intro _ _;go_simp;try with_reducible rfl)
 case vb12=>
 refine cO ?_;refine d_ 12 (v:= .bool (decide (0<b.rn))) F au au au (fun _ _ _ h=>h) (.inl ⟨F,?va13⟩) Z ?vb13
 case va13=>(intro _ _;go_simp;first|with_reducible rfl|done)
 case vb13=>
 refine cO ?_;generalize (decide (0<b.rn))=af at R⊢;refine d_ 13 (v:= .agg #[.string ⟨#[114]⟩,.bool af]) F au au au (fun _ _ _ h=>h) (.inl ⟨F,?va14⟩) Z ?vb14
 case va14=>(intro _ _;go_simp;try with_reducible rfl)
 case vb14=>
 refine cO ?_;refine d_ 14 (v:= .pointer (some ⟨w.heap.size,18,none⟩)) F au au au (fun _ _ _ h=>h) (.inl ⟨F,?va15⟩) Z ?vb15
 case va15=>(intro _ _;go_simp;try with_reducible rfl)
 case vb15=>
 refine cO ?_;refine d_ 15 (v:= .string b.label) F au au au (fun _ _ _ h=>h) (.inl ⟨F,?va16⟩) Z ?vb16
 case va16=>(intro E eU;have oz:=(aa.ext ((iB E).1 eU)).cell' (ay.zH I);go_simp;try with_reducible rfl)
 case vb16=>
 refine cO ?_;refine d_ 16 (v:= .bool (!b.label.toList.isEmpty)) F au au au (fun _ _ _ h=>h) (.inl ⟨F,?va17⟩) Z ?vb17
 case va17=>(intro _ _;go_simp;try with_reducible rfl)
 case vb17=>
 refine cO ?_;generalize (!b.label.toList.isEmpty)=ag at R⊢;refine d_ 17 (v:= .agg #[.string ⟨#[108]⟩,.bool ag]) F au au au (fun _ _ _ h=>h) (.inl ⟨F,?va18⟩) Z ?vb18
 case va18=>(intro _ _;go_simp;try with_reducible rfl)
 case vb18=>
 refine cO ?_;refine d_ 18 (v:= .pointer (some ⟨w.heap.size,19,none⟩)) F au au au (fun _ _ _ h=>h) (.inl ⟨F,?va19⟩) Z ?vb19
 case va19=>(intro _ _;go_simp;try with_reducible rfl)
 case vb19=>
 refine cO ?_;refine d_ 19 (v:= .agg (b.commit.map Y).toArray) F au au au (fun _ _ _ h=>h) (.inl ⟨F,?va20⟩) Z ?vb20
 case va20=>(intro E eU;exact bQ F F (ay.comm (a5.ext ((iB E).1 eU)) (aa.ext ((iB E).1 eU))) bY cc)
 case vb20=>
 refine cO ?_;refine d_ 20 (v:= .agg ((List.replicate 32 (0:UInt8)).map Y).toArray) F au au au (fun _ _ _ h=>h) (.inl ⟨F,?va21⟩) Z ?vb21
 case va21=>(intro _ _;go_simp;first|with_reducible rfl|rfl|done)
 case vb21=>
 refine cO ?_;refine d_ 21 (v:= .bool (!(b.commit==List.replicate 32 0))) F au au au (fun _ _ _ h=>h) (.inl ⟨F,?va22⟩) Z ?vb22
 case va22=>(intro E _;exact jm F F F O5 cf E)
 case vb22=>
 refine cO ?_;generalize (!(b.commit==List.replicate 32 0))=ai at R⊢;refine d_ 22 (v:= .agg #[.string ⟨#[99]⟩,.bool ai]) F au au au (fun _ _ _ h=>h) (.inl ⟨F,?va23⟩) Z ?vb23
 case va23=>(intro _ _;go_simp;try with_reducible rfl)
 case vb23=>
 refine cO ?_;refine d_ 23 (v:= .pointer (some ⟨w.heap.size,51,none⟩)) F au au au (fun _ _ _ h=>h) (.inl ⟨F,?va24⟩) Z ?vb24
 case va24=>(intro _ _;go_simp;try with_reducible rfl)
 case vb24=>
 refine cO ?_;refine d_ 24 (v:= .int .i64 b.epoch) F au au au (fun _ _ _ h=>h) (.inl ⟨F,?va25⟩) Z ?vb25
 case va25=>(intro E eU;have oz:=(aa.ext ((iB E).1 eU)).cell' (ay.mD I);go_simp;try with_reducible rfl)
 case vb25=>
 refine cO ?_;refine d_ 25 (v:= .bool (b.epoch != 0)) F au au au (fun _ _ _ h=>h) (.inl ⟨F,?va26⟩) Z ?vb26
 case va26=>(intro _ _;go_simp;first|with_reducible rfl|done)
 case vb26=>
 refine cO ?_;generalize (b.epoch != 0)=al at R⊢;refine d_ 26 (v:= .agg #[.string ⟨#[101]⟩,.bool al]) F au au au (fun _ _ _ h=>h) (.inl ⟨F,?va27⟩) Z ?vb27
 case va27=>(intro _ _;go_simp;try with_reducible rfl)
 case vb27=>
 refine cO ?_;refine d_ 27 (v:= .pointer (some ⟨w.heap.size,52,none⟩)) F au au au (fun _ _ _ h=>h) (.inl ⟨F,?va28⟩) Z ?vb28
 case va28=>(intro _ _;go_simp;try with_reducible rfl)
 case vb28=>
 refine cO ?_;refine d_ 28 (v:= .int .i64 b.purpose) F au au au (fun _ _ _ h=>h) (.inl ⟨F,?va29⟩) Z ?vb29
 case va29=>(intro E eU;have oz:=(aa.ext ((iB E).1 eU)).cell' (ay.nV I);go_simp;try with_reducible rfl)
 case vb29=>
 refine cO ?_;refine d_ 29 (v:= .bool (b.purpose != 0)) F au au au (fun _ _ _ h=>h) (.inl ⟨F,?va30⟩) Z ?vb30
 case va30=>(intro _ _;go_simp;first|with_reducible rfl|done)
 case vb30=>
 refine cO ?_;generalize (b.purpose != 0)=am at R⊢;refine d_ 30 (v:= .agg #[.string ⟨#[112]⟩,.bool am]) F au au au (fun _ _ _ h=>h) (.inl ⟨F,?va31⟩) Z ?vb31
 case va31=>(intro _ _;go_simp;try with_reducible rfl)
 case vb31=>
 refine cO ?_;refine d_ 31 (v:= .pointer (some ⟨w.heap.size,53,none⟩)) F au au au (fun _ _ _ h=>h) (.inl ⟨F,?va32⟩) Z ?vb32
 case va32=>(intro _ _;go_simp;try with_reducible rfl)
 case vb32=>
 refine cO ?_;refine d_ 32 (v:= .int .i64 b.reason) F au au au (fun _ _ _ h=>h) (.inl ⟨F,?va33⟩) Z ?vb33
 case va33=>(intro E eU;have oz:=(aa.ext ((iB E).1 eU)).cell' (ay.oQ I);go_simp;try with_reducible rfl)
 case vb33=>
 refine cO ?_;refine d_ 33 (v:= .bool (b.reason != 0)) F au au au (fun _ _ _ h=>h) (.inl ⟨F,?va34⟩) Z ?vb34
 case va34=>(intro _ _;go_simp;first|with_reducible rfl|done)
 case vb34=>
 refine cO ?_;generalize (b.reason != 0)=an at R⊢;refine d_ 34 (v:= .agg #[.string ⟨#[97]⟩,.bool an]) F au au au (fun _ _ _ h=>h) (.inl ⟨F,?va35⟩) Z ?vb35
 case va35=>(intro _ _;go_simp;try with_reducible rfl)
 case vb35=>
 refine cO ?_;refine d_ 35 (v:= .pointer (some ⟨w.heap.size,54,none⟩)) F au au au (fun _ _ _ h=>h) (.inl ⟨F,?va36⟩) Z ?vb36
 case va36=>(intro _ _;go_simp;try with_reducible rfl)
 case vb36=>
 refine cO ?_;refine d_ 36 (v:= .int .i64 b.need) F au au au (fun _ _ _ h=>h) (.inl ⟨F,?va37⟩) Z ?vb37
 case va37=>(intro E eU;have oz:=(aa.ext ((iB E).1 eU)).cell' (ay.xw I);go_simp;try with_reducible rfl)
 case vb37=>
 refine cO ?_;refine d_ 37 (v:= .bool (b.need != 0)) F au au au (fun _ _ _ h=>h) (.inl ⟨F,?va38⟩) Z ?vb38
 case va38=>(intro _ _;go_simp;first|with_reducible rfl|done)
 case vb38=>
 refine cO ?_;generalize (b.need != 0)=ao at R⊢;refine d_ 38 (v:= .agg #[.string ⟨#[110]⟩,.bool ao]) F au au au (fun _ _ _ h=>h) (.inl ⟨F,?va39⟩) Z ?vb39
 case va39=>(intro _ _;go_simp;try with_reducible rfl)
 case vb39=>
 refine cO ?_;refine d_ 39 (v:= .pointer (some ⟨w.heap.size,57,none⟩)) F au au au (fun _ _ _ h=>h) (.inl ⟨F,?va40⟩) Z ?vb40
 case va40=>(intro _ _;go_simp;try with_reducible rfl)
 case vb40=>
 refine cO ?_;refine d_ 40 (v:= .slice b.ha b.hn b.hc) F au au au (fun _ _ _ h=>h) (.inl ⟨F,?va41⟩) Z ?vb41
 case va41=>(intro E eU;have oz:=(aa.ext ((iB E).1 eU)).cell' (ay.xB I);go_simp;try with_reducible rfl)
 case vb41=>
 refine cO ?_;refine d_ 41 (v:= .int .i64 (b.hn:Int)) F au au au (fun _ _ _ h=>h) (.inl ⟨F,?va42⟩) Z ?vb42
 case va42=>(intro _ _;go_simp;try with_reducible rfl)
 case vb42=>
 refine cO ?_;refine d_ 42 (v:= .bool (decide (0<b.hn))) F au au au (fun _ _ _ h=>h) (.inl ⟨F,?va43⟩) Z ?vb43
 case va43=>(intro _ _;go_simp;first|with_reducible rfl|done)
 case vb43=>
 refine cO ?_;generalize (decide (0<b.hn))=ap at R⊢;refine d_ 43 (v:= .agg #[.string ⟨#[104]⟩,.bool ap]) F au au au (fun _ _ _ h=>h) (.inl ⟨F,?va44⟩) Z ?vb44
 case va44=>(intro _ _;go_simp;try with_reducible rfl)
 case vb44=>
 refine cO ?_;refine d_ 44 (v:= .pointer (some ⟨w.heap.size,55,none⟩)) F au au au (fun _ _ _ h=>h) (.inl ⟨F,?va45⟩) Z ?vb45
 case va45=>(intro _ _;go_simp;try with_reducible rfl)
 case vb45=>
 refine cO ?_;refine d_ 45 (v:= .int .i64 b.version) F au au au (fun _ _ _ h=>h) (.inl ⟨F,?va46⟩) Z ?vb46
 case va46=>(intro E eU;have oz:=(aa.ext ((iB E).1 eU)).cell' (ay.GQ I);go_simp;try with_reducible rfl)
 case vb46=>
 refine cO ?_;refine d_ 46 (v:= .bool (b.version != 0)) F au au au (fun _ _ _ h=>h) (.inl ⟨F,?va47⟩) Z ?vb47
 case va47=>(intro _ _;go_simp;first|with_reducible rfl|done)
 case vb47=>
 refine cO ?_;generalize (b.version != 0)=ad at R⊢;refine d_ 47 (v:= .agg #[.string ⟨#[118]⟩,.bool ad]) F au au au (fun _ _ _ h=>h) (.inl ⟨F,?va48⟩) Z ?vb48
 case va48=>(intro _ _;go_simp;try with_reducible rfl)
 case vb48=>
 refine cO ?_;refine d_ 48 (v:= .pointer (some ⟨w.heap.size,56,none⟩)) F au au au (fun _ _ _ h=>h) (.inl ⟨F,?va49⟩) Z ?vb49
 case va49=>(intro _ _;go_simp;try with_reducible rfl)
 case vb49=>
 refine cO ?_;refine d_ 49 (v:= .int .i64 b.count) F au au au (fun _ _ _ h=>h) (.inl ⟨F,?va50⟩) Z ?vb50
 case va50=>(intro E eU;have oz:=(aa.ext ((iB E).1 eU)).cell' (ay.Bh I);go_simp;try with_reducible rfl)
 case vb50=>
 refine cO ?_;refine d_ 50 (v:= .bool (b.count != 0)) F au au au (fun _ _ _ h=>h) (.inl ⟨F,?va51⟩) Z ?vb51
 case va51=>(intro _ _;go_simp;first|with_reducible rfl|done)
 case vb51=>
 refine cO ?_;generalize (b.count != 0)=ae at R⊢;refine d_ 51 (v:= .agg #[.string ⟨#[107]⟩,.bool ae]) F au au au (fun _ _ _ h=>h) (.inl ⟨F,?va52⟩) Z ?vb52
 case va52=>(intro _ _;go_simp;try with_reducible rfl)
 case vb52=>
 refine cO ?_;have cp:=X6 ab ac af ag ai al am an ao ap ad ae;refine aA 54 ?_;refine aZ 52 ?_;intro ch bz;go_wp2_with fail;refine bz _ _ (aJ _ _ Z ((X.refl _).alloc _)) ?_;clear bz ch cp;generalize zR:World.drew (World.alloc w2 _)=wG;have a0:ah wG w2.heap.size (yI [(116,ab),(109,ac),(114,af),(108,ag),(99,ai),(101,al),(112,am),(97,an),(110,ao),(104,ap),(118,ad),(107,ae)]) PT:=by rw[<-zR];exact ah.aI F F
 have eG:X w2 wG:=by rw[<-zR];exact((X.refl w2).alloc _).drew
 replace Z:C wG:=(iB _).2 eG;clear zR;refine aH ?_;refine aA 53 ?_;refine dH ?_;obtain⟨cx,za⟩:=aC ([(116,ab),(109,ac),(114,af),(108,ag),(99,ai),(101,al),(112,am),(97,an),(110,ao),(104,ap),(118,ad),(107,ae)]:List (UInt8×Bool));have aE:=X7 ab ac af ag ai al am an ao ap ad ae;rw[za]at a0 aE;obtain⟨aq,az⟩:=aC ([ab,ac,af,ag,ai,al,am,an,ao,ap,ad,ae]);rw[az]at aE;have b1:b.set=aq:=by rw[<-az];exact R
 have b3:aq.length=12:=by rw[<-az];rfl
 obtain⟨cs,b5⟩:=aC w2.heap.size;rw[b5]at a0⊢;obtain⟨ci,bl,ce,cb,bm⟩:=dM a0 (a1.ext eG) aE b1 b3;obtain⟨a7,a9⟩:=aC (nX b (lT (K:Int)));have b0:a7=((lT (K:Int)).zip aq).any (fun p=> !p.1&&p.2):=by rw[<-a9,<-cb.out];exact co
 obtain⟨bt,bu⟩:=aB a9 b0;clear za aE az b1 b3 b5 a0 eG a9 b0 aa a1 a5 R Z aJ iB;go_wp2_with fail;go_loopw [64] (fun i wr=>∃k:Nat,k<=12/\i= .int .i64 (k:Int)/\(∀j,j<k->¬(dK (K:Int) j=false/\aq.getD j false=true))/\X wG wr) (fun i _=>12 - (intOf i).toNat)
 case atStart=>exact⟨0,J,F,fun j ax=>by omega,X.refl _⟩
 case round=>
  obtain⟨k,hk,rfl,om,aw⟩:=hrel;obtain⟨a3,ca⟩:=aB om aw;clear om;by_cases j3:k<12
  ·have cj:decide ((k:Int)<(12:Int))=true:=aQ J;have ck:decide (k<12)=true:=aQ j3;have b':=ci.ext aw;have bd:=ce.out k j3;obtain⟨bh,bc⟩:=aC (aq.getD k false);rw[bc]at bd;have b2:dP wr ((⟨cs,0,none⟩:Addr).add (k*2)) [Value.string ⟨#[jZ k]⟩,.bool bh]:=by
    intro j u ar;have ax:j<2:=(List.getElem?_eq_some_iff.1 ar).1;rw[dn,dn];refine b'.cell' ?_;rw[show 0+k*2+j=2*k+j by omega,X4 bd j ax];exact ar
   obtain⟨a4,bp,Fj⟩:=aW b2 bc (fun w=>b4 k w j3);obtain⟨ct,b7⟩:=aC ((⟨#[jZ k]⟩:ByteArray):ByteArray);rw[b7]at a4 Fj;obtain⟨cr,ba⟩:=aC (dK (K:Int) k);rw[ba]at Fj;have bo:=O ba;have bx:X wG (wr.alloc (.cells #[.string ct,.bool bh] PT)):=aw.ext ((X.refl wr).alloc _);have a2:=O bx;clear b2 bd bc b' b7 ba aw bx;cases bh with
   |false=>
    go_wp2_with (first|(refine bF F (fP (i:=k) F F F underlying328 Ql j3 _) ?_)|(refine bF F (bQ F F a4 Qk F) ?_));go_roundw
    case rel=>
     (repeat apply Exists.intro)
     refine⟨?rel2,?fr⟩
     case fr=>rfl
     case rel2=>exact⟨k+1,J,by go_num,fun j ax=>by
      by_cases a_:j=k
      ·subst a_;rw[bp.out];simp
      ·exact a3 j J,a2⟩
    case measure=>simp[intOf];omega
   |true=>
    go_wp2_with (first|(refine bF F (fP (i:=k) F F F underlying328 Ql j3 _) ?_)|(refine bF F (bQ F F a4 Qk F) ?_));refine(Fj _).mono ?_;rintro e cv ⟨rfl,b9⟩;have bk:Hid (X wG cv):=O (b9▸a2.out);clear b9 a2;cases cr with
    |true=>
     go_wp2_with fail;go_roundw
     case rel=>
      (repeat apply Exists.intro)
      refine⟨?rel2,?fr⟩
      case fr=>rfl
      case rel2=>exact⟨k+1,J,by go_num,fun j ax=>by
       by_cases a_:j=k
       ·subst a_;rw[bo.out];simp
       ·exact a3 j J,bk⟩
     case measure=>simp[intOf];omega
    |false=>
     have hx:a7=true:=by
      rw[bu.out];exact(Qm bm (DR _)).2 ⟨k,j3,bo,bp⟩
     have a6:=O (bt.trans hx);clear hx;go_wp2_with fail;go_ret;exact⟨by rw[<-br.out,a6.out];rfl,bl.ext bk⟩
  ·have cj:decide ((k:Int)<(12:Int))=false:=aP J;have ck:decide (k<12)=false:=aP j3;have hx:a7=false:=by
    rw[bu.out];cases cq:((lT (K:Int)).zip aq).any (fun p=> !p.1&&p.2)with
    |false=>rfl
    |true=>
     obtain⟨j,ax,cl,cm⟩:=(Qm bm (DR _)).1 cq;exact absurd ⟨cl,cm⟩ (a3 j J)
   have a6:=O (bt.trans hx);clear hx aw;go_wp2_with fail;go_ret;exact⟨by rw[<-br.out,a6.out];rfl,bl.ext ca⟩
end Go.Proofs.YtjlhhnkhcbpnjaaGreatDoor
