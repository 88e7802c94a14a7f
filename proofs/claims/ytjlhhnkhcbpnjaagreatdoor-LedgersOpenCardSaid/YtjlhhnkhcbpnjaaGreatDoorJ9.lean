/- Laws that the row leans on; no condition. -/
import Derived.Test.YtjlhhnkhcbpnjaaGreatDoorJ8
import Derived.Laws.Runes
import Derived.Laws.RangeAny
import Derived.Laws.RangeString
import Derived.Lib.OthersKept
import Derived.Lib.TrimU
import Derived.Deep.LoopGhost
import Derived.WalkMore
import Derived.Laws.IdiomStrings
import Derived.Lib.FrozenHead
namespace Go.Proofs.YtjlhhnkhcbpnjaaGreatDoor
open Go Go.RowKit List Tryz
set_option linter.unusedVariables false
set_option linter.unusedSimpArgs false
set_option maxHeartbeats 40000000
set_option maxRecDepth 100000
def bZ.r(x:bZ):ay:=⟨x.text,x.member,none,x.roles.length,x.roles.length,x.roles,x.label,x.commit,x.epoch,x.purpose,x.reason,x.need,x.version,x.count,none,x.bH.length,x.bH.length,x.bH⟩
noncomputable def uh(act:Int)(x:bZ):Int:=jS act x.r
theorem Gv{act:Int}{b:ay}(u:b.roles.length=b.rn)(j:b.bH.length=b.hn):jS act b=uh act b.p:=by
 unfold uh jS nX ay.set pJ bZ.r ay.p;simp only[u,j]
noncomputable def kE(f:aj->Int)(act:Int)(l:aj):bZ×Int:=
 if iI act=false then(kD,3)else if 32768<l.length then(kD,5)else
 match jC f (gy act) kD l with
 |none=>(kD,1)
 |some (x,rest)=>if 0<rest.length then(kD,2)else if uh act x=0 then(x,0)else(kD,uh act x)
theorem XC(act:Int)(l:aj)(a:aN)(n c:Nat)(w:World)(ai:l.length=n)(ch:n<=c)(hn:n<=140737488355328)(bB:aK w a (l.map Y)):
 Calls prog 156 #[.int .i64 act,.slice a n c] w fun e w'=>∃r:ay,e= .returned (.tuple #[.agg r.v.toArray,.int .i64 (kE jV act l).2])/\r.Fit/\bJ w' w.heap.size r.ra (r.roles.map bM)/\bJ w' w.heap.size r.ha (dB r.bH)/\r.p=(kE jV act l).1/\X w w':=by
 obtain⟨co,cy⟩:=aB ai bB;obtain⟨cC,aa⟩:=aC (kE jV act l);rw[aa];unfold kE at aa;have R:=Pg act;unfold DT at R;obtain⟨be,a7,a6,ae,bd,an,ac,ag,a5,bu,bq,bv,aq⟩:=JV (DR act);rw[aq]at R;have R:=O R;clear bB;go_enter func156,ntmps156;go_upto_region 1 with(fail);generalize bt:World.alloc w _=af;have cc:ah af w.heap.size dI.v 101:=by rw[<-bt];exact ah.aI F F
 have b7:X w af:=by rw[<-bt];exact(X.refl w).alloc _
 obtain⟨ax,av⟩:=aB cc b7;clear bt cc b7;go_wp2_with fail;refine(Ot act af).mono ?_;rintro e w2 ⟨rfl,rfl⟩;cases ba:iI act with
 |false=>
  rw[ba,if_pos F]at aa;subst aa;clear ai aq R;go_wp2_with (refine bg F _ _ _ F F F ax eP fM (xs:=dI.v) fM (lD dI) ?_);intro aM ae a_;go_wp2_with fail;exact iy F F ae eP fM F ⟨dI,F,rE,.inl F,.inl F,F,a_.ext av bG⟩
 |true=>
 rw[ba,if_neg aF]at aa;by_cases ap:32768<n
 ·rw[ai,if_pos ap]at aa;subst aa;have ct:decide (32768<n)=true:=aQ ap;have ci:decide ((32768:Int)<(n:Int))=true:=aQ J;clear ai aq R ap;go_wp2_with (refine bg F _ _ _ F F F ax eP fM (xs:=dI.v) fM (lD dI) ?_);intro aM ae a_;go_wp2_with fail;exact iy F F ae eP fM F ⟨dI,F,rE,.inl F,.inl F,F,a_.ext av bG⟩
 rw[ai,if_neg ap]at aa;have ab:=O aa;have ct:decide (32768<n)=false:=aP ap;have ci:decide ((32768:Int)<(n:Int))=false:=aP J;have bz:(fun i=>[be,a7,a6,ae,bd,an,ac,ag,a5,bu,bq,bv].getD i false)=fun i=>dK act i:=by unfold dK;rw[aq]
 have b2:Gj.filter (fun i=>[be,a7,a6,ae,bd,an,ac,ag,a5,bu,bq,bv].getD i false)=gy act:=by rw[bz];exact JR ba
 have b8:=O b2;clear ai aq aa ap b2 bz;go_upto_region 6 with(fail);generalize bi:World.alloc af _=az;obtain⟨g,ad⟩:=aC af.heap.size;have bX:ah az g [.slice a n c,.bool false] RT:=by rw[<-bi,<-ad];exact ah.aI F F
 have aD:X af az:=by rw[<-bi];exact(X.refl af).alloc _
 rw[ad];have cE:w.heap.size<g:=by rw[<-ad];exact ax.lt
 have cs:g<=az.heap.size:=by rw[<-ad];exact aD.size
 have b5:gI RT g az g l false:=by
  refine⟨a,n,c,bX,co,ch,hn,cs,?_⟩;rcases(cy.ext av)with a2|⟨b,off,ha,a2⟩
  ·exact .inl a2
  ·by_cases cf:l.map Y=[]
   ·exact .inl cf
   ·obtain⟨u,cp⟩:∃u,(l.map Y)[0]? =some u:=⟨_,List.getElem?_eq_getElem (length_pos_iff.2 cf)⟩;have hb:b<g:=by rw[<-ad];exact block_lt_of_cell (a2 0 u cp)
    refine .inr ⟨b,off,ha,hb,J,fun j v cr=>wu (a2 j v cr) (aD.block b (by rw[ad];exact hb))⟩
 obtain⟨bS,cb,ce⟩:=aW b5 (ax.ext aD) (av.ext aD);clear bi bX b5 aD ax av ad;go_wp2_with fail;refine(R az).mono ?_;rintro e aM ⟨rfl,a4⟩;obtain⟨bc,b4⟩:=aB (cb.ext a4) (ce.ext a4);have bN:=bS.ext a4;clear a4 cb ce bS R;go_wp2_with fail;refine(XB l false be a7 a6 ae bd an ac ag a5 bu bq bv g g aM bN).mono ?_;rintro e bj ⟨r,cD,b3,rfl,a1,cg,bE,aw,bl,bp⟩;rw[b8.out]at bl;obtain⟨b1,ca,bA,a0,aL⟩:=dM (bc.grown bp (by simp;omega)) (b4.grown bp (by simp;omega)) aw bl a1;have bx:w.heap.size+1<=aM.heap.size:=bc.lt;obtain⟨b0,bO,aE⟩:=aW (cg.lower bx) (bE.lower bx) (show r.v.length=58 by unfold ay.v ay.t;simp[a1.hm,a1.hcm]);have cA:g<bj.heap.size:=aw.lt;clear bN aw bl a1 cg bE bp bx bc b4 b8;go_wp2_with (refine bg F _ _ _ F F F (ah.aI (vs:=dI.v) F F) eP fM (xs:=r.v) aE (lD r) ?_);intro bR an cd;have am:X bj bR:=cd.ext ((X.refl bj).alloc _) bG;obtain⟨aR,a3,br,a8⟩:=bU (b1.ext am) (ca.ext am) (b0.ext am) (bO.ext am);have aw:=bA.ext am;have bo:=O an;clear an cd am b1 ca bA b0 bO;obtain⟨cn,n2,cj,a9,ck, -,cB, -, -⟩:=aw;have cv:=a9.cell' (i:=0) (v:= .slice cn n2 cj) F;have k1:=a9.cell' (i:=1) (v:= .bool b3) F;clear a9;cases b3 with
 |true=>
  have R:jC jV (gy act) kD l=none:=(a0.2 F).resolve_left aF;have I:=ab.out;rw[R]at I;simp only at I;subst I;clear ab a0 R;go_wp2_with (refine bg F _ _ _ F F F aR eP fM (xs:=dI.v) fM (lD dI) ?_);intro b6 ac bh;go_wp2_with fail;exact iy F F ac eP fM F ⟨dI,F,rE,.inl F,.inl F,F,bh.ext a3 bG⟩
 |false=>
 have b':=(a0.1 F).2;have I:=ab.out;rw[b']at I;simp only at I;rw[ck]at I;clear ab a0 b';by_cases al:0<n2
 ·rw[if_pos al]at I;subst I;have cz:decide (0<n2)=true:=aQ al;have cx:decide ((0:Int)<(n2:Int))=true:=aQ J;clear al;go_wp2_with (refine bg F _ _ _ F F F aR eP fM (xs:=dI.v) fM (lD dI) ?_);intro b6 ac bh;go_wp2_with fail;exact iy F F ac eP fM F ⟨dI,F,rE,.inl F,.inl F,F,bh.ext a3 bG⟩
 rw[if_neg al]at I;have cz:decide (0<n2)=false:=aP al;have cx:decide ((0:Int)<(n2:Int))=false:=aP J;have bw:=Xr act r;rw[Gv aL.rl aL.hl]at bw;have bm:=O bw;generalize uh act r.p=E at I bm;have ab:=O I;clear bw I al;go_wp2_with (refine bV F 101 (.tmp 7) F F bo eP aE ?_);refine(bm bR (aL.ok br a8)).mono ?_;rintro e b6 ⟨rfl,ao⟩;obtain⟨b9,bL,cq,cw,cl⟩:=dM (aR.ext ao) (a3.ext ao) (bo.ext ao) (br.ext ao) (a8.ext ao);clear ao aR a3 bo br a8 bm cv k1;by_cases bk:E=0
 ·subst bk;have I:=ab.out;rw[if_pos F]at I;subst I;clear ab;go_wp2_with (first|(refine bV F 101 (.tmp 7) F F cq eP aE ?_)|(refine bg F _ _ _ F F F b9 eP fM (xs:=r.v) aE (lD r) ?_));intro cm ag ar;go_wp2_with fail;exact iy F F ag eP aE F ⟨r,F,aL,(cw.upd ar (Nat.lt_succ_self _)).lower (Nat.le_succ _),(cl.upd ar (Nat.lt_succ_self _)).lower (Nat.le_succ _),F,ar.ext bL bG⟩
 ·have I:=ab.out;rw[if_neg bk]at I;subst I;have cF:(E != 0)=true:=by simpa using bk
  clear ab;go_wp2_with (refine bg F _ _ _ F F F b9 eP fM (xs:=dI.v) fM (lD dI) ?_);intro cm ag ar;go_wp2_with fail;exact iy F F ag eP fM F ⟨dI,F,rE,.inl F,.inl F,F,ar.ext bL bG⟩
def tH:ByteArray:=⟨#[97,98,99,100,101,102,103,104,105,106,107,108,109,110,111,112,113,114,115,116,117,118,119,120,121,122,48,49,50,51,52,53,54,55,56,57,45,46,95]⟩
theorem PV:∀b∈tH.data.toList,b.toNat<128:=aX
theorem XD:∀c:Fin 256,tH.data.toList.any (· ==UInt8.ofNat c.val)=jl (UInt8.ofNat c.val):=by decide+kernel
def uY(r:Nat):Bool:=decide (r<128)&&jl (UInt8.ofNat r)
theorem PW(s:ByteArray)(c:Int)(w:World):
 Calls prog 325 #[.string s,.int .u8 c] w fun e w'=>e= .returned (.int .i64 (firstIdx s c.toNat.toUInt8))/\w=w':=by
 go_enter func325,ntmps325;go_wp2;rw[run_callFunc_extern func328 au au au (e:=Extern.BytealgIndexByte.indexByte) au,run_indexByte_string];simp only[Result.andThen];rw[Oper.upon_value];go_wp2;go_ret;exact⟨F,F⟩
theorem XE(r:Nat)(w:World)(j:r<128):
 Calls prog 291 #[.string tH,.int .i32 (r:Int)] w fun e w'=>e= .returned (.int .i64 (firstIdx tH (UInt8.ofNat r)))/\w=w':=by
 have h:=O (fun w'=>PW tH (r:Int) w');have g1:decide ((0:Int)<=(r:Int))=true:=aQ J;have u:decide ((r:Int)<128)=true:=aQ J;have g3:decide (r<128)=true:=aQ j;have g4:IntKind.u8.wrap (r:Int)=r:=IntWalk.u8_in _ J;go_enter func291,ntmps291;go_wp2_with (first|(go_at_call 325;refine(h _).mono ?_;rintro e w' ⟨rfl,rfl⟩));go_ret;exact⟨F,F⟩
theorem XF(w:World):
 Calls prog 291 #[.string tH,.int .i32 65533] w fun e w'=>e= .returned (.int .i64 (-1))/\X w w':=by
 obtain⟨s,hs⟩:=aC tH;have ae:s.size=39:=by rw[<-hs];rfl
 have ag:∀b∈s.data.toList,b.toNat<128:=by rw[<-hs];exact PV
 rw[hs];obtain⟨an,am⟩:=aB ae ag;clear hs ae ag;go_enter func291,ntmps291;go_wp2
 go_loopg [] 39 (fun ap wx=>∃j:Nat,wx.heap[w.heap.size]? =some (.stringIter s j)/\Below w.heap.size w wx/\39<=j+ap)
 case atStart=>exact⟨0,World.iter_heap w s 0,(Below.refl _ w).alloc bG _,J⟩
 case round=>
  obtain⟨j,E,aa,av⟩:=hrel;by_cases u:j<s.size
  ·obtain⟨I,rfl⟩:∃I,gk=I+1:=⟨gk - 1,by have:=an.out;omega⟩;have R:∀ty,(Instr.next (.pointer (some ⟨w.heap.size,0,none⟩)) true ty).run prog wr=_:=fun ty=>Lib.run_next_any_at wr w.heap.size s j ty E u;have hb:(s[j]'u).toNat<128:=am.out _ (Array.getElem_mem_toList (xs:=s.data) u);have af:=decode_ascii s j u hb;rw[af]at R;simp only at R;obtain⟨al,ai⟩:=aC ((s[j]'u).toNat);rw[ai]at R hb;have ac:=Lib.iterAt_heap wr w.heap.size s j (j+1) E;have ad:=Lib.below_iterAt aa (k:=w.heap.size) bG s (j+1);obtain⟨aq,ab⟩:=aB ac ad;have g1:((al:Int)==65533)=false:=by simp;omega
   have ar:(al==65533)=false:=by simp;omega
   have ao:39<=(j+1)+I:=J;clear ac ad E aa af ai;go_wp2
   go_roundg I
   case measure=>omega
   case rel=>exact⟨j+1,aq,ab,ao⟩
  ·have R:∀ty,(Instr.next (.pointer (some ⟨w.heap.size,0,none⟩)) true ty).run prog wr=_:=fun ty=>Lib.run_next_end_at wr w.heap.size s j ty E u;have ab:=O aa;clear E aa;go_wp2;go_ret;exact⟨F,ab⟩
theorem XG(r:Nat)(w:World)(j:55296<=r)(R:r<=57343):
 Calls prog 291 #[.string tH,.int .i32 (r:Int)] w fun e w'=>e= .returned (.int .i64 (-1))/\w=w':=by
 have g1:decide ((0:Int)<=(r:Int))=true:=aQ J;have u:decide ((r:Int)<128)=false:=aP J;have g3:decide (r<128)=false:=aP J;have g4:((r:Int)==65533)=false:=by simp;omega
 have g5:(r==65533)=false:=by simp;omega
 have g6:decide ((r:Int)<55296)=false:=aP J;have aa:decide (r<55296)=false:=aP J;have I:decide ((57343:Int)<(r:Int))=false:=aP J;have E:decide (57343<r)=false:=aP J;go_enter func291,ntmps291;go_wp2;go_ret;exact⟨F,F⟩
theorem PX(s:ByteArray)(i:Nat)(h:i<s.size)(w:World):(Instr.index 9 (.string s) (.int .i64 (i:Int))).run prog w= .ok (.int .u8 ((s[i]'h).toNat:Int)) w:=by
 have j:s[i]? =some (s[i]'h):=getElem?_pos s i h;simp[Instr.index,asIntOf,run_underlying underlying9,j]
theorem Kq{o:Oper}{a:Act}{x y:Operand}{s:ByteArray}{i:Nat}{v:Value}(u:o.op= .index 9 x y)(j:a.eval x= .string s)(E:a.eval y= .int .i64 (i:Int))(h:∀w,(Instr.index 9 (.string s) (.int .i64 (i:Int))).run prog w= .ok v w)(w:World):
 (execOp a.eval o).run prog w= .ok (.value v) w:=by
 unfold execOp;simp only[u,j,E,Sem.run_bind,h w,Result.andThen_ok,Sem.run_pure]
theorem XH(s:ByteArray)(i:Nat)(j:i<=s.size)(w:World):(Instr.sliceAt 9 (.string s) (some (.int .i64 (i:Int))) none none).run prog w= .ok (.string (s.extract i s.size)) w:=by
 have u:(0:Int)<=i/\(i:Int)<=s.size:=J;simp[Instr.sliceAt,Instr.slice,Instr.sliceBounds,Instr.sliceBound,asIntOf,run_underlying underlying9,j]
theorem XI{o:Oper}{a:Act}{x y:Operand}{s:ByteArray}{i:Nat}(E:o.op= .slice 9 x (some y) none none)(j:a.eval x= .string s)(I:a.eval y= .int .i64 (i:Int))(u:i<=s.size)(w:World):
 (execOp a.eval o).run prog w= .ok (.value (.string (s.extract i s.size))) w:=by
 unfold execOp;simp only[E,j,I,Option.map_some,Option.map_none,Sem.run_bind,XH s i u w,Result.andThen_ok,Sem.run_pure]
theorem XJ(r:Nat)(w:World)(R:r<=1114111)(aa:r<55296∨57343<r):
 Calls prog 326 #[.int .i32 (r:Int)] w fun e w'=>e= .returned (.bool true)/\w=w':=by
 have g1:decide ((0:Int)<=(r:Int))=true:=aQ J;by_cases h:r<55296
 ·have g6:decide ((r:Int)<55296)=true:=aQ J;have j:decide (r<55296)=true:=aQ J;go_enter func326,ntmps326;go_wp2;go_ret;exact⟨F,F⟩
 ·have g6:decide ((r:Int)<55296)=false:=aP J;have j:decide (r<55296)=false:=aP J;have I:decide ((57343:Int)<(r:Int))=true:=aQ J;have E:decide (57343<r)=true:=aQ J;have ab:decide ((r:Int)<=1114111)=true:=aQ J;have u:decide (r<=1114111)=true:=aQ J;go_enter func326,ntmps326;go_wp2;go_ret;exact⟨F,F⟩
theorem XK(r:Nat)(w:World)(a8:128<=r)(ax:r<=1114111)(ae:r<55296∨57343<r)(av:r≠65533):
 Calls prog 291 #[.string tH,.int .i32 (r:Int)] w fun e w'=>e= .returned (.int .i64 (-1))/\X w w':=by
 have ad:Utf8.valid (r:Int)=true:=by
  rw[validRune_eq];unfold validRune;exact aQ J
 obtain⟨aE,aL,ac⟩:=encode_facts (r:Int) ad J;obtain⟨rs,az⟩:=aC (Utf8.encode (r:Int));rw[az]at aE aL ac;obtain⟨m,ar⟩:=jE (rs.size - 1);have ab:m<rs.size:=J;have am:=ac J;have ap:128<=(rs[m]'ab).toNat:=by subst ar;exact am
 have a5:((rs.size:Nat):Int) - 1=(m:Int):=J;have I:=fun w=>PX rs m ab w;obtain⟨s,hs⟩:=aC tH;have ai:s.size=39:=by rw[<-hs];rfl
 have aa:∀b∈s.data.toList,b.toNat<128:=by rw[<-hs];exact PV
 have E:m<s.size:=J;have ag:=fun w=>PX s m E w;have hb:(s[m]'E).toNat<128:=aa _ (Array.getElem_mem_toList (xs:=s.data) E);obtain⟨c,hc⟩:=aC ((rs[m]'ab));obtain⟨b,al⟩:=aC ((s[m]'E).toNat);rw[hc]at I ap;rw[al]at ag hb;have a7:=c.toNat_lt;obtain⟨ao,aM⟩:=aB (fun a e w'=>PW (s.extract a e) (c.toNat:Int) w') (fun a e=>firstIdx_ascii s a e c aa ap);have aq:((c.toNat:Int)).toNat.toUInt8=c:=aF;rw[aq]at ao;rw[hs];obtain⟨a4,a1⟩:=aB ai (fun w'=>XJ r w' ax ae);clear hs aa am ac ar hc al ai ae ad aq;have g1:decide ((0:Int)<=(r:Int))=true:=aQ J;have a3:decide ((r:Int)<128)=false:=aP J;have g3:decide (r<128)=false:=aP J;have g4:((r:Int)==65533)=false:=by simp;omega
 have g5:(r==65533)=false:=by simp[av]
 go_enter func291,ntmps291;go_wp2_with (first|(go_at_call 326;refine(a1 _).mono ?_;rintro e w' ⟨rfl,rfl⟩))
 go_step3
 go_wp2_with fail;go_loopw [9] (fun x wr=>x= .int .i64 (m:Int)/\wr=w) (fun _ _=>0)
 case atStart=>exact⟨F,F⟩
 case round=>
  obtain⟨rfl,rfl⟩:=hrel;have k1:decide ((m:Int)<(s.size:Int))=true:=aQ J;have k2:decide (m<s.size)=true:=aQ E;have k3:((b:Int) != (c.toNat:Int))=true:=by simp;omega
  have k4:(b != c.toNat)=true:=by simp;omega
  go_wp2_with fail
  go_step3
  go_wp2_with fail;obtain⟨C,u,aJ⟩:=jJ wr;refine wp_region_held_drew (S:=C) au ((u _).2 (X.refl wr).drew) (fun Z=> ?_);refine aA 0 ?_;refine aA 1 ?_;refine bD 2 F (bf F (fun j _=>Kq F F F ag j)) ?_;refine aA 3 ?_;refine aA 4 ?_;refine bD 5 F (bf F (fun j _=>Kq F F F I j)) ?_;refine aA 6 ?_;have aD:X wr wr.drew:=(X.refl wr).drew;generalize wr.drew=R at*;refine dH ?_;clear Z aJ u C;go_wp2_with fail;obtain⟨C,u,aJ⟩:=jJ R;refine wp_region_held_drew (S:=C) au ((u _).2 (X.refl R).drew) (fun Z=> ?_);have aR:IntKind.i64.wrap ((m:Int)+1)=((m+1:Nat):Int):=by rw[IntWalk.i64_in _ J];omega
  have aw:m+1<=s.size:=J;generalize m+1=af at*;refine aA 0 ?_;refine aA 1 ?_;refine aA 2 ?_;refine bD 3 F (bf F (fun j _=>XI (i:=af) F F F aw j)) ?_;refine aA 4 ?_;refine aA 5 ?_;refine bD 6 F (bf F (fun j _=>Kq F F F I j)) ?_;clear aR;generalize R.drew=a9 at*;refine aZ 7 ?_;intro a0 an;go_wp2_with fail;refine(ao af s.size _).mono ?_;rintro e a6 ⟨rfl,rfl⟩;go_wp2_with fail;refine an _ _ Z ?_;clear an a0;refine aH ?_;rw[aM.out];refine aA 8 ?_;refine dH ?_;have a2:=O (aD.ext ((u _).1 Z));clear Z aJ u C;go_wp2_with fail;rw[Exit.noGoto_ret];go_wp2_with fail;rw[Exit.noGoto_ret];go_ret;exact⟨F,a2⟩
theorem PY{c:UInt8}(h:128<=c.toNat):jl c=false:=by
 unfold jl;simp;omega
theorem PZ{r:Nat}(h:r<128):uY r=jl (UInt8.ofNat r):=by
 unfold uY;rw[aQ h,Bool.true_and]
theorem Gw{r:Nat}(h:128<=r):uY r=false:=by
 unfold uY;rw[aP J,Bool.false_and]
theorem XL(c:UInt8)(h:c.toNat<128):uY c.toNat=jl c:=by
 rw[PZ h,UInt8.ofNat_toNat]
theorem XM(r:Nat)(w:World)(h:r<=1114111):
 Calls prog 291 #[.string tH,.int .i32 (r:Int)] w fun e w'=>∃z:Int,e= .returned (.int .i64 z)/\decide (0<=z)=uY r/\X w w':=by
 by_cases u:r<128
 ·refine(XE r w u).mono ?_;rintro e w' ⟨rfl,rfl⟩;refine⟨_,F,?_,X.refl _⟩;rw[firstIdx_nonneg,PZ u];have:=XD ⟨r,J⟩;exact this
 ·by_cases E:r=65533
  ·subst E;refine(XF w).mono ?_;rintro e w' ⟨rfl,j⟩;exact⟨_,F,by rw[Gw J];rfl,j⟩
  ·by_cases I:55296<=r/\r<=57343
   ·refine(XG r w I.1 I.2).mono ?_;rintro e w' ⟨rfl,rfl⟩;exact⟨_,F,by rw[Gw J];rfl,X.refl _⟩
   ·refine(XK r w J h J E).mono ?_;rintro e w' ⟨rfl,j⟩;exact⟨_,F,by rw[Gw J];rfl,j⟩
theorem XO(r:Nat)(w:World)(h:r<=1114111):
 Calls prog 235 #[.string tH,.int .i32 (r:Int)] w fun e w'=>e= .returned (.bool (uY r))/\X w w':=by
 have j:=O (fun w'=>XM r w' h);generalize uY r=aa at*;generalize tH=s at*;go_enter func235,ntmps235;go_wp2_with fail;refine(j w).mono ?_;rintro e R ⟨z,rfl,I,u⟩;have E:=O u;clear u j;go_wp2_with fail;go_ret;exact⟨by first|rfl|rw[I],E⟩
theorem XP(r:Nat)(w:World)(h:r<=1114111):
 Calls prog 234 #[.int .i32 (r:Int)] w fun e w'=>e= .returned (.bool (!uY r))/\X w w':=by
 have j:=O (fun w'=>XO r w' h);generalize uY r=R at*;go_enter func234,ntmps234;go_wp2_with fail;refine(j w).mono ?_;rintro e I ⟨rfl,u⟩;have E:=O u;clear u j;go_wp2_with fail;go_ret;exact⟨F,E⟩
def Eb:Value:= .func (.func 234) #[] #[]
theorem XQ(s:ByteArray)(w:World):
 Calls prog 324 #[.string s,Eb,.bool true] w fun e w'=>∃z:Int,e= .returned (.int .i64 z)/\decide (0<=z)= !(s.data.toList.all jl)/\X w w':=by
 obtain⟨N,al⟩:=aC s.size;have ax:s.data.toList.length=N:=by rw[<-al,Array.length_toList];rfl
 obtain⟨a7,a3⟩:=aB ax al;clear ax al;unfold Eb;go_enter func324,ntmps324;go_wp2
 go_loopg [] N (fun ba wx=>∃j:Nat,wx.heap[w.heap.size]? =some (.stringIter s j)/\Below w.heap.size w wx/\Hid ((s.data.toList.take j).all jl=true)/\N<=j+ba)
 case atStart=>exact⟨0,World.iter_heap w s 0,(Below.refl _ w).alloc bG _,O aF,J⟩
 case round=>
  obtain⟨j,ad,af,aq,bh⟩:=hrel;by_cases u:j<s.size
  ·have be:j<N:=by rw[<-a3.out];exact u
   obtain⟨ap,rfl⟩:∃ap,gk=ap+1:=⟨gk - 1,J⟩;have av:∀ty,(Instr.next (.pointer (some ⟨w.heap.size,0,none⟩)) true ty).run prog wr=_:=fun ty=>Lib.run_next_any_at wr w.heap.size s j ty ad u;have ag:=Lib.rune_le s j;have hc:s.data.toList[j]? =some (s[j]'u):=by rw[Array.getElem?_toList];exact Array.getElem?_eq_getElem u
   obtain⟨a2,E⟩:=aC ((Utf8.decode s j).1);obtain⟨K,I⟩:=aC ((Utf8.decode s j).2);have aM:uY a2=jl (s[j]'u)/\(jl (s[j]'u)=true->K=1):=by
    by_cases hb:(s[j]'u).toNat<128
    ·have a_:=decode_ascii s j u hb;rw[a_]at E I;simp only at E I;rw[<-E];exact⟨XL _ hb,fun _=>I.symm⟩
    ·have aL:=(decode_high s j u J).1;rw[E]at aL;refine⟨by rw[Gw aL,PY J],fun h=> ?_⟩;rw[PY J]at h;cases h
   rw[E]at av ag;rw[I]at av;obtain⟨b,hb⟩:=aC ((s[j]'u));rw[hb]at aM hc;obtain⟨aa,aw⟩:=aM;have ai:=Lib.iterAt_heap wr w.heap.size s j (j+K) ad;have am:=Lib.below_iterAt af (k:=w.heap.size) bG s (j+K);obtain⟨a0,ab,ac,aE⟩:=bU ai am (fun w'=>XP a2 w' ag) hc;generalize wr.iterAt w.heap.size s (j+K)=ar at*;have bd:w.heap.size<ar.heap.size:=(Array.getElem?_eq_some_iff.1 a0).1;cases ae:jl b with
   |true=>
    rw[ae]at aa;have bc:=aw ae;subst bc;rw[aa]at ac;have az:(s.data.toList.take (j+1)).all jl=true:=by
     rw[take_add_one,aE.out,all_append,aq.out];simp[ae]
    have a8:=O az;clear ad af ai am E I aa aw hc az hb ag;go_wp2_with fail;refine(ac ar).mono ?_;rintro e a1 ⟨rfl,R⟩;have aR:a1.heap[w.heap.size]? =some (.stringIter s (j+1)):=by rw[R.block _ bd];exact a0
    obtain⟨a5,an⟩:=aB aR (ab.trans (R.mono ab.size));clear R aR ac;go_wp2_with fail
    go_roundg ap
    case measure=>omega
    case rel=>exact⟨j+1,a5,an,a8,J⟩
   |false=>
    rw[ae]at aa;rw[aa]at ac;have a4:s.data.toList.all jl=false:=by
     rw[all_eq_false];exact⟨b,mem_of_getElem? aE,by rw[ae];simp⟩
    have a6:=O a4;clear ad af ai am E I aa aw hc a4 hb ag;go_wp2_with fail;refine(ac ar).mono ?_;rintro e a1 ⟨rfl,R⟩;have an:=O (ab.trans (R.mono ab.size));clear R ac;go_wp2_with fail;go_ret;exact⟨_,F,by rw[a6.out];exact aQ J,an⟩
  ·have av:∀ty,(Instr.next (.pointer (some ⟨w.heap.size,0,none⟩)) true ty).run prog wr=_:=fun ty=>Lib.run_next_end_at wr w.heap.size s j ty ad u;have aD:s.data.toList.take j=s.data.toList:=take_of_length_le (by rw[a7.out];have:=a3.out;omega);have ao:=aq.out;rw[aD]at ao;obtain⟨a9,ab⟩:=aB ao af;clear ad af aq ao aD;go_wp2_with fail;go_ret;exact⟨_,F,by rw[a9.out];rfl,ab⟩
theorem XR(s:ByteArray)(w:World):
 Calls prog 233 #[.string s,Eb] w fun e w'=>e= .returned (.bool (!(s.data.toList.all jl)))/\X w w':=by
 have I:=O (fun w'=>XQ s w');generalize s.data.toList.all jl=b at*;generalize Eb=aa at*;have R:Hid (∀w,Calls prog 290 #[.string s,aa] w fun e w'=>∃z:Int,e= .returned (.int .i64 z)/\decide (0<=z)=(!b)/\X w w'):=by
  refine O fun w=> ?_;go_enter func290,ntmps290;go_wp2_with fail;refine(I w).mono ?_;rintro e ac ⟨z,rfl,u,j⟩;obtain⟨E,ab⟩:=aB j u;clear j I u;go_wp2_with fail;go_ret;exact⟨z,F,ab,E⟩
 clear I;go_enter func233,ntmps233;go_wp2_with fail;refine(R w).mono ?_;rintro e ac ⟨z,rfl,u,j⟩;have E:=O j;clear j R;go_wp2_with fail;go_ret;exact⟨by first|rfl|rw[u],E⟩
theorem Ec(s:ByteArray)(w:World)(hn:s.size<=9223372036854775807):
 Calls prog 186 #[.string s] w fun e w'=>e= .returned (.bool (jK s.data.toList))/\X w w':=by
 have hc:=O (fun w'=>XR s w');obtain⟨n,aa⟩:=aC s.size;have u:s.data.toList.length=n:=by rw[<-aa,Array.length_toList];rfl
 obtain⟨am,j⟩:=aC (jK s.data.toList);rw[j];unfold jK at j;have I:s.data.toList.isEmpty=decide (n=0):=by
  rw[Bool.eq_iff_iff,isEmpty_iff,decide_eq_true_eq,<-u,length_eq_zero_iff]
 have E:s=ByteArray.empty↔n=0:=by
  constructor
  ·rintro rfl;rw[<-aa];rfl
  ·intro h;have:s.data.toList=[]:=length_eq_zero_iff.1 (by rw[u];exact h);cases s with
   |mk d=>cases d with
    |mk l=>simp at this;subst this;rfl
 rw[I,u]at j;generalize s.data.toList.all jl=b at*;by_cases R:n=0
 ·have hs:=E.2 R;subst hs;subst R;simp at j;subst j;clear hc E I u aa;go_enter func186,ntmps186;go_wp2;go_ret;exact⟨F,X.refl _⟩
 ·have af:¬s=ByteArray.empty:=fun h=>R (E.1 h);have ad:s.toList.isEmpty=false:=by
   have:=decide_eq_emptyBytes s;rw[aP af]at this;exact this.symm
  have ai:¬s.toList=[]:=by
   intro h;rw[h]at ad;cases ad
  rw[aP R]at j;by_cases ae:n<=32
  ·have g1:decide ((n:Int)<=32)=true:=aQ J;have ab:decide (n<=32)=true:=aQ ae;rw[ab]at j;simp at j;subst j;clear E I u;unfold Eb at hc;go_enter func186,ntmps186;go_wp2_with fail;refine(hc w).mono ?_;rintro e al ⟨rfl,ac⟩;have ag:=O ac;clear ac hc;go_wp2_with fail;go_ret;exact⟨by first|rfl|simp,ag⟩
  ·have g1:decide ((n:Int)<=32)=false:=aP J;have ab:decide (n<=32)=false:=aP ae;rw[ab]at j;simp at j;subst j;clear hc E I u;go_enter func186,ntmps186;go_wp2;go_ret;exact⟨F,X.refl _⟩
theorem Bz{P:Program}{ops:Array Oper}{rest:List Oper}{o:Oper}{a:Act}{w w':World}{Q:Exit->Act->World->Prop}{v:Value}(j:o.guard=none)(u:(execOp a.eval o).run P w= .ok (.value v) w')(h:wpList P ops Q rest (a.put o.dst v) w'):wpList P ops Q (o::rest) a w:=
 wpList_plain j fun K E=>by
  unfold Oper.wp;rw[u,Oper.upon_value];exact E _ _ h
theorem P5{o:Oper}{a:Act}{x:Operand}{s:ByteArray}(u:o.op= .convert 9 32 x)(j:a.eval x= .string s)(w:World):
 (execOp a.eval o).run prog w= .ok (.value (.slice (some ⟨w.heap.size,0,none⟩) s.size (grownCap w s.size 0 5)))
  (w.drew.alloc (.cells (bytesRow s (grownCap w s.size 0 5)) 5 ((bytesRow s (grownCap w s.size 0 5)).size,(bytesRow s (grownCap w s.size 0 5)).size+1))):=by
 unfold execOp;simp only[u,j,Sem.run_bind,run_bytes_of_string w _ _ _ s underlying9 underlying32 underlying5,Result.andThen_ok,Sem.run_pure]
theorem P6(s:ByteArray)(c:Nat)(w:World)(z:Nat×Nat):aK (w.drew.alloc (.cells (bytesRow s c) 5 z)) (some ⟨w.heap.size,0,none⟩) (s.data.toList.map Y):=by
 refine .inr ⟨w.heap.size,0,F,fun i u j=> ?_⟩;have E:i<s.data.size:=by
  have:=(List.getElem?_eq_some_iff.1 j).1;rw[length_map,Array.length_toList]at this;exact this
 have I:(w.drew.alloc (.cells (bytesRow s c) 5 z)).heap[w.heap.size]? =some (.cells (bytesRow s c) 5 z):=by
  show(w.heap.push _)[w.heap.size]? =_;simp
 rw[Nat.zero_add];have hb:(bytesRow s c)[i]? =some u:=by
  unfold bytesRow;rw[Array.getElem?_append_left (by simpa using E),Array.getElem?_map];rw[List.getElem?_map,Array.getElem?_toList]at j;exact j
 simp only[World.cell?,I];exact hb
def h_(w:World)(base:Nat)(v:Value)(n:Nat)(xs:aj):Prop:=
 xs.length=n/\((v= .slice none 0 0/\n=0)∨
  ∃g j cu u,v= .slice (some ⟨g,0,none⟩) n j/\base<=g/\w.heap[g]? =some (.cells cu 5 u)/\(u.2=0∨j<=u.1)/\n<=j/\j<=maxLen/\cu.size=j/\cu.toList.take n=xs.map Y)
theorem h_.of{w:World}{base:Nat}{v:Value}{n:Nat}{xs:aj}(h:w.ownsRow base 5 1 v n (xs.map Y)):h_ w base v n xs:=by
 obtain⟨u,h⟩:=h;rw[length_map,Nat.mul_one]at u;refine⟨u,?_⟩;rcases h with h|⟨g,I,cu,E,aa,ab,R,ac,ad,j⟩
 ·exact .inl h
 ·exact .inr ⟨g,I,cu,(0,0),E,aa,ab,.inl F,R,ac,J,by rw[Nat.mul_one]at j;exact j⟩
theorem h_.turn{w w':World}{B:Nat}{v:Value}{n:Nat}{xs:aj}(h:h_ w B v n xs)(k:∀i,B<=i->i<w.heap.size->w'.heap[i]? =w.heap[i]?):h_ w' B v n xs:=by
 refine⟨h.1,?_⟩;rcases h.2 with h|⟨g,I,cu,R,E,j,u,aa⟩
 ·exact .inl h
 ·exact .inr ⟨g,I,cu,R,E,j,(k g j (Array.getElem?_eq_some_iff.1 u).1).trans u,aa⟩
theorem h_.ext{w w':World}{B:Nat}{v:Value}{n:Nat}{xs:aj}(h:h_ w B v n xs)(e:X w w'):h_ w' B v n xs:=h.turn fun i _ j=>e.block i j
theorem h_.lower{w:World}{B B':Nat}{v:Value}{n:Nat}{xs:aj}(h:h_ w B v n xs)(hb:B'<=B):h_ w B' v n xs:=by
 refine⟨h.1,?_⟩;rcases h.2 with h|⟨g,u,cu,E,j,I,R⟩
 ·exact .inl h
 ·exact .inr ⟨g,u,cu,E,j,Nat.le_trans hb I,R⟩
theorem h_.pK{w:World}{B:Nat}{v:Value}{n:Nat}{xs:aj}(h:h_ w B v n xs):∀g,v.ownBlock=some g->B<=g:=by
 intro g j;rcases h.2 with⟨rfl,_⟩|⟨u,E,cu,I,rfl,hb,_⟩
 ·cases j
 ·simp[Value.ownBlock]at j;omega
theorem h_.slice{w:World}{B:Nat}{v:Value}{n:Nat}{xs:aj}(h:h_ w B v n xs):
 ∃a c,v= .slice a n c/\n<=c/\c<=maxLen/\(a=none->c=0)/\aK w a (xs.map Y):=by
 obtain⟨ab,h⟩:=h;rcases h with⟨rfl,rfl⟩|⟨g,E,cu,ae,rfl,hb,R,ag,ad,aa,af,I⟩
 ·refine⟨none,0,F,Nat.le_refl _,by unfold maxLen;omega,fun _=>rfl,.inl ?_⟩;rw[length_eq_zero_iff.1 ab];rfl
 ·refine⟨_,E,F,ad,aa,(fun h=>by cases h),.inr ⟨g,0,F,fun i u j=> ?_⟩⟩;rw[<-I]at j;have ac:i<n:=by
   have:=(List.getElem?_eq_some_iff.1 j).1;simp only[length_take]at this;omega
  rw[List.getElem?_take_of_lt ac]at j;rw[Nat.zero_add,cell_of_row w g i cu _ ae R];simpa using j
theorem Kr(P:Program)(g o:Nat)(t:TypeId)(fz:Nat×Nat):∀(vs:aO) (i:Nat) (cu:Array Value) (w:World),w.heap[g]? =some (.cells cu t fz)->(fz.2=0∨o+i+vs.length<=fz.1)->o+i+vs.length<=cu.size->(∀v∈vs,v.oneCell'=true)->
 (storeCells ⟨g,o,none⟩ vs i).run P w= .ok () (w.setRow g (cu.toList.take (o+i)++vs++cu.toList.drop (o+i+vs.length)).toArray)
 |[],i,cu,w,hg,_,_,_=>by
  simp only[storeCells,append_nil,length_nil,Nat.add_zero,take_append_drop,Array.toArray_toList];rw[setRow_self w g cu t fz hg];rfl
 |v::rest,i,cu,w,hg,vN,hl,h1=>by
  have hi:o+i<cu.size:=by simp at hl;omega
  have I:(⟨g,o,none⟩:Addr).add i=⟨g,o+i,none⟩:=by unfold Addr.add;split<;>simp_all
  have E:w.cell? ⟨g,o+i,none⟩=some cu[o+i]:=by simp[World.cell?,hg,hi]
  have R:w.frozen? ⟨g,o+i,none⟩=false:=by
   obtain⟨ac,ab⟩:=fz;simp only[World.frozen?,hg,Bool.and_eq_false_iff,decide_eq_false_iff_not];simp only[length_cons]at vN;omega
  have j:(store ((⟨g,o,none⟩:Addr).add i) v).run P w= .ok () (w.setRow g (cu.setIfInBounds (o+i) v)):=by
   rw[I,run_store P w _ v _ (h1 v aF),E];simp[R,setCell_eq_setRow w g (o+i) cu t fz v hg]
  have aa:=Kr P g o t fz rest (i+1) (cu.setIfInBounds (o+i) v) (w.setRow g (cu.setIfInBounds (o+i) v)) (setRow_heap w g cu _ t _ hg) (by simp only[length_cons]at vN;omega) (by simp at hl⊢;omega) (fun x u=>h1 x (by simp[u]));simp only[storeCells,Sem.run_bind,j,Result.andThen_ok,aa,setRow_setRow]
  congr 3
  have e:=list_seg_step cu.toList (o+i) v rest (by simp at hl⊢;omega);simpa[Array.toList_setIfInBounds,Nat.add_assoc]using e
theorem P7{w:World}{base g j n:Nat}{cu:Array Value}{u:Nat×Nat}{xs ys:aj}(E:xs.length=n)(hb:base<=g)(I:w.heap[g]? =some (.cells cu 5 u))(vN:u.2=0∨j<=u.1)(aa:j<=maxLen)(ab:cu.size=j)(ht:cu.toList.take n=xs.map Y)(R:n+ys.length<=j):
 h_ (w.setRow g (cu.toList.take n++ys.map Y++cu.toList.drop (n+ys.length)).toArray) base (.slice (some ⟨g,0,none⟩) (n+ys.length) j) (n+ys.length) (xs++ys):=by
 refine⟨by rw[length_append,E],.inr ⟨g,j,_,u,F,hb,setRow_heap w g cu _ _ _ I,vN,R,aa,?_,?_⟩⟩
 ·simp only[size_toArray,length_append,length_take,length_drop,Array.length_toList,length_map];omega
 ·rw[ht,<-map_append];have:(List.map Y (xs++ys)).length=n+ys.length:=by rw[length_map,length_append,E]
  exact take_left' this
theorem P8(w:World)(g:Nat)(cs:Array Value):w.grownBy (w.setRow g cs) (some g):=⟨F,F,F,aF,fun k _ hk=>setRow_other w g k _ (fun e=>hk (by rw[e]))⟩
theorem XT(w:World)(base:Nat)(ty:TypeId){v:Value}{n m c:Nat}{xs ys:aj}{y:Addr}(E:h_ w base v n xs)(I:ys.length=m)(hc:∀j u,(ys.map Y)[j]? =some u->w.cell? (y.add j)=some u)(hb:n+m<=140737488355328)(af:base<=w.heap.size):
 ∃v' w',(Builtin.append_ #[32,32] ty #[v,.slice (some y) m c]).run prog w= .ok v' w'/\h_ w' base v' (n+m) (xs++ys)/\w.grownBy w' v.ownBlock:=by
 obtain⟨ag,hi,al,aa,ae⟩:=info_parts xu;rcases E.2 with⟨rfl,rfl⟩|⟨g,R,cu,fz,rfl,an,hg,vN,aL,ax,ar,az⟩
 ·have am:xs=[]:=length_eq_zero_iff.1 E.1;subst am;obtain⟨v',w',h1,ao,ap,_⟩:=run_append_own (P:=prog) w base 32 ty 5 ag _ 1 1 underlying32 hi al aa ae F aX (.slice none 0 0) 0 [] (World.ownsRow_nil w base _ 1) y m c (ys.map Y) (by rw[length_map,I,Nat.mul_one]) hc (b_ _) (by unfold maxLen;omega) J af;exact⟨v',w',h1,h_.of (by simpa using ao),ap⟩
 ·by_cases ad:n+m<=R
  ·subst I;have hf:=run_firstCells_some (P:=prog) w 1 ys.length y ys.length c (ys.map Y) (by rw[length_map,Nat.mul_one]) hc;have ac:=Kr prog g n 5 fz (ys.map Y) 0 cu w hg (by rw[length_map];omega) (by rw[length_map];omega) (b_ _);simp only[Nat.add_zero,length_map]at ac;refine⟨_,_,?_,P7 E.1 an hg vN ax ar az ad,P8 w g _⟩;simp[Builtin.append_,run_underlying underlying32,sizeOf,typeInfo,hi,aa,Builtin.lenOf,ad,hf,Addr.add_lit,ac]
  ·obtain⟨a',c',ab,_,_,_,ai⟩:=E.slice;injection ab with ab _ _;have aw:∀j u,(xs.map Y)[j]? =some u->w.cell? ((⟨g,0,none⟩:Addr).add j)=some u:=by
    rw[<-ab]at ai;exact wX ai
   have aE:=run_append_grow (P:=prog) w 32 ty 5 ag _ underlying32 hi al ⟨g,0,none⟩ n R (xs.map Y) (by rw[aa,length_map,E.1,Nat.mul_one]) aw y m c (ys.map Y) (by rw[aa,length_map,I,Nat.mul_one]) hc J J (by rw[ae];exact growslice_fits J J);have aq:=grownCap_ge w (n+m) R 5;have av:grownCap w (n+m) R 5<=maxLen:=grownCap_le_maxLen w (n+m) R _ (by unfold maxLen;omega);refine⟨_,_,aE,⟨by rw[length_append,E.1,I],.inr ⟨w.heap.size,_,_,(0,0),F,af,heap_alloc_new w.drew _,.inl F,aq,av,?_,?_⟩⟩,⟨F,F,F,aF,fun k hk _=>((X.refl w.drew).alloc _).block k hk⟩⟩
   ·have aD:(Value.int IntKind.u8 0).cells.size=1:=F;simp only[Array.size_append,size_toArray,size_zeroCells,aD,length_map,E.1,I];omega
   ·simp only[Array.toList_append,append_assoc];rw[<-append_assoc,<-map_append];exact take_left' (by rw[length_map,length_append,E.1,I])
theorem Kt(s:ByteArray):Lib.strCells s=s.data.toList.map Y:=F
theorem XU(w:World)(base:Nat)(ty:TypeId){v:Value}{n:Nat}{xs:aj}(s:ByteArray)(E:h_ w base v n xs)(hb:n+s.size<=140737488355328)(ag:base<=w.heap.size):
 ∃v' w',(Builtin.append_ #[32,9] ty #[v,.string s]).run prog w= .ok v' w'/\h_ w' base v' (n+s.size) (xs++s.data.toList)/\w.grownBy w' v.ownBlock:=by
 obtain⟨af,hi,am,ab,ae⟩:=info_parts xu;have R:s.data.toList.length=s.size:=by rw[Array.length_toList];rfl
 rcases E.2 with⟨rfl,rfl⟩|⟨g,I,cu,fz,rfl,ao,hg,vN,aM,az,av,aL⟩
 ·have an:xs=[]:=length_eq_zero_iff.1 E.1;subst an;obtain⟨v',w',h1,ap,aq,_⟩:=Lib.run_append_own_string (P:=prog) w base 32 9 ty 5 af underlying32 underlying9 hi am ab ae (.slice none 0 0) 0 [] (World.ownsRow_nil w base _ 1) s (by unfold maxLen;omega) J ag;exact⟨v',w',h1,h_.of (by simpa[Kt]using ap),aq⟩
 ·by_cases ad:n+s.size<=I
  ·have hf:=Lib.run_firstCells_string (P:=prog) w 1 s;have ac:=Kr prog g n 5 fz (Lib.strCells s) 0 cu w hg (by rw[Lib.strCells_length];omega) (by rw[Lib.strCells_length];omega) (Lib.strCells_oneCell s);simp only[Nat.add_zero,Lib.strCells_length]at ac;have al:=P7 (ys:=s.data.toList) E.1 ao hg vN az av aL (by rw[R];exact ad);rw[R,<-Kt]at al;refine⟨_,_,?_,al,P8 w g _⟩;simp[Builtin.append_,run_underlying underlying32,run_underlying underlying9,sizeOf,typeInfo,hi,ab,Builtin.lenOf,ad,hf,Addr.add_lit,ac]
  ·obtain⟨a',c',aa,_,_,_,ai⟩:=E.slice;injection aa with aa _ _;have ax:∀j u,(xs.map Y)[j]? =some u->w.cell? ((⟨g,0,none⟩:Addr).add j)=some u:=by
    rw[<-aa]at ai;exact wX ai
   have aE:=Lib.run_append_grow_string (P:=prog) w 32 9 ty 5 af _ underlying32 underlying9 hi am ⟨g,0,none⟩ n I (xs.map Y) (by rw[ab,length_map,E.1,Nat.mul_one]) ax s J J (by rw[ae];exact growslice_fits J J);have ar:=grownCap_ge w (n+s.size) I 5;have aw:grownCap w (n+s.size) I 5<=maxLen:=grownCap_le_maxLen w (n+s.size) I _ (by unfold maxLen;omega);refine⟨_,_,aE,⟨by rw[length_append,E.1,R],.inr ⟨w.heap.size,_,_,(0,0),F,ag,heap_alloc_new w.drew _,.inl F,ar,aw,?_,?_⟩⟩,⟨F,F,F,aF,fun k hk _=>((X.refl w.drew).alloc _).block k hk⟩⟩
   ·have aD:(Value.int IntKind.u8 0).cells.size=1:=F;simp only[Array.size_append,size_toArray,size_zeroCells,aD,length_map,E.1,Lib.strCells_length];omega
   ·simp only[Array.toList_append,append_assoc];rw[<-append_assoc,Kt,<-map_append];exact take_left' (by rw[length_map,length_append,E.1,R])
theorem uj{ops:Array Oper}{rest:List Oper}{o:Oper}{a:Act}{w:World}{Q:Exit->Act->World->Prop}(ac:o.guard=none)(s x:Operand)
 (ae:o.op= .call {callee:= .builtin .append,args:= #[s,x],argTypes:= #[32,32]})(base:Nat){v:Value}{n m c:Nat}{xs ys:aj}{y:Addr}
 (hs:a.eval s=v)(E:a.eval x= .slice (some y) m c)(I:h_ w base v n xs)(ag:ys.length=m)(hc:∀j u,(ys.map Y)[j]? =some u->w.cell? (y.add j)=some u)
 (hb:n+m<=140737488355328)(ad:base<=w.heap.size)
 (h:∀v' w',h_ w' base v' (n+m) (xs++ys)->w.grownBy w' v.ownBlock->wpList prog ops Q rest (a.put o.dst v') w'):wpList prog ops Q (o::rest) a w:=by
 obtain⟨v',w',af,ab,R⟩:=XT w base o.type (c:=c) I ag hc hb ad;exact wpList_plain ac fun K aa=>Lib.wp_append_run w s x _ _ ae v _ hs E v' w' af (aa _ _ (h v' w' ab R))
theorem P9{ops:Array Oper}{rest:List Oper}{o:Oper}{a:Act}{w:World}{Q:Exit->Act->World->Prop}(ab:o.guard=none)(j x:Operand)
 (ad:o.op= .call {callee:= .builtin .append,args:= #[j,x],argTypes:= #[32,9]})(base:Nat){v:Value}{n:Nat}{xs:aj}{s:ByteArray}
 (hs:a.eval j=v)(u:a.eval x= .string s)(E:h_ w base v n xs)
 (hb:n+s.size<=140737488355328)(ac:base<=w.heap.size)
 (h:∀v' w',h_ w' base v' (n+s.size) (xs++s.data.toList)->w.grownBy w' v.ownBlock->wpList prog ops Q rest (a.put o.dst v') w'):wpList prog ops Q (o::rest) a w:=by
 obtain⟨v',w',ae,aa,I⟩:=XU w base o.type s E hb ac;exact wpList_plain ab fun K R=>Lib.wp_append_run w j x _ _ ad v _ hs u v' w' ae (R _ _ (h v' w' aa I))
theorem Gx(sq:List Nat)(i:Nat)(x:bZ):fG (sq++[i]) x=fG sq x++jo i x:=by unfold fG;simp
theorem BA(n:Int):IntKind.u8.wrap n=((kL n).toNat:Int):=by
 unfold kL;rw[UInt8.toNat_ofNat'];show n%256=_;omega
theorem P_(n:Nat):kL (n:Int)=UInt8.ofNat n:=by
 unfold kL;apply UInt8.toNat_inj.1;rw[UInt8.toNat_ofNat',UInt8.toNat_ofNat'];omega
structure Fh(b:ay):Prop where
 t:b.text.size<=32768
 rn:b.rn<=16
 hn:b.hn<=32
 rs:∀s∈b.roles,s.size<=32
 l:b.label.size<=32
 e:0<=b.epoch/\b.epoch<=4294967295
 c:0<=b.count/\b.count<=65536
structure xF(w0:World)(gn B:Nat)(bs:List Bool)(b:ay)(N:Nat)(sq:List Nat)(v:Value)(w:World):Prop where
 body:ah w w0.heap.size b.v 101
 needs:ah w gn (bs.map .bool) 304
 own:h_ w B v (fG sq b.p).length (fG sq b.p)
 len:(fG sq b.p).length<=N
 ext:X w0 w
 le:B<=w.heap.size
theorem Below.lF{B:Nat}{w w':World}{g:Nat}{vs:aO}{T:TypeId}(h:Below B w w')(j:g<B)(hb:ah w g vs T):ah w' g vs T:=by
 unfold ah at*;rw[h.block g j];exact hb
structure Qa(b:ay)(act:Int):Prop where
 t:dK act 0=false->b.text=⟨#[]⟩
 m:dK act 1=false->b.member=List.replicate 16 0
 r:dK act 2=false->b.rn=0
 l:dK act 3=false->b.label=⟨#[]⟩
 c:dK act 4=false->b.commit=List.replicate 32 0
 e:dK act 5=false->b.epoch=0
 p:dK act 6=false->b.purpose=0
 a:dK act 7=false->b.reason=0
 n:dK act 8=false->b.need=0
 h:dK act 9=false->b.hn=0
 v:dK act 10=false->b.version=0
 k:dK act 11=false->b.count=0
theorem U2{s:ByteArray}(h:s.toList.isEmpty=true):s=⟨#[]⟩:=by
 rw[isEmpty_iff,ByteArray.toList_eq]at h;apply ByteArray.ext;exact Array.toList_eq_nil_iff.1 h
theorem Qb{b:ay}{act:Int}(h:nX b (lT act)=false):Qa b act:=by
 obtain⟨az,af,ad,av,ax,ab,u,am,I,an,aD,ap,j⟩:=JV (DR act);rw[j]at h;simp only[nX,ay.set,zip_cons_cons,zip_nil_right,any_cons,any_nil,Bool.or_false,Bool.or_eq_false_iff]at h;obtain⟨ao,aq,R,aa,E,ag,ai,aw,al,aE,ac,ae⟩:=h;have ar:∀i,dK act i=[az,af,ad,av,ax,ab,u,am,I,an,aD,ap].getD i false:=fun i=>by unfold dK;rw[j]
 refine⟨fun q=> ?_,fun q=> ?_,fun q=> ?_,fun q=> ?_,fun q=> ?_,fun q=> ?_,fun q=> ?_,fun q=> ?_,fun q=> ?_,fun q=> ?_,fun q=> ?_,fun q=> ?_⟩<;>rw[ar]at q<;>simp only[getD_cons_zero,getD_cons_succ]at q<;>subst q
 ·exact U2 (by simpa using ao)
 ·simpa using aq
 ·simpa using R
 ·exact U2 (by simpa using aa)
 ·simpa using E
 ·simpa using ag
 ·simpa using ai
 ·simpa using aw
 ·simpa using al
 ·simpa using aE
 ·simpa using ac
 ·simpa using ae
theorem Qc:∀(p:Option ByteArray) (ls:aT),ng p ls=0->∀s∈ls,jK s.data.toList=true
 |_,[],_,s,hs=>by cases hs
 |p,x::ls,h,s,hs=>by
  rw[ng]at h;cases hx:jK x.data.toList with
  |false=>rw[hx]at h;simp at h
  |true=>
   rw[hx,if_pos F]at h;split at h
   ·rcases mem_cons.1 hs with rfl|hs
    ·exact hx
    ·exact Qc _ ls h s hs
   ·cases h
theorem Qd{s:ByteArray}(h:jK s.data.toList=true):s.size<=32:=by
 unfold jK at h;simp only[Bool.and_eq_true,decide_eq_true_eq]at h;have:=h.2;rw[Array.length_toList]at this;exact this
structure zi(b:ay)(act:Int):Prop where
 uZ:iI act=true
 zeros:Qa b act
 t:b.text.size<=32768
 rn:b.rn<=16
 hn:b.hn<=32
 roles:vV b.roles=0
 label:dK act 3=true->jK b.label.data.toList=true
 range:pJ act b=false
 rises:tZ b.bH=true
theorem Ed{b:ay}{act:Int}(h:jS act b=0):zi b act:=by
 unfold jS at h;split at h
 ·cases h
 ·rename_i u;split at h
  ·cases h
  ·rename_i I;split at h
   ·cases h
   ·rename_i ab;split at h
    ·rename_i j;rw[h]at j;cases j
    ·rename_i j;split at h
     ·cases h
     ·rename_i aa;split at h
      ·cases h
      ·rename_i R;split at h
       ·cases h
       ·rename_i E;simp only[Bool.or_eq_true,decide_eq_true_eq,not_or,Bool.not_eq_true',Bool.not_eq_true,Bool.not_eq_false,Bool.and_eq_true,not_and,bne_iff_ne,ne_eq,Decidable.not_not]at u I ab j aa R E;exact⟨u,Qb I,J,J,J,j,aa,R,E⟩
theorem zi.small{b:ay}{act:Int}(h:zi b act):Fh b:=by
 have j:=h.range;unfold pJ at j;simp only[Bool.or_eq_false_iff,dR,decide_eq_false_iff_not,Bool.and_eq_false_imp]at j;refine⟨h.t,h.rn,h.hn,fun s hs=>Qd (Qc none _ h.roles s hs),?_,J,J⟩;cases hn:dK act 3 with
 |true=>exact Qd (h.label hn)
 |false=>rw[h.zeros.l hn];decide
theorem Ee{l:List (aj)}{k:Nat}(h:∀x∈l,x.length<=k):l.flatten.length<=l.length*k:=by
 induction l with
 |nil=>simp
 |cons a l u=>
  have E:=h a aF;have I:=u (fun x j=>h x (by simp[j]));rw[flatten_cons,length_append,length_cons,Nat.add_mul,Nat.one_mul];omega
theorem Qe{b:ay}(h:Fh b)(u:b.roles.length=b.rn):(Bj b.roles).length<=600:=by
 unfold Bj;rw[length_cons];have:=Ee (l:=b.roles.map kU) (k:=33) (by
  intro x j;obtain⟨s,hs,rfl⟩:=mem_map.1 j;rw[DU];have:=h.rs s hs;omega)
 rw[length_map,u]at this;have:=h.rn;omega
theorem XV{b:ay}(h:Fh b)(k:Nat)(hk:k<=16):((b.roles.take k).map kU).flatten.length<=600:=by
 have:=Ee (l:=(b.roles.take k).map kU) (k:=33) (by
  intro x j;obtain⟨s,hs,rfl⟩:=mem_map.1 j;rw[DU];have:=h.rs s (mem_of_mem_take hs);omega)
 rw[length_map,length_take]at this;omega
theorem XW{ls:aT}{k:Nat}{x:ByteArray}(h:ls[k]? =some x):((ls.take (k+1)).map kU).flatten=((ls.take k).map kU).flatten++kU x:=by
 rw[take_add_one,h];simp
theorem XY{b:ay}(u:oP b.bH)(k:Nat)(hk:k<=32):(b.bH.take k).flatten.length<=600:=by
 have:=Ee (l:=b.bH.take k) (k:=16) (fun x j=>by rw[u x (mem_of_mem_take j)];exact Nat.le_refl _);rw[length_take]at this;omega
theorem XZ{ls:List (aj)}{k:Nat}{x:aj}(h:ls[k]? =some x):(ls.take (k+1)).flatten=(ls.take k).flatten++x:=by
 rw[take_add_one,h];simp
theorem Qg{b:ay}(h:Fh b)(u:b.bH.length=b.hn)(E:oP b.bH):(Bl b.bH).length<=600:=by
 unfold Bl;rw[length_cons];have:=Ee (l:=b.bH) (k:=16) (fun x j=>by rw[E x j];exact Nat.le_refl _);rw[u]at this;have:=h.hn;omega
def BD:List (aj):=[[],[116],[109,114],[109],[108,99],[101,99],[112,101,99],[97],[99],[110,104,101,99],[104,101,99],[118,99],[118,107,99]]
def rF(k:Nat):aj:=BD.getD k []
theorem X0{k:Nat}(hk:k<13):(BD.map fun l=>Value.string ⟨l.toArray⟩)[k]? =some (.string ⟨(rF k).toArray⟩):=by
 have:BD[k]? =some (rF k):=by
  unfold rF;rw[getD_eq_getElem?_getD];have j:k<BD.length:=hk;rw[List.getElem?_eq_getElem j];rfl
 rw[List.getElem?_map,this];rfl
theorem Gy(k:Nat)(w:World)(hk:k<13):
 Calls prog 126 #[.int .i64 (k:Int)] w fun e w'=>e= .returned (.string ⟨(rF k).toArray⟩)/\X w w':=by
 have R:∀w,(Instr.buildSlice 98 13 #[(0,.string ⟨#[]⟩),(1,.string ⟨#[116]⟩),(2,.string ⟨#[109,114]⟩),(3,.string ⟨#[109]⟩),(4,.string ⟨#[108,99]⟩),(5,.string ⟨#[101,99]⟩),(6,.string ⟨#[112,101,99]⟩),(7,.string ⟨#[97]⟩),(8,.string ⟨#[99]⟩),(9,.string ⟨#[110,104,101,99]⟩),(10,.string ⟨#[104,101,99]⟩),(11,.string ⟨#[118,99]⟩),(12,.string ⟨#[118,107,99]⟩)]).run prog w= .ok (.slice (some ⟨w.heap.size,0,none⟩) 13 13) (w.alloc (.cells (BD.map fun l=>Value.string ⟨l.toArray⟩).toArray 9)):=by
  intro w
  kernel_rfl
 have I:(w.alloc (.cells (BD.map fun l=>Value.string ⟨l.toArray⟩).toArray 9)).cell? ((⟨w.heap.size,0,none⟩:Addr).add (k*1))=some (.string ⟨(rF k).toArray⟩):=by
  rw[dn];exact(ah.yu w _ _).cell' (by rw[Nat.zero_add,Nat.mul_one];exact X0 hk)
 have j:=O I;clear I;obtain⟨u,E⟩:=aC ((⟨(rF k).toArray⟩:ByteArray):ByteArray);rw[E]at j⊢;clear E;go_enter func126,ntmps126;go_wp2_with (first|(refine bF F (fP (i:=k) F F F underlying98 tV hk _) ?_)|(refine bF F (kT F F j oO) ?_));go_ret;exact⟨F,(X.refl w).alloc _⟩
section
open Go Go.RowKit
abbrev OT:TypeId:=210
theorem xG(l:aj)(s:Bool)(D g m:Nat)(w:World)(a1:m<=140737488355328)(aR:gI OT D w g l s):
 Calls prog 127 #[.pointer (some ⟨g,0,none⟩),.int .i64 (m:Int)] w fun e w'=>∃a c x ae ap,e= .returned (.slice a m c)/\m<=c/\x.length=m/\qw w' g a (x.map Y)/\gI OT D w' g ae ap/\fA (fK m) l s x ae ap/\ae.length<=l.length/\w.grownBy w' (some g):=by
 obtain⟨a,n,c,hb,hn,a2,hc,a4,ao⟩:=aR;obtain⟨af,R,al⟩:=aW hb hn ao;have aL:=hb.cell' (i:=0) (v:= .slice a n c) F;have k1:=hb.cell' (i:=1) (v:= .bool s) F;have aw:=hb.frozen 1;have aM:=hb.frozen 0;have a8:=af.lt;clear hb hn ao;by_cases h:n<m
 ·have az:decide (n<m)=true:=aQ h;have aq:decide ((n:Int)<(m:Int))=true:=aQ J;go_enter func127,ntmps127;go_upto_region 3 with(fail);generalize I:World.setCell (World.setCell w _ _) _ _=j;have aa:ah j g [.slice none 0 0,.bool true] OT:=by rw[<-I];exact(af.set 1 (.bool true)).set 0 (.slice none 0 0)
  have E:aU w g j:=by rw[<-I];exact(aU.setCell _).trans (aU.setCell _)
  obtain⟨a0,am⟩:=aB aa E;clear I aa E aL k1 aM aw;have a9:=F6 j m a1;go_wp2_with fail;generalize an:World.alloc j _=ai;have aE:ah ai j.heap.size ((List.replicate m (0:UInt8)).map Y) 5:=by rw[<-an];exact ah.aI F aF
  have ag:X j ai:=by rw[<-an];exact(X.refl j).alloc _
  have a7:=am.size;go_wp2_with fail;go_ret;refine⟨_,_,List.replicate m 0,[],true,F,Nat.le_refl _,aF,?_,?_,⟨fun ac=>(by cases ac),fun _=> .inr ?_⟩,Nat.zero_le _,?_⟩
  ·exact .inr ⟨j.heap.size,0,F,J,fun i u av=>by rw[Nat.zero_add];exact aE.cell' av⟩
  ·have a3:=ag.size;exact⟨none,0,0,a0.ext ag,F,Nat.le_refl _,J,J,.inl F⟩
  ·unfold fK;rw[R.out,if_pos h]
  ·exact xk (FU (sG w (some g)) am) ag
 ·have az:decide (n<m)=false:=aP h;have aq:decide ((n:Int)<(m:Int))=false:=aP J;have ad:m<=c:=J;have aD:m<=n:=J;go_enter func127,ntmps127;go_wp2_with (first|(refine bF F (DX F F F underlying32 gu ad F _) ?_)|(refine zy F _ _ _ _ F F F underlying32 gu aD ?_));generalize I:World.setCell w _ _=j;have aa:ah j g [.slice (dL a c m) (n - m) (c - m),.bool s] OT:=by rw[<-I];exact af.set 0 (.slice (dL a c m) (n - m) (c - m))
  have E:aU w g j:=by rw[<-I];exact aU.setCell _
  have ar:=FU (sG w (some g)) E;go_ret;have a6:(l.map Y).length=n:=by rw[length_map];exact R
  refine⟨_,_,l.take m,l.drop m,s,F,ad,?_,?_,?_,⟨fun ac=>⟨ac,?_⟩,fun ax=> .inl ax⟩,?_,ar⟩
  ·rw[length_take,R.out];omega
  ·rw[map_take];exact((al.turn fun k _ ab=>E.block k ab).Pv c m ad).off
  ·have a5:=E.size;refine⟨_,_,_,aa,by rw[length_drop,R.out],J,J,J,?_⟩;rw[map_drop];exact(al.turn fun k _ ab=>E.block k ab).Px c m J
  ·unfold fK;rw[R.out,if_neg h]
  ·rw[length_drop];omega
theorem yH(l:aj)(s:Bool)(D g:Nat)(w:World)(j:gI OT D w g l s):
 Calls prog 128 #[.pointer (some ⟨g,0,none⟩)] w fun e w'=>∃x:Nat,e= .returned (.int .i64 (x:Int))/\x<256/\Fe OT D kV w g l s x w':=by
 have ai:=O j;clear j;go_enter func128,ntmps128;go_wp2_with fail;refine(xG l s D g 1 w J ai).mono ?_;rintro e w' ⟨a,an,x,ac,af,rfl,ap,u,hc,j,ht,R,E⟩;obtain⟨b,off,rfl,I⟩:=hc.cells.gQ (by rw[length_map,u];omega);obtain⟨c,rfl⟩:∃c,x=[c]:=by
  match x,u with
  |[c],_=>exact⟨c,F⟩
 have ab:w'.cell? ⟨b,off,none⟩=some (.int .u8 (c.toNat:Int)):=I 0 _ F;obtain⟨am,ae,ag,ad,aa⟩:=dM ab j ht E R;clear hc I j ht E R u;have al:=c.toNat_lt;have ao:IntKind.i64.wrap (c.toNat:Int)=(c.toNat:Int):=IntWalk.i64_in _ J;go_wp2_with fail;go_ret;refine⟨c.toNat,F,J,ac,af,ae,?_,aa,ad⟩;exact(ag.map (fun x=>(x.headD 0).toNat)).congr F
def kF(l:aj):Int:=kK (jM l)
theorem Qh{act:Int}(h:iI act=true):(gy act).Nodup/\∀i∈gy act,i<12:=by
 rcases wo h with rfl|rfl|rfl|rfl|rfl|rfl|rfl|rfl|rfl|rfl|rfl|rfl<;>decide
def jZ(i:Nat):UInt8:=[116,109,114,108,99,101,112,97,110,104,118,107].getD i 0
theorem Qi{act:Int}(h:iI act=true):rF act.toNat=(gy act).map jZ:=by
 rcases wo h with rfl|rfl|rfl|rfl|rfl|rfl|rfl|rfl|rfl|rfl|rfl|rfl<;>decide
structure AQ(w0:World)(g gi B:Nat)(us:ByteArray)(l0:aj)(sq:List Nat)(w:World)(r:ay)(l:aj)(s:Bool):Prop where
 body:ah w (w0.heap.size+1) r.v 101
 res:ah w w0.heap.size dI.v 101
 rd:gI OT w0.heap.size w g l s
 took:fA (jC kF sq kD) l0 false r.p l s
 ext:X w0 w
 fit:r.Fit
 jF:bJ w B r.ra (r.roles.map bM)
 hhi:bJ w B r.ha (dB r.bH)
 nr:2∉sq->xE r
 nh:9∉sq->ug r
 it:w.heap[gi]? =some (.stringIter us sq.length)
section
variable {w0:World} {g gi B i:Nat} {us:ByteArray} {l0:aj} {sq:List Nat} {w:World} {r:ay} {l:aj} {s:Bool}
structure BF(w0:World)(g gi B:Nat)(us:ByteArray)(l0:aj)(sq:List Nat)(w:World)(r:ay)(l:aj)(s:Bool):Prop where
 body:ah w (w0.heap.size+1) r.v 101
 res:ah w w0.heap.size dI.v 101
 rd:gI OT w0.heap.size w g l s
 took:fA (jC kF sq kD) l0 false r.p l s
 ext:X w0 w
 fit:r.Fit
 jF:bJ w B r.ra (r.roles.map bM)
 hhi:bJ w B r.ha (dB r.bH)
 nr:2∉sq->xE r
 nh:9∉sq->ug r
 it:w.heap[gi]? =some (.stringIter us (sq.length+1))
theorem X.Ef{W w w':World}{k:Nat}(h:X W w)(g:w.grownBy w' (some k))(hk:W.heap.size<=k):X W w':=h.grown g (by intro q j;injection j with j;omega)
theorem BF.store(h:BF w0 g gi B us l0 sq w r l s){w2 R:World}{I:aj}{E:Bool}{r2:ay}(ar:w0.heap.size+1<g)(aq:w0.heap.size+1<gi)(ao:gi≠g)(ae:w0.heap.size+1<B)(ag:g<B)(j:w.grownBy w2 (some g))(rd:gI OT w0.heap.size w2 g I E)(u:aU w2 (w0.heap.size+1) R)
 (hb:ah R (w0.heap.size+1) r2.v 101)(ap:fA (jC kF (sq++[i]) kD) l0 false r2.p I E)(fit:r2.Fit)(af:r2.ra=r.ra)(al:r2.rn=r.rn)(ai:r2.rc=r.rc)(ac:r2.roles=r.roles)(ad:r2.ha=r.ha)(an:r2.hn=r.hn)(am:r2.hc=r.hc)(ab:r2.bH=r.bH):AQ w0 g gi B us l0 (sq++[i]) R r2 I E where
 body:=hb
 res:=(h.res.grown j (by simp;omega)).upd u J
 rd:=rd.upd u J J
 took:=ap
 ext:=u.ext (h.ext.Ef j J) J
 fit:=fit
 jF:=by rw[af,ac];exact(h.jF.grown j ag).upd u ae
 hhi:=by rw[ad,ab];exact(h.hhi.grown j ag).upd u ae
 nr:=fun hn=>by
  have:=h.nr (fun aa=>hn (by simp[aa]));exact⟨af.trans this.a,al.trans this.n,ai.trans this.c,ac.trans this.l⟩
 nh:=fun hn=>by
  have:=h.nh (fun aa=>hn (by simp[aa]));exact⟨ad.trans this.a,an.trans this.n,am.trans this.c,ab.trans this.l⟩
 it:=by
  rw[u.block gi J,j.block gi (Array.getElem?_eq_some_iff.1 h.it).1 (by simpa using ao),h.it,length_append];rfl
theorem BF.body2(h:BF w0 g gi B us l0 sq w r l s){w2:World}(u:w0.heap.size+1<g)(j:w.grownBy w2 (some g)):ah w2 (w0.heap.size+1) r.v 101:=h.body.grown j (by simp;omega)
theorem AQ.next(h:AQ w0 g gi B us l0 sq w r l s){w2:World}(R:w0.heap.size+1<g)(I:w0.heap.size+1<gi)(aa:gi≠g)(ab:gi<B)(u:∀k,k≠gi->w2.heap[k]? =w.heap[k]?)(hs:w2.heap.size=w.heap.size)(j:w2.os=w.os/\w2.tape=w.tape/\w2.output=w.output)(E:w2.heap[gi]? =some (.stringIter us (sq.length+1))):BF w0 g gi B us l0 sq w2 r l s where
 body:=by unfold ah;rw[u _ J];exact h.body
 res:=by unfold ah;rw[u _ J];exact h.res
 rd:=h.rd.same ⟨J,fun k hk=>u k J,u g J⟩
 took:=h.took
 ext:=⟨j.1.trans h.ext.os,j.2.1.trans h.ext.tape,j.2.2.trans h.ext.output,by have:=h.ext.size;omega,fun k hk=>(u k J).trans (h.ext.block k hk)⟩
 fit:=h.fit
 jF:=h.jF.turn fun k hk _=>u k J
 hhi:=h.hhi.turn fun k hk _=>u k J
 nr:=h.nr
 nh:=h.nh
 it:=E
end
end
theorem aeA(s:ByteArray)(c:Int)(w:World):
 Calls prog 295 #[.string s,.int .u8 c] w fun e w'=>e= .returned (.int .i64 (Lib.indexByte s.data.toList c.toNat.toUInt8))/\w'=w:=by
 go_enter func295,ntmps295;go_wp2;rw[run_callFunc_extern func328 au au au (e:=Extern.BytealgIndexByte.indexByte) au,Lib.run_indexByteString];simp only[Result.andThen];rw[Oper.upon_value];go_wp2;go_ret;exact⟨F,F⟩
theorem aeo(s:ByteArray)(c:UInt8)(w:World):
 Calls prog 238 #[.string s,.string ⟨#[c]⟩] w fun e w'=>e= .returned (.int .i64 (Lib.indexByte s.data.toList c))/\w'=w:=by
 go_enter func238,ntmps238;go_wp2_with (go_at_call 295;refine(aeA _ _ _).mono ?_;rintro e w' ⟨rfl,rfl⟩)
 ·have h:([c]==s.toList)=true:=by assumption
  go_ret;refine⟨?_,F⟩;have e:s.data.toList=[c]:=by rw[<-Lib.toList_data];exact(beq_iff_eq.1 h).symm
  rw[e];simp[Lib.indexByte]
 ·go_ret;exact⟨F,F⟩
theorem aek(s:ByteArray)(c:UInt8)(w:World):
 Calls prog 232 #[.string s,.string ⟨#[c]⟩] w fun e w'=>e= .returned (.int .i64 (Lib.indexByte s.data.toList c))/\w'=w:=by
 go_enter func232,ntmps232;go_wp2_with (go_at_call 238;refine(aeo _ _ _).mono ?_;rintro e w' ⟨rfl,rfl⟩);go_ret;exact⟨F,F⟩
theorem aeB(s:ByteArray)(c:UInt8)(w:World):
 Calls prog 184 #[.string s,.string ⟨#[c]⟩] w fun e w'=>e= .returned (.bool (decide (0<=Lib.indexByte s.data.toList c)))/\w'=w:=by
 go_enter func184,ntmps184;go_wp2_with (go_at_call 232;refine(aek _ _ _).mono ?_;rintro e w' ⟨rfl,rfl⟩);go_ret;exact⟨F,F⟩
theorem X3:∀(a:Fin 13) (k:Fin 12),1<=a.val->decide (0<=Lib.indexByte (rF a.val) (jZ k.val))=(lT (a.val:Int)).getD k.val false:=by decide+kernel
theorem Qj(act:Int)(k:Nat)(w:World)(h:iI act=true)(hk:k<12):
 Calls prog 184 #[.string ⟨(rF act.toNat).toArray⟩,.string ⟨#[jZ k]⟩] w fun e w'=>e= .returned (.bool (dK act k))/\w=w':=by
 refine(aeB ⟨(rF act.toNat).toArray⟩ (jZ k) w).mono ?_;rintro e w' ⟨rfl,rfl⟩;refine⟨?_,F⟩;unfold iI at h;simp only[Bool.and_eq_true,decide_eq_true_eq]at h;have j:=X3 ⟨act.toNat,J⟩ ⟨k,hk⟩ (by show 1<=act.toNat;omega);unfold dK;have u:((act.toNat:Nat):Int)=act:=J;simp only[u]at j;rw[<-j]
def yI(l:List (UInt8×Bool)):aO:=(l.map fun p=>[Value.string ⟨#[p.1]⟩,.bool p.2]).flatten
theorem X4{l:List (UInt8×Bool)}{k:Nat}{p:UInt8×Bool}(h:l[k]? =some p):∀j,j<2->(yI l)[2*k+j]? =([Value.string ⟨#[p.1]⟩,.bool p.2]:aO)[j]? :=by
 intro j E;induction l generalizing k with
 |nil=>cases h
 |cons a l u=>
  have hc:yI (a::l)=[Value.string ⟨#[a.1]⟩,.bool a.2]++yI l:=F;rw[hc];cases k with
  |zero=>
   cases h;rw[List.getElem?_append_left (by simp;omega),Nat.mul_zero,Nat.zero_add]
  |succ k=>
   rw[List.getElem?_append_right (by simp;omega),show 2*(k+1)+j - [Value.string ⟨#[a.1]⟩,.bool a.2].length=2*k+j by simp;omega];exact u (by simpa using h)
abbrev PT:TypeId:=327
theorem Qk:iH prog PT 2:=⟨⟨_,underlying327,F⟩,au⟩
theorem Ql:(prog.info? PT).map (·.size)=some 2:=au
theorem X5:(prog.info? PT).map (fun i=>(i.zero,i.size,i.bytes))=some (some (.agg #[.string ⟨#[]⟩,.bool false]),2,24):=au
theorem X6(ag I R ae ac aa j ab u af E ad:Bool)(w:World):(Instr.buildSlice 328 12 #[(0,.agg #[.string ⟨#[116]⟩,.bool ag]),(1,.agg #[.string ⟨#[109]⟩,.bool I]),(2,.agg #[.string ⟨#[114]⟩,.bool R]),(3,.agg #[.string ⟨#[108]⟩,.bool ae]),(4,.agg #[.string ⟨#[99]⟩,.bool ac]),(5,.agg #[.string ⟨#[101]⟩,.bool aa]),(6,.agg #[.string ⟨#[112]⟩,.bool j]),(7,.agg #[.string ⟨#[97]⟩,.bool ab]),(8,.agg #[.string ⟨#[110]⟩,.bool u]),(9,.agg #[.string ⟨#[104]⟩,.bool af]),(10,.agg #[.string ⟨#[118]⟩,.bool E]),(11,.agg #[.string ⟨#[107]⟩,.bool ad])]).run prog w= .ok (.slice (some ⟨w.heap.size,0,none⟩) 12 12) (w.alloc (.cells (yI [(116,ag),(109,I),(114,R),(108,ae),(99,ac),(101,aa),(112,j),(97,ab),(110,u),(104,af),(118,E),(107,ad)]).toArray PT)):=by
 obtain⟨ao,an,ap,al,aq⟩:=info_parts X5;refine run_buildSlice (P:=prog) w 328 PT 12 _ (yI [(116,ag),(109,I),(114,R),(108,ae),(99,ac),(101,aa),(112,j),(97,ab),(110,u),(104,af),(118,E),(107,ad)]).toArray ao _ underlying328 an ap (by rw[al];omega) (by rw[al];omega) ?_;have hf:∀ai:Array Value,ai.size=24->Instr.fill (fun i=>some (i*2,2)) ai [(0,.agg #[.string ⟨#[116]⟩,.bool ag]),(1,.agg #[.string ⟨#[109]⟩,.bool I]),(2,.agg #[.string ⟨#[114]⟩,.bool R]),(3,.agg #[.string ⟨#[108]⟩,.bool ae]),(4,.agg #[.string ⟨#[99]⟩,.bool ac]),(5,.agg #[.string ⟨#[101]⟩,.bool aa]),(6,.agg #[.string ⟨#[112]⟩,.bool j]),(7,.agg #[.string ⟨#[97]⟩,.bool ab]),(8,.agg #[.string ⟨#[110]⟩,.bool u]),(9,.agg #[.string ⟨#[104]⟩,.bool af]),(10,.agg #[.string ⟨#[118]⟩,.bool E]),(11,.agg #[.string ⟨#[107]⟩,.bool ad])]=some (yI [(116,ag),(109,I),(114,R),(108,ae),(99,ac),(101,aa),(112,j),(97,ab),(110,u),(104,af),(118,E),(107,ad)]).toArray:=by
  intro ai hc;have h:=Great.fill_whole (s:=2) J [.agg #[.string ⟨#[116]⟩,.bool ag],.agg #[.string ⟨#[109]⟩,.bool I],.agg #[.string ⟨#[114]⟩,.bool R],.agg #[.string ⟨#[108]⟩,.bool ae],.agg #[.string ⟨#[99]⟩,.bool ac],.agg #[.string ⟨#[101]⟩,.bool aa],.agg #[.string ⟨#[112]⟩,.bool j],.agg #[.string ⟨#[97]⟩,.bool ab],.agg #[.string ⟨#[110]⟩,.bool u],.agg #[.string ⟨#[104]⟩,.bool af],.agg #[.string ⟨#[118]⟩,.bool E],.agg #[.string ⟨#[107]⟩,.bool ad]] ai (by intro v am;simp only[mem_cons,not_mem_nil,or_false]at am;rcases am with rfl|rfl|rfl|rfl|rfl|rfl|rfl|rfl|rfl|rfl|rfl|rfl<;>rfl) (by simp[hc]);simpa[Value.cells,yI]using h
 rw[al];exact hf _ (by simp[Builtin.zeroCells,Value.cells])
theorem X7(ad aa ab af j ac I ae ag R u E:Bool):∀k,k<12->([(116,ad),(109,aa),(114,ab),(108,af),(99,j),(101,ac),(112,I),(97,ae),(110,ag),(104,R),(118,u),(107,E)]:List (UInt8×Bool))[k]? =some (jZ k,[ad,aa,ab,af,j,ac,I,ae,ag,R,u,E].getD k false):=by
 intro k hk;rcases(by omega:k=0∨k=1∨k=2∨k=3∨k=4∨k=5∨k=6∨k=7∨k=8∨k=9∨k=10∨k=11)with rfl|rfl|rfl|rfl|rfl|rfl|rfl|rfl|rfl|rfl|rfl|rfl<;>rfl
theorem Qm{xs j:List Bool}(aa:xs.length=12)(hn:j.length=12):((j.zip xs).any fun p=> !p.1&&p.2)=true↔∃k,k<12/\j.getD k false=false/\xs.getD k false=true:=by
 rw[any_eq_true]
 constructor
 ·rintro⟨p,R,u⟩;obtain⟨k,hk,rfl⟩:=mem_iff_getElem.1 R;rw[length_zip]at hk;refine⟨k,J,?_,?_⟩
  ·rw[getD_eq_getElem?_getD,List.getElem?_eq_getElem J];simp only[getElem_zip,Bool.and_eq_true,Bool.not_eq_true']at u;simpa using u.1
  ·rw[getD_eq_getElem?_getD,List.getElem?_eq_getElem J];simp only[getElem_zip,Bool.and_eq_true,Bool.not_eq_true']at u;simpa using u.2
 ·rintro⟨k,hk,E,I⟩;refine⟨(j.zip xs)[k]'(by rw[length_zip];omega),getElem_mem _,?_⟩;rw[getD_eq_getElem?_getD,List.getElem?_eq_getElem J]at E I;simp only[getElem_zip];simp only[Option.getD_some]at E I;rw[E,I];rfl
theorem X8(act:Int)(b:ay)(w:World)(bt:b.Ok w)(ha:iI act=true):
 Calls prog 182 #[.int .i64 act,.agg b.v.toArray] w fun e w'=>e= .returned (.int .i64 (if nX b (lT act)then 2 else 0))/\X w w':=by
 obtain⟨R,bp⟩:=aB bt (fun k w=>Qj act k w ha);have ce:1<=act/\act<=12:=by unfold iI at ha;simpa using ha
 obtain⟨K,rfl⟩:∃K:Nat,act=(K:Int):=⟨act.toNat,J⟩;have bS:=O (fun w=>Gy K w J);obtain⟨u,af⟩:=aC ((⟨(rF K).toArray⟩:ByteArray):ByteArray);rw[show(K:Int).toNat=K from F,af]at bp;rw[af]at bS;have cm:=O (show nX b (lT (K:Int))=((lT (K:Int)).zip b.set).any (fun p=> !p.1&&p.2)from F);obtain⟨cr,a9⟩:=aC ((if nX b (lT (K:Int))then(2:Int)else 0):Int);rw[a9];have bv:=O a9;clear bt af ce ha a9;go_enter func182,ntmps182;go_upto_region 1 with(fail);generalize a_:World.alloc w _=bh;have bN:ah bh w.heap.size b.v 101:=by rw[<-a_];exact ah.aI F F
 have b0:X w bh:=by rw[<-a_];exact(X.refl w).alloc _
 obtain⟨bu,bx⟩:=aB bN b0;clear a_ bN b0;go_wp2_with fail;refine(bS bh).mono ?_;rintro e w2 ⟨rfl,e2⟩;obtain⟨ab,bk⟩:=aB (bu.ext e2) (bx.ext e2);have a4:=O (R.ext bk);clear e2 bu bx;obtain⟨cp,cn,b8,co⟩:=bU (show(b.member.map Y).length=16 by rw[length_map];exact R.hm) (show(b.commit.map Y).length=32 by rw[length_map];exact R.hcm) (fun w=>vY underlying29 b.member (List.replicate 16 0) R.hm aF w) (fun w=>vY underlying31 b.commit (List.replicate 32 0) R.hcm aF w);have a1:b.set=b.set:=F
 conv at a1=>rhs;unfold ay.set
 have aa:=O a1;clear a1;go_upto_region 2 with(fail);obtain⟨C,I,aJ⟩:=jJ w2;refine wp_region_held_drew (S:=C) au ((I _).2 (X.refl w2).drew) (fun Z=> ?_);refine d_ 0 (v:= .pointer (some ⟨w.heap.size,0,none⟩)) F au au au (fun _ _ _ h=>h) (.inl ⟨F,?va1⟩) Z ?vb1
 case va1=>(intro _ _;go_simp;try with_reducible rfl)
 case vb1=>
 refine cO ?_;refine d_ 1 (v:= .string b.text) F au au au (fun _ _ _ h=>h) (.inl ⟨F,?va2⟩) Z ?vb2
 case va2=>(intro E eU;have oz:=(ab.ext ((I E).1 eU)).cell' (ay.at0 b);go_simp;try with_reducible rfl)
 case vb2=>
 refine cO ?_;refine d_ 2 (v:= .bool (!b.text.toList.isEmpty)) F au au au (fun _ _ _ h=>h) (.inl ⟨F,?va3⟩) Z ?vb3
 case va3=>(intro _ _;go_simp;try with_reducible rfl)
 case vb3=>
 refine cO ?_;generalize (!b.text.toList.isEmpty)=al at aa⊢;refine d_ 3 (v:= .agg #[.string ⟨#[116]⟩,.bool al]) F au au au (fun _ _ _ h=>h) (.inl ⟨F,?va4⟩) Z ?vb4
 case va4=>(intro _ _;go_simp;try with_reducible rfl)
 case vb4=>
 refine cO ?_;refine d_ 4 (v:= .pointer (some ⟨w.heap.size,1,none⟩)) F au au au (fun _ _ _ h=>h) (.inl ⟨F,?va5⟩) Z ?vb5
 case va5=>(intro _ _;go_simp;try with_reducible rfl)
 case vb5=>
 refine cO ?_;refine d_ 5 (v:= .agg (b.member.map Y).toArray) F au au au (fun _ _ _ h=>h) (.inl ⟨F,?va6⟩) Z ?vb6
 case va6=>(intro E eU;exact bQ F F (ay.JL (a4.ext ((I E).1 eU)) (ab.ext ((I E).1 eU))) dh cp)
 case vb6=>
 refine cO ?_;refine d_ 6 (v:= .agg ((List.replicate 16 (0:UInt8)).map Y).toArray) F au au au (fun _ _ _ h=>h) (.inl ⟨F,?va7⟩) Z ?vb7
 case va7=>(intro _ _;go_simp;first|with_reducible rfl|rfl|done)
 case vb7=>
 refine cO ?_;refine d_ 7 (v:= .bool (!(b.member==List.replicate 16 0))) F au au au (fun _ _ _ h=>h) (.inl ⟨F,?va8⟩) Z ?vb8
 case va8=>(intro E _;exact jm F F F oD b8 E)
 case vb8=>
 refine cO ?_;generalize (!(b.member==List.replicate 16 0))=ad at aa⊢;refine d_ 8 (v:= .agg #[.string ⟨#[109]⟩,.bool ad]) F au au au (fun _ _ _ h=>h) (.inl ⟨F,?va9⟩) Z ?vb9
 case va9=>(intro _ _;go_simp;try with_reducible rfl)
 case vb9=>
 refine cO ?_;refine d_ 9 (v:= .pointer (some ⟨w.heap.size,17,none⟩)) F au au au (fun _ _ _ h=>h) (.inl ⟨F,?va10⟩) Z ?vb10
 case va10=>(intro _ _;go_simp;try with_reducible rfl)
 case vb10=>
 refine cO ?_;refine d_ 10 (v:= .slice b.ra b.rn b.rc) F au au au (fun _ _ _ h=>h) (.inl ⟨F,?va11⟩) Z ?vb11
 case va11=>(intro E eU;have oz:=(ab.ext ((I E).1 eU)).cell' (ay.pI R);go_simp;try with_reducible rfl)
 case vb11=>
 refine cO ?_;refine d_ 11 (v:= .int .i64 (b.rn:Int)) F au au au (fun _ _ _ h=>h) (.inl ⟨F,?va12⟩) Z ?vb12
 case va12=>(intro _ _;go_simp;try with_reducible rfl)
 case vb12=>
 refine cO ?_;refine d_ 12 (v:= .bool (decide (0<b.rn))) F au au au (fun _ _ _ h=>h) (.inl ⟨F,?va13⟩) Z ?vb13
 case va13=>(intro _ _;go_simp;first|with_reducible rfl|done)
 case vb13=>
 refine cO ?_;generalize (decide (0<b.rn))=an at aa⊢;refine d_ 13 (v:= .agg #[.string ⟨#[114]⟩,.bool an]) F au au au (fun _ _ _ h=>h) (.inl ⟨F,?va14⟩) Z ?vb14
 case va14=>(intro _ _;go_simp;try with_reducible rfl)
 case vb14=>
 refine cO ?_;refine d_ 14 (v:= .pointer (some ⟨w.heap.size,18,none⟩)) F au au au (fun _ _ _ h=>h) (.inl ⟨F,?va15⟩) Z ?vb15
 case va15=>(intro _ _;go_simp;try with_reducible rfl)
 case vb15=>
 refine cO ?_;refine d_ 15 (v:= .string b.label) F au au au (fun _ _ _ h=>h) (.inl ⟨F,?va16⟩) Z ?vb16
 case va16=>(intro E eU;have oz:=(ab.ext ((I E).1 eU)).cell' (ay.zH R);go_simp;try with_reducible rfl)
 case vb16=>
 refine cO ?_;refine d_ 16 (v:= .bool (!b.label.toList.isEmpty)) F au au au (fun _ _ _ h=>h) (.inl ⟨F,?va17⟩) Z ?vb17
 case va17=>(intro _ _;go_simp;try with_reducible rfl)
 case vb17=>
 refine cO ?_;generalize (!b.label.toList.isEmpty)=am at aa⊢;refine d_ 17 (v:= .agg #[.string ⟨#[108]⟩,.bool am]) F au au au (fun _ _ _ h=>h) (.inl ⟨F,?va18⟩) Z ?vb18
 case va18=>(intro _ _;go_simp;try with_reducible rfl)
 case vb18=>
 refine cO ?_;refine d_ 18 (v:= .pointer (some ⟨w.heap.size,19,none⟩)) F au au au (fun _ _ _ h=>h) (.inl ⟨F,?va19⟩) Z ?vb19
 case va19=>(intro _ _;go_simp;try with_reducible rfl)
 case vb19=>
 refine cO ?_;refine d_ 19 (v:= .agg (b.commit.map Y).toArray) F au au au (fun _ _ _ h=>h) (.inl ⟨F,?va20⟩) Z ?vb20
 case va20=>(intro E eU;exact bQ F F (ay.comm (a4.ext ((I E).1 eU)) (ab.ext ((I E).1 eU))) bY cn)
 case vb20=>
 refine cO ?_;refine d_ 20 (v:= .agg ((List.replicate 32 (0:UInt8)).map Y).toArray) F au au au (fun _ _ _ h=>h) (.inl ⟨F,?va21⟩) Z ?vb21
 case va21=>(intro _ _;go_simp;first|with_reducible rfl|rfl|done)
 case vb21=>
 refine cO ?_;refine d_ 21 (v:= .bool (!(b.commit==List.replicate 32 0))) F au au au (fun _ _ _ h=>h) (.inl ⟨F,?va22⟩) Z ?vb22
 case va22=>(intro E _;exact jm F F F O5 co E)
 case vb22=>
 refine cO ?_;generalize (!(b.commit==List.replicate 32 0))=ap at aa⊢;refine d_ 22 (v:= .agg #[.string ⟨#[99]⟩,.bool ap]) F au au au (fun _ _ _ h=>h) (.inl ⟨F,?va23⟩) Z ?vb23
 case va23=>(intro _ _;go_simp;try with_reducible rfl)
 case vb23=>
 refine cO ?_;refine d_ 23 (v:= .pointer (some ⟨w.heap.size,51,none⟩)) F au au au (fun _ _ _ h=>h) (.inl ⟨F,?va24⟩) Z ?vb24
 case va24=>(intro _ _;go_simp;try with_reducible rfl)
 case vb24=>
 refine cO ?_;refine d_ 24 (v:= .int .i64 b.epoch) F au au au (fun _ _ _ h=>h) (.inl ⟨F,?va25⟩) Z ?vb25
 case va25=>(intro E eU;have oz:=(ab.ext ((I E).1 eU)).cell' (ay.mD R);go_simp;try with_reducible rfl)
 case vb25=>
 refine cO ?_;refine d_ 25 (v:= .bool (b.epoch != 0)) F au au au (fun _ _ _ h=>h) (.inl ⟨F,?va26⟩) Z ?vb26
 case va26=>(intro _ _;go_simp;first|with_reducible rfl|done)
 case vb26=>
 refine cO ?_;generalize (b.epoch != 0)=ax at aa⊢;refine d_ 26 (v:= .agg #[.string ⟨#[101]⟩,.bool ax]) F au au au (fun _ _ _ h=>h) (.inl ⟨F,?va27⟩) Z ?vb27
 case va27=>(intro _ _;go_simp;try with_reducible rfl)
 case vb27=>
 refine cO ?_;refine d_ 27 (v:= .pointer (some ⟨w.heap.size,52,none⟩)) F au au au (fun _ _ _ h=>h) (.inl ⟨F,?va28⟩) Z ?vb28
 case va28=>(intro _ _;go_simp;try with_reducible rfl)
 case vb28=>
 refine cO ?_;refine d_ 28 (v:= .int .i64 b.purpose) F au au au (fun _ _ _ h=>h) (.inl ⟨F,?va29⟩) Z ?vb29
 case va29=>(intro E eU;have oz:=(ab.ext ((I E).1 eU)).cell' (ay.nV R);go_simp;try with_reducible rfl)
 case vb29=>
 refine cO ?_;refine d_ 29 (v:= .bool (b.purpose != 0)) F au au au (fun _ _ _ h=>h) (.inl ⟨F,?va30⟩) Z ?vb30
 case va30=>(intro _ _;go_simp;first|with_reducible rfl|done)
 case vb30=>
 refine cO ?_;generalize (b.purpose != 0)=av at aa⊢;refine d_ 30 (v:= .agg #[.string ⟨#[112]⟩,.bool av]) F au au au (fun _ _ _ h=>h) (.inl ⟨F,?va31⟩) Z ?vb31
 case va31=>(intro _ _;go_simp;try with_reducible rfl)
 case vb31=>
 refine cO ?_;refine d_ 31 (v:= .pointer (some ⟨w.heap.size,53,none⟩)) F au au au (fun _ _ _ h=>h) (.inl ⟨F,?va32⟩) Z ?vb32
 case va32=>(intro _ _;go_simp;try with_reducible rfl)
 case vb32=>
 refine cO ?_;refine d_ 32 (v:= .int .i64 b.reason) F au au au (fun _ _ _ h=>h) (.inl ⟨F,?va33⟩) Z ?vb33
 case va33=>(intro E eU;have oz:=(ab.ext ((I E).1 eU)).cell' (ay.oQ R);go_simp;try with_reducible rfl)
 case vb33=>
 refine cO ?_;refine d_ 33 (v:= .bool (b.reason != 0)) F au au au (fun _ _ _ h=>h) (.inl ⟨F,?va34⟩) Z ?vb34
 case va34=>(intro _ _;go_simp;first|with_reducible rfl|done)
 case vb34=>
 refine cO ?_;generalize (b.reason != 0)=ao at aa⊢;refine d_ 34 (v:= .agg #[.string ⟨#[97]⟩,.bool ao]) F au au au (fun _ _ _ h=>h) (.inl ⟨F,?va35⟩) Z ?vb35
 case va35=>(intro _ _;go_simp;try with_reducible rfl)
 case vb35=>
 refine cO ?_;refine d_ 35 (v:= .pointer (some ⟨w.heap.size,54,none⟩)) F au au au (fun _ _ _ h=>h) (.inl ⟨F,?va36⟩) Z ?vb36
 case va36=>(intro _ _;go_simp;try with_reducible rfl)
 case vb36=>
 refine cO ?_;refine d_ 36 (v:= .int .i64 b.need) F au au au (fun _ _ _ h=>h) (.inl ⟨F,?va37⟩) Z ?vb37
 case va37=>(intro E eU;have oz:=(ab.ext ((I E).1 eU)).cell' (ay.xw R);go_simp;try with_reducible rfl)
 case vb37=>
 refine cO ?_;refine d_ 37 (v:= .bool (b.need != 0)) F au au au (fun _ _ _ h=>h) (.inl ⟨F,?va38⟩) Z ?vb38
 case va38=>(intro _ _;go_simp;first|with_reducible rfl|done)
 case vb38=>
 refine cO ?_;generalize (b.need != 0)=ag at aa⊢;refine d_ 38 (v:= .agg #[.string ⟨#[110]⟩,.bool ag]) F au au au (fun _ _ _ h=>h) (.inl ⟨F,?va39⟩) Z ?vb39
 case va39=>(intro _ _;go_simp;try with_reducible rfl)
 case vb39=>
 refine cO ?_;refine d_ 39 (v:= .pointer (some ⟨w.heap.size,57,none⟩)) F au au au (fun _ _ _ h=>h) (.inl ⟨F,?va40⟩) Z ?vb40
 case va40=>(intro _ _;go_simp;try with_reducible rfl)
 case vb40=>
 refine cO ?_;refine d_ 40 (v:= .slice b.ha b.hn b.hc) F au au au (fun _ _ _ h=>h) (.inl ⟨F,?va41⟩) Z ?vb41
 case va41=>(intro E eU;have oz:=(ab.ext ((I E).1 eU)).cell' (ay.xB R);go_simp;try with_reducible rfl)
 case vb41=>
 refine cO ?_;refine d_ 41 (v:= .int .i64 (b.hn:Int)) F au au au (fun _ _ _ h=>h) (.inl ⟨F,?va42⟩) Z ?vb42
 case va42=>(intro _ _;go_simp;try with_reducible rfl)
 case vb42=>
 refine cO ?_;refine d_ 42 (v:= .bool (decide (0<b.hn))) F au au au (fun _ _ _ h=>h) (.inl ⟨F,?va43⟩) Z ?vb43
 case va43=>(intro _ _;go_simp;first|with_reducible rfl|done)
 case vb43=>
 refine cO ?_;generalize (decide (0<b.hn))=ai at aa⊢;refine d_ 43 (v:= .agg #[.string ⟨#[104]⟩,.bool ai]) F au au au (fun _ _ _ h=>h) (.inl ⟨F,?va44⟩) Z ?vb44
 case va44=>(intro _ _;go_simp;try with_reducible rfl)
 case vb44=>
 refine cO ?_;refine d_ 44 (v:= .pointer (some ⟨w.heap.size,55,none⟩)) F au au au (fun _ _ _ h=>h) (.inl ⟨F,?va45⟩) Z ?vb45
 case va45=>(intro _ _;go_simp;try with_reducible rfl)
 case vb45=>
 refine cO ?_;refine d_ 45 (v:= .int .i64 b.version) F au au au (fun _ _ _ h=>h) (.inl ⟨F,?va46⟩) Z ?vb46
 case va46=>(intro E eU;have oz:=(ab.ext ((I E).1 eU)).cell' (ay.xA R);go_simp;try with_reducible rfl)
 case vb46=>
 refine cO ?_;refine d_ 46 (v:= .bool (b.version != 0)) F au au au (fun _ _ _ h=>h) (.inl ⟨F,?va47⟩) Z ?vb47
 case va47=>(intro _ _;go_simp;first|with_reducible rfl|done)
 case vb47=>
 refine cO ?_;generalize (b.version != 0)=aw at aa⊢;refine d_ 47 (v:= .agg #[.string ⟨#[118]⟩,.bool aw]) F au au au (fun _ _ _ h=>h) (.inl ⟨F,?va48⟩) Z ?vb48
 case va48=>(intro _ _;go_simp;try with_reducible rfl)
 case vb48=>
 refine cO ?_;refine d_ 48 (v:= .pointer (some ⟨w.heap.size,56,none⟩)) F au au au (fun _ _ _ h=>h) (.inl ⟨F,?va49⟩) Z ?vb49
 case va49=>(intro _ _;go_simp;try with_reducible rfl)
 case vb49=>
 refine cO ?_;refine d_ 49 (v:= .int .i64 b.count) F au au au (fun _ _ _ h=>h) (.inl ⟨F,?va50⟩) Z ?vb50
 case va50=>(intro E eU;have oz:=(ab.ext ((I E).1 eU)).cell' (ay.Bh R);go_simp;try with_reducible rfl)
 case vb50=>
 refine cO ?_;refine d_ 50 (v:= .bool (b.count != 0)) F au au au (fun _ _ _ h=>h) (.inl ⟨F,?va51⟩) Z ?vb51
 case va51=>(intro _ _;go_simp;first|with_reducible rfl|done)
 case vb51=>
 refine cO ?_;generalize (b.count != 0)=aq at aa⊢;refine d_ 51 (v:= .agg #[.string ⟨#[107]⟩,.bool aq]) F au au au (fun _ _ _ h=>h) (.inl ⟨F,?va52⟩) Z ?vb52
 case va52=>(intro _ _;go_simp;try with_reducible rfl)
 case vb52=>
 refine cO ?_;have ci:=X6 al ad an am ap ax av ao ag ai aw aq;refine aA 54 ?_;refine aZ 52 ?_;intro b' bq;go_wp2_with fail;refine bq _ _ (aJ _ _ Z ((X.refl _).alloc _)) ?_;clear bq b' ci;generalize a3:World.drew (World.alloc w2 _)=ar;have aM:ah ar w2.heap.size (yI [(116,al),(109,ad),(114,an),(108,am),(99,ap),(101,ax),(112,av),(97,ao),(110,ag),(104,ai),(118,aw),(107,aq)]) PT:=by rw[<-a3];exact ah.aI F F
 have ba:X w2 ar:=by rw[<-a3];exact((X.refl w2).alloc _).drew
 replace Z:C ar:=(I _).2 ba;clear a3;refine aH ?_;refine aA 53 ?_;refine dH ?_;obtain⟨cq,bA⟩:=aC ([(116,al),(109,ad),(114,an),(108,am),(99,ap),(101,ax),(112,av),(97,ao),(110,ag),(104,ai),(118,aw),(107,aq)]:List (UInt8×Bool));have aL:=X7 al ad an am ap ax av ao ag ai aw aq;rw[bA]at aM aL;obtain⟨ae,aE⟩:=aC ([al,ad,an,am,ap,ax,av,ao,ag,ai,aw,aq]);rw[aE]at aL;have br:b.set=ae:=by rw[<-aE];exact aa
 have bl:ae.length=12:=by rw[<-aE];rfl
 obtain⟨cb,b1⟩:=aC w2.heap.size;rw[b1]at aM⊢;obtain⟨cl,bB,cf,cj,b5⟩:=dM aM (bk.ext ba) aL br bl;obtain⟨bi,a0⟩:=aC (nX b (lT (K:Int)));have bo:bi=((lT (K:Int)).zip ae).any (fun p=> !p.1&&p.2):=by rw[<-a0,<-cj.out];exact cm
 obtain⟨bO,bz⟩:=aB a0 bo;clear bA aL aE br bl b1 aM ba a0 bo ab bk a4 aa Z aJ I;go_wp2_with fail;go_loopw [64] (fun i wr=>∃k:Nat,k<=12/\i= .int .i64 (k:Int)/\(∀j,j<k->¬(dK (K:Int) j=false/\ae.getD j false=true))/\X ar wr) (fun i _=>12 - (intOf i).toNat)
 case atStart=>exact⟨0,J,F,fun j az=>by omega,X.refl _⟩
 case round=>
  obtain⟨k,hk,rfl,b4,aD⟩:=hrel;obtain⟨aR,ch⟩:=aB b4 aD;clear b4;by_cases ac:k<12
  ·have ck:decide ((k:Int)<(12:Int))=true:=aQ J;have b6:decide (k<12)=true:=aQ ac;have bX:=cl.ext aD;have bj:=cf.out k ac;obtain⟨a7,a6⟩:=aC (ae.getD k false);rw[a6]at bj;have bw:dP wr ((⟨cb,0,none⟩:Addr).add (k*2)) [Value.string ⟨#[jZ k]⟩,.bool a7]:=by
    intro j u af;have az:j<2:=(List.getElem?_eq_some_iff.1 af).1;rw[dn,dn];refine bX.cell' ?_;rw[show 0+k*2+j=2*k+j by omega,X4 bj j az];exact af
   obtain⟨bc,bL,bd⟩:=aW bw a6 (fun w=>bp k w ac);obtain⟨cd,b3⟩:=aC ((⟨#[jZ k]⟩:ByteArray):ByteArray);rw[b3]at bc bd;obtain⟨ca,a2⟩:=aC (dK (K:Int) k);rw[a2]at bd;have bE:=O a2;have bR:X ar (wr.alloc (.cells #[.string cd,.bool a7] PT)):=aD.ext ((X.refl wr).alloc _);have a5:=O bR;clear bw bj a6 bX b3 a2 aD bR;cases a7 with
   |false=>
    go_wp2_with (first|(refine bF F (fP (i:=k) F F F underlying328 Ql ac _) ?_)|(refine bF F (bQ F F bc Qk F) ?_));go_roundw
    case rel=>
     (repeat apply Exists.intro)
     refine⟨?rel2,?fr⟩
     case fr=>rfl
     case rel2=>exact⟨k+1,J,by go_num,fun j az=>by
      by_cases be:j=k
      ·subst be;rw[bL.out];simp
      ·exact aR j J,a5⟩
    case measure=>simp[intOf];omega
   |true=>
    go_wp2_with (first|(refine bF F (fP (i:=k) F F F underlying328 Ql ac _) ?_)|(refine bF F (bQ F F bc Qk F) ?_));refine(bd _).mono ?_;rintro e b9 ⟨rfl,b2⟩;have bm:Hid (X ar b9):=O (b2▸a5.out);clear b2 a5;cases ca with
    |true=>
     go_wp2_with fail;go_roundw
     case rel=>
      (repeat apply Exists.intro)
      refine⟨?rel2,?fr⟩
      case fr=>rfl
      case rel2=>exact⟨k+1,J,by go_num,fun j az=>by
       by_cases be:j=k
       ·subst be;rw[bE.out];simp
       ·exact aR j J,bm⟩
     case measure=>simp[intOf];omega
    |false=>
     have hx:bi=true:=by
      rw[bz.out];exact(Qm b5 (DR _)).2 ⟨k,ac,bE,bL⟩
     have a8:=O (bO.trans hx);clear hx;go_wp2_with fail;go_ret;exact⟨by rw[<-bv.out,a8.out];rfl,bB.ext bm⟩
  ·have ck:decide ((k:Int)<(12:Int))=false:=aP J;have b6:decide (k<12)=false:=aP ac;have hx:bi=false:=by
    rw[bz.out];cases cc:((lT (K:Int)).zip ae).any (fun p=> !p.1&&p.2)with
    |false=>rfl
    |true=>
     obtain⟨j,az,cg,b7⟩:=(Qm b5 (DR _)).1 cc;exact absurd ⟨cg,b7⟩ (aR j J)
   have a8:=O (bO.trans hx);clear hx aD;go_wp2_with fail;go_ret;exact⟨by rw[<-bv.out,a8.out];rfl,bB.ext ch⟩
end Go.Proofs.YtjlhhnkhcbpnjaaGreatDoor
