/- Laws that the row leans on; no condition. -/
import Derived.Test.YtjlhhnkhcbpnjaaGreatDoorJ7
import Derived.Laws.Runes
import Derived.Laws.RangeAny
import Derived.Laws.RangeString
import Derived.Lib.OthersKept
import Derived.Lib.TrimU
import Derived.Deep.LoopGhost
import Derived.WalkMore
import Derived.Laws.IdiomStrings
import Derived.Lib.FrozenHead
namespace Go.Proofs.YtjlhhnkhcbpnjaaGreatDoor
open Go Go.RowKit List Tryz
set_option linter.unusedVariables false
set_option linter.unusedSectionVars false
set_option linter.unusedSimpArgs false
set_option maxHeartbeats 40000000
set_option maxRecDepth 100000
def bZ.r(x:bZ):ay:=⟨x.text,x.member,none,x.roles.length,x.roles.length,x.roles,x.label,x.commit,x.epoch,x.purpose,x.reason,x.need,x.version,x.count,none,x.bH.length,x.bH.length,x.bH⟩
noncomputable def uh(act:Int)(x:bZ):Int:=jS act x.r
theorem Gv{act:Int}{b:ay}(j:b.roles.length=b.rn)(u:b.bH.length=b.hn):jS act b=uh act b.p:=by
 unfold uh jS nX ay.set pJ bZ.r ay.p;simp only[j,u]
noncomputable def kE(f:aj->Int)(act:Int)(l:aj):bZ×Int:=
 if iI act=false then(kD,3)else if 32768<l.length then(kD,5)else
 match jC f (gy act) kD l with
 |none=>(kD,1)
 |some (x,rest)=>if 0<rest.length then(kD,2)else if uh act x=0 then(x,0)else(kD,uh act x)
theorem XC(act:Int)(l:aj)(a:aN)(n c:Nat)(w:World)(an:l.length=n)(cL:n<=c)(hn:n<=140737488355328)(cj:aK w a (l.map Y)):
 Calls prog 156 #[.int .i64 act,.slice a n c] w fun e w'=>∃r:ay,e= .returned (.tuple #[.agg r.v.toArray,.int .i64 (kE jV act l).2])/\r.Fit/\bJ w' w.heap.size r.ra (r.roles.map bM)/\bJ w' w.heap.size r.ha (dB r.bH)/\r.p=(kE jV act l).1/\X w w':=by
 obtain⟨cz,cy⟩:=aB an cj;obtain⟨cS,aa⟩:=aC (kE jV act l);rw[aa];unfold kE at aa;have R:=Pg act;unfold DT at R;obtain⟨bh,bi,bl,ac,bm,ai,ad,ae,bo,bp,bj,bk,az⟩:=JV (DR act);rw[az]at R;have R:=O R;clear cj;go_enter func156,ntmps156;go_upto_region 1 with(fail);generalize bz:World.alloc w _=ag;have cw:ah ag w.heap.size dI.v 101:=by rw[<-bz];exact ah.aI F F
 have cg:X w ag:=by rw[<-bz];exact(X.refl w).alloc _
 obtain⟨aw,aq⟩:=aB cw cg;clear bz cw cg;go_wp2_with fail;refine(Ot act ag).mono ?_;rintro e w2 ⟨rfl,rfl⟩;cases br:iI act with
 |false=>
  rw[br,if_pos F]at aa;subst aa;clear an az R;go_wp2_with (refine bg F _ _ _ F F F aw eP fM (xs:=dI.v) fM (lD dI) ?_);intro a9 ac b2;go_wp2_with fail;exact iy F F ac eP fM F ⟨dI,F,rE,.inl F,.inl F,F,b2.ext aq bG⟩
 |true=>
 rw[br,if_neg aF]at aa;by_cases ao:32768<n
 ·rw[an,if_pos ao]at aa;subst aa;have cF:decide (32768<n)=true:=aQ ao;have cG:decide ((32768:Int)<(n:Int))=true:=aQ J;clear an az R ao;go_wp2_with (refine bg F _ _ _ F F F aw eP fM (xs:=dI.v) fM (lD dI) ?_);intro a9 ac b2;go_wp2_with fail;exact iy F F ac eP fM F ⟨dI,F,rE,.inl F,.inl F,F,b2.ext aq bG⟩
 rw[an,if_neg ao]at aa;have ab:=O aa;have cF:decide (32768<n)=false:=aP ao;have cG:decide ((32768:Int)<(n:Int))=false:=aP J;have ch:(fun i=>[bh,bi,bl,ac,bm,ai,ad,ae,bo,bp,bj,bk].getD i false)=fun i=>dK act i:=by unfold dK;rw[az]
 have co:Gj.filter (fun i=>[bh,bi,bl,ac,bm,ai,ad,ae,bo,bp,bj,bk].getD i false)=gy act:=by rw[ch];exact JR br
 have b9:=O co;clear an az aa ao co ch;go_upto_region 6 with(fail);generalize b0:World.alloc ag _=a1;obtain⟨g,af⟩:=aC ag.heap.size;have cp:ah a1 g [.slice a n c,.bool false] RT:=by rw[<-b0,<-af];exact ah.aI F F
 have ax:X ag a1:=by rw[<-b0];exact(X.refl ag).alloc _
 rw[af];have cV:w.heap.size<g:=by rw[<-af];exact aw.lt
 have cM:g<=a1.heap.size:=by rw[<-af];exact ax.size
 have cq:gI RT g a1 g l false:=by
  refine⟨a,n,c,cp,cz,cL,hn,cM,?_⟩;rcases(cy.ext aq)with a7|⟨b,off,ha,a7⟩
  ·exact .inl a7
  ·by_cases ck:l.map Y=[]
   ·exact .inl ck
   ·obtain⟨u,cN⟩:∃u,(l.map Y)[0]? =some u:=⟨_,List.getElem?_eq_getElem (length_pos_iff.2 ck)⟩;have hb:b<g:=by rw[<-af];exact block_lt_of_cell (a7 0 u cN)
    refine .inr ⟨b,off,ha,hb,J,fun j v cP=>wu (a7 j v cP) (ax.block b (by rw[af];exact hb))⟩
 obtain⟨cb,cd,b5⟩:=aW cq (aw.ext ax) (aq.ext ax);clear b0 cp cq ax aw aq af;go_wp2_with fail;refine(R a1).mono ?_;rintro e a9 ⟨rfl,a6⟩;obtain⟨be,b6⟩:=aB (cd.ext a6) (b5.ext a6);have ci:=cb.ext a6;clear a6 cd b5 cb R;go_wp2_with fail;refine(XB l false bh bi bl ac bm ai ad ae bo bp bj bk g g a9 ci).mono ?_;rintro e b4 ⟨r,cX,cr,rfl,a8,cl,cm,aE,bx,bw⟩;rw[b9.out]at bx;obtain⟨ce,b7,ca,a4,a3⟩:=dM (be.grown bw (by simp;omega)) (b6.grown bw (by simp;omega)) aE bx a8;have bt:w.heap.size+1<=a9.heap.size:=be.lt;obtain⟨b',cc,ar⟩:=aW (cl.lower bt) (cm.lower bt) (show r.v.length=58 by unfold ay.v ay.t;simp[a8.hm,a8.hcm]);have cU:g<b4.heap.size:=aE.lt;clear ci aE bx a8 cl cm bw bt be b6 b9;go_wp2_with (refine bg F _ _ _ F F F (ah.aI (vs:=dI.v) F F) eP fM (xs:=r.v) ar (lD r) ?_);intro ct ai cs;have al:X b4 ct:=cs.ext ((X.refl b4).alloc _) bG;obtain⟨a5,a2,bc,bd⟩:=bU (ce.ext al) (b7.ext al) (b'.ext al) (cc.ext al);have aE:=ca.ext al;have a_:=O ai;clear ai cs al ce b7 ca b' cc;obtain⟨cD,n2,cE,bu,cJ, -,cW, -, -⟩:=aE;have cQ:=bu.cell' (i:=0) (v:= .slice cD n2 cE) F;have k1:=bu.cell' (i:=1) (v:= .bool cr) F;clear bu;cases cr with
 |true=>
  have R:jC jV (gy act) kD l=none:=(a4.2 F).resolve_left aF;have I:=ab.out;rw[R]at I;simp only at I;subst I;clear ab a4 R;go_wp2_with (refine bg F _ _ _ F F F a5 eP fM (xs:=dI.v) fM (lD dI) ?_);intro cv ad b3;go_wp2_with fail;exact iy F F ad eP fM F ⟨dI,F,rE,.inl F,.inl F,F,b3.ext a2 bG⟩
 |false=>
 have cn:=(a4.1 F).2;have I:=ab.out;rw[cn]at I;simp only at I;rw[cJ]at I;clear ab a4 cn;by_cases ap:0<n2
 ·rw[if_pos ap]at I;subst I;have cH:decide (0<n2)=true:=aQ ap;have cI:decide ((0:Int)<(n2:Int))=true:=aQ J;clear ap;go_wp2_with (refine bg F _ _ _ F F F a5 eP fM (xs:=dI.v) fM (lD dI) ?_);intro cv ad b3;go_wp2_with fail;exact iy F F ad eP fM F ⟨dI,F,rE,.inl F,.inl F,F,b3.ext a2 bG⟩
 rw[if_neg ap]at I;have cH:decide (0<n2)=false:=aP ap;have cI:decide ((0:Int)<(n2:Int))=false:=aP J;have bv:=Xr act r;rw[Gv a3.rl a3.hl]at bv;have ba:=O bv;generalize uh act r.p=E at I ba;have ab:=O I;clear bv I ap;go_wp2_with (refine bV F 101 (.tmp 7) F F a_ eP ar ?_);refine(ba ct (a3.ok bc bd)).mono ?_;rintro e cv ⟨rfl,am⟩;obtain⟨cf,b8,cx,cA,cC⟩:=dM (a5.ext am) (a2.ext am) (a_.ext am) (bc.ext am) (bd.ext am);clear am a5 a2 a_ bc bd ba cQ k1;by_cases b1:E=0
 ·subst b1;have I:=ab.out;rw[if_pos F]at I;subst I;clear ab;go_wp2_with (first|(refine bV F 101 (.tmp 7) F F cx eP ar ?_)|(refine bg F _ _ _ F F F cf eP fM (xs:=r.v) ar (lD r) ?_));intro cR ae a0;go_wp2_with fail;exact iy F F ae eP ar F ⟨r,F,a3,(cA.upd a0 (Nat.lt_succ_self _)).lower (Nat.le_succ _),(cC.upd a0 (Nat.lt_succ_self _)).lower (Nat.le_succ _),F,a0.ext b8 bG⟩
 ·have I:=ab.out;rw[if_neg b1]at I;subst I;have cT:(E != 0)=true:=by simpa using b1
  clear ab;go_wp2_with (refine bg F _ _ _ F F F cf eP fM (xs:=dI.v) fM (lD dI) ?_);intro cR ae a0;go_wp2_with fail;exact iy F F ae eP fM F ⟨dI,F,rE,.inl F,.inl F,F,a0.ext b8 bG⟩
def tH:ByteArray:=⟨#[97,98,99,100,101,102,103,104,105,106,107,108,109,110,111,112,113,114,115,116,117,118,119,120,121,122,48,49,50,51,52,53,54,55,56,57,45,46,95]⟩
theorem PV:∀b∈tH.data.toList,b.toNat<128:=aX
theorem XD:∀c:Fin 256,tH.data.toList.any (· ==UInt8.ofNat c.val)=jl (UInt8.ofNat c.val):=by decide+kernel
def uY(r:Nat):Bool:=decide (r<128)&&jl (UInt8.ofNat r)
theorem PW(s:ByteArray)(c:Int)(w:World):
 Calls prog 325 #[.string s,.int .u8 c] w fun e w'=>e= .returned (.int .i64 (firstIdx s c.toNat.toUInt8))/\w=w':=by
 go_enter func325,ntmps325;go_wp2;rw[run_callFunc_extern func328 au au au (e:=Extern.BytealgIndexByte.indexByte) au,run_indexByte_string];simp only[Result.andThen];rw[Oper.upon_value];go_wp2;go_ret;exact⟨F,F⟩
theorem XE(r:Nat)(w:World)(j:r<128):
 Calls prog 291 #[.string tH,.int .i32 (r:Int)] w fun e w'=>e= .returned (.int .i64 (firstIdx tH (UInt8.ofNat r)))/\w=w':=by
 have h:=O (fun w'=>PW tH (r:Int) w');have g1:decide ((0:Int)<=(r:Int))=true:=aQ J;have u:decide ((r:Int)<128)=true:=aQ J;have g3:decide (r<128)=true:=aQ j;have g4:IntKind.u8.wrap (r:Int)=r:=IntWalk.u8_in _ J;go_enter func291,ntmps291;go_wp2_with (first|(go_at_call 325;refine(h _).mono ?_;rintro e w' ⟨rfl,rfl⟩));go_ret;exact⟨F,F⟩
theorem XF(w:World):
 Calls prog 291 #[.string tH,.int .i32 65533] w fun e w'=>e= .returned (.int .i64 (-1))/\X w w':=by
 obtain⟨s,hs⟩:=aC tH;have al:s.size=39:=by rw[<-hs];rfl
 have ae:∀b∈s.data.toList,b.toNat<128:=by rw[<-hs];exact PV
 rw[hs];obtain⟨ao,am⟩:=aB al ae;clear hs al ae;go_enter func291,ntmps291;go_wp2
 go_loopg [] 39 (fun ap wx=>∃j:Nat,wx.heap[w.heap.size]? =some (.stringIter s j)/\Below w.heap.size w wx/\39<=j+ap)
 case atStart=>exact⟨0,World.iter_heap w s 0,(Below.refl _ w).alloc bG _,J⟩
 case round=>
  obtain⟨j,E,R,aw⟩:=hrel;by_cases u:j<s.size
  ·obtain⟨I,rfl⟩:∃I,gk=I+1:=⟨gk - 1,by have:=ao.out;omega⟩;have aa:∀ty,(Instr.next (.pointer (some ⟨w.heap.size,0,none⟩)) true ty).run prog wr=_:=fun ty=>Lib.run_next_any_at wr w.heap.size s j ty E u;have hb:(s[j]'u).toNat<128:=am.out _ (Array.getElem_mem_toList (xs:=s.data) u);have ag:=decode_ascii s j u hb;rw[ag]at aa;simp only at aa;obtain⟨ac,ad⟩:=aC ((s[j]'u).toNat);rw[ad]at aa hb;have ai:=Lib.iterAt_heap wr w.heap.size s j (j+1) E;have af:=Lib.below_iterAt R (k:=w.heap.size) bG s (j+1);obtain⟨an,ab⟩:=aB ai af;have g1:((ac:Int)==65533)=false:=by simp;omega
   have ar:(ac==65533)=false:=by simp;omega
   have aq:39<=(j+1)+I:=J;clear ai af E R ag ad;go_wp2
   go_roundg I
   case measure=>omega
   case rel=>exact⟨j+1,an,ab,aq⟩
  ·have aa:∀ty,(Instr.next (.pointer (some ⟨w.heap.size,0,none⟩)) true ty).run prog wr=_:=fun ty=>Lib.run_next_end_at wr w.heap.size s j ty E u;have ab:=O R;clear E R;go_wp2;go_ret;exact⟨F,ab⟩
theorem XG(r:Nat)(w:World)(R:55296<=r)(aa:r<=57343):
 Calls prog 291 #[.string tH,.int .i32 (r:Int)] w fun e w'=>e= .returned (.int .i64 (-1))/\w=w':=by
 have g1:decide ((0:Int)<=(r:Int))=true:=aQ J;have j:decide ((r:Int)<128)=false:=aP J;have g3:decide (r<128)=false:=aP J;have g4:((r:Int)==65533)=false:=by simp;omega
 have g5:(r==65533)=false:=by simp;omega
 have g6:decide ((r:Int)<55296)=false:=aP J;have u:decide (r<55296)=false:=aP J;have E:decide ((57343:Int)<(r:Int))=false:=aP J;have I:decide (57343<r)=false:=aP J;go_enter func291,ntmps291;go_wp2;go_ret;exact⟨F,F⟩
theorem PX(s:ByteArray)(i:Nat)(h:i<s.size)(w:World):(Instr.index 9 (.string s) (.int .i64 (i:Int))).run prog w= .ok (.int .u8 ((s[i]'h).toNat:Int)) w:=by
 have j:s[i]? =some (s[i]'h):=getElem?_pos s i h;simp[Instr.index,asIntOf,run_underlying underlying9,j]
theorem Kq{o:Oper}{a:Act}{x y:Operand}{s:ByteArray}{i:Nat}{v:Value}(j:o.op= .index 9 x y)(u:a.eval x= .string s)(E:a.eval y= .int .i64 (i:Int))(h:∀w,(Instr.index 9 (.string s) (.int .i64 (i:Int))).run prog w= .ok v w)(w:World):
 (execOp a.eval o).run prog w= .ok (.value v) w:=by
 unfold execOp;simp only[j,u,E,Sem.run_bind,h w,Result.andThen_ok,Sem.run_pure]
theorem XH(s:ByteArray)(i:Nat)(j:i<=s.size)(w:World):(Instr.sliceAt 9 (.string s) (some (.int .i64 (i:Int))) none none).run prog w= .ok (.string (s.extract i s.size)) w:=by
 have u:(0:Int)<=i/\(i:Int)<=s.size:=J;simp[Instr.sliceAt,Instr.slice,Instr.sliceBounds,Instr.sliceBound,asIntOf,run_underlying underlying9,j]
theorem XI{o:Oper}{a:Act}{x y:Operand}{s:ByteArray}{i:Nat}(u:o.op= .slice 9 x (some y) none none)(E:a.eval x= .string s)(I:a.eval y= .int .i64 (i:Int))(j:i<=s.size)(w:World):
 (execOp a.eval o).run prog w= .ok (.value (.string (s.extract i s.size))) w:=by
 unfold execOp;simp only[u,E,I,Option.map_some,Option.map_none,Sem.run_bind,XH s i j w,Result.andThen_ok,Sem.run_pure]
theorem XJ(r:Nat)(w:World)(aa:r<=1114111)(ab:r<55296∨57343<r):
 Calls prog 326 #[.int .i32 (r:Int)] w fun e w'=>e= .returned (.bool true)/\w=w':=by
 have g1:decide ((0:Int)<=(r:Int))=true:=aQ J;by_cases h:r<55296
 ·have g6:decide ((r:Int)<55296)=true:=aQ J;have j:decide (r<55296)=true:=aQ J;go_enter func326,ntmps326;go_wp2;go_ret;exact⟨F,F⟩
 ·have g6:decide ((r:Int)<55296)=false:=aP J;have j:decide (r<55296)=false:=aP J;have I:decide ((57343:Int)<(r:Int))=true:=aQ J;have R:decide (57343<r)=true:=aQ J;have u:decide ((r:Int)<=1114111)=true:=aQ J;have E:decide (r<=1114111)=true:=aQ J;go_enter func326,ntmps326;go_wp2;go_ret;exact⟨F,F⟩
theorem XK(r:Nat)(w:World)(a_:128<=r)(a1:r<=1114111)(ad:r<55296∨57343<r)(a2:r≠65533):
 Calls prog 291 #[.string tH,.int .i32 (r:Int)] w fun e w'=>e= .returned (.int .i64 (-1))/\X w w':=by
 have aq:Utf8.valid (r:Int)=true:=by
  rw[validRune_eq];unfold validRune;exact aQ J
 obtain⟨aE,a0,I⟩:=encode_facts (r:Int) aq J;obtain⟨rs,a5⟩:=aC (Utf8.encode (r:Int));rw[a5]at aE a0 I;obtain⟨m,an⟩:=jE (rs.size - 1);have ab:m<rs.size:=J;have ao:=I J;have ag:128<=(rs[m]'ab).toNat:=by subst an;exact ao
 have bc:((rs.size:Nat):Int) - 1=(m:Int):=J;have aa:=fun w=>PX rs m ab w;obtain⟨s,hs⟩:=aC tH;have ap:s.size=39:=by rw[<-hs];rfl
 have R:∀b∈s.data.toList,b.toNat<128:=by rw[<-hs];exact PV
 have E:m<s.size:=J;have al:=fun w=>PX s m E w;have hb:(s[m]'E).toNat<128:=R _ (Array.getElem_mem_toList (xs:=s.data) E);obtain⟨c,hc⟩:=aC ((rs[m]'ab));obtain⟨b,af⟩:=aC ((s[m]'E).toNat);rw[hc]at aa ag;rw[af]at al hb;have ba:=c.toNat_lt;obtain⟨am,a4⟩:=aB (fun a e w'=>PW (s.extract a e) (c.toNat:Int) w') (fun a e=>firstIdx_ascii s a e c R ag);have ai:((c.toNat:Int)).toNat.toUInt8=c:=aF;rw[ai]at am;rw[hs];obtain⟨a8,a6⟩:=aB ap (fun w'=>XJ r w' a1 ad);clear hs R ao I an hc af ap ad aq ai;have g1:decide ((0:Int)<=(r:Int))=true:=aQ J;have a9:decide ((r:Int)<128)=false:=aP J;have g3:decide (r<128)=false:=aP J;have g4:((r:Int)==65533)=false:=by simp;omega
 have g5:(r==65533)=false:=by simp[a2]
 go_enter func291,ntmps291;go_wp2_with (first|(go_at_call 326;refine(a6 _).mono ?_;rintro e w' ⟨rfl,rfl⟩))
 go_step3
 go_wp2_with fail;go_loopw [9] (fun x wr=>x= .int .i64 (m:Int)/\wr=w) (fun _ _=>0)
 case atStart=>exact⟨F,F⟩
 case round=>
  obtain⟨rfl,rfl⟩:=hrel;have k1:decide ((m:Int)<(s.size:Int))=true:=aQ J;have k2:decide (m<s.size)=true:=aQ E;have k3:((b:Int) != (c.toNat:Int))=true:=by simp;omega
  have k4:(b != c.toNat)=true:=by simp;omega
  go_wp2_with fail
  go_step3
  go_wp2_with fail;obtain⟨C,u,aJ⟩:=jJ wr;refine wp_region_held_drew (S:=C) au ((u _).2 (X.refl wr).drew) (fun Z=> ?_);refine aA 0 ?_;refine aA 1 ?_;refine bD 2 F (bf F (fun j _=>Kq F F F al j)) ?_;refine aA 3 ?_;refine aA 4 ?_;refine bD 5 F (bf F (fun j _=>Kq F F F aa j)) ?_;refine aA 6 ?_;have az:X wr wr.drew:=(X.refl wr).drew;generalize wr.drew=ac at*;refine dH ?_;clear Z aJ u C;go_wp2_with fail;obtain⟨C,u,aJ⟩:=jJ ac;refine wp_region_held_drew (S:=C) au ((u _).2 (X.refl ac).drew) (fun Z=> ?_);have a7:IntKind.i64.wrap ((m:Int)+1)=((m+1:Nat):Int):=by rw[IntWalk.i64_in _ J];omega
  have a3:m+1<=s.size:=J;generalize m+1=ar at*;refine aA 0 ?_;refine aA 1 ?_;refine aA 2 ?_;refine bD 3 F (bf F (fun j _=>XI (i:=ar) F F F a3 j)) ?_;refine aA 4 ?_;refine aA 5 ?_;refine bD 6 F (bf F (fun j _=>Kq F F F aa j)) ?_;clear a7;generalize ac.drew=bd at*;refine aZ 7 ?_;intro ax ae;go_wp2_with fail;refine(am ar s.size _).mono ?_;rintro e be ⟨rfl,rfl⟩;go_wp2_with fail;refine ae _ _ Z ?_;clear ae ax;refine aH ?_;rw[a4.out];refine aA 8 ?_;refine dH ?_;have aw:=O (az.ext ((u _).1 Z));clear Z aJ u C;go_wp2_with fail;rw[Exit.noGoto_ret];go_wp2_with fail;rw[Exit.noGoto_ret];go_ret;exact⟨F,aw⟩
theorem PY{c:UInt8}(h:128<=c.toNat):jl c=false:=by
 unfold jl;simp;omega
theorem PZ{r:Nat}(h:r<128):uY r=jl (UInt8.ofNat r):=by
 unfold uY;rw[aQ h,Bool.true_and]
theorem Gw{r:Nat}(h:128<=r):uY r=false:=by
 unfold uY;rw[aP J,Bool.false_and]
theorem XL(c:UInt8)(h:c.toNat<128):uY c.toNat=jl c:=by
 rw[PZ h,UInt8.ofNat_toNat]
theorem XM(r:Nat)(w:World)(h:r<=1114111):
 Calls prog 291 #[.string tH,.int .i32 (r:Int)] w fun e w'=>∃z:Int,e= .returned (.int .i64 z)/\decide (0<=z)=uY r/\X w w':=by
 by_cases u:r<128
 ·refine(XE r w u).mono ?_;rintro e w' ⟨rfl,rfl⟩;refine⟨_,F,?_,X.refl _⟩;rw[firstIdx_nonneg,PZ u];have:=XD ⟨r,J⟩;exact this
 ·by_cases E:r=65533
  ·subst E;refine(XF w).mono ?_;rintro e w' ⟨rfl,j⟩;exact⟨_,F,by rw[Gw J];rfl,j⟩
  ·by_cases I:55296<=r/\r<=57343
   ·refine(XG r w I.1 I.2).mono ?_;rintro e w' ⟨rfl,rfl⟩;exact⟨_,F,by rw[Gw J];rfl,X.refl _⟩
   ·refine(XK r w J h J E).mono ?_;rintro e w' ⟨rfl,j⟩;exact⟨_,F,by rw[Gw J];rfl,j⟩
theorem XO(r:Nat)(w:World)(h:r<=1114111):
 Calls prog 235 #[.string tH,.int .i32 (r:Int)] w fun e w'=>e= .returned (.bool (uY r))/\X w w':=by
 have u:=O (fun w'=>XM r w' h);generalize uY r=R at*;generalize tH=s at*;go_enter func235,ntmps235;go_wp2_with fail;refine(u w).mono ?_;rintro e aa ⟨z,rfl,I,j⟩;have E:=O j;clear j u;go_wp2_with fail;go_ret;exact⟨by first|rfl|rw[I],E⟩
theorem XP(r:Nat)(w:World)(h:r<=1114111):
 Calls prog 234 #[.int .i32 (r:Int)] w fun e w'=>e= .returned (.bool (!uY r))/\X w w':=by
 have u:=O (fun w'=>XO r w' h);generalize uY r=I at*;go_enter func234,ntmps234;go_wp2_with fail;refine(u w).mono ?_;rintro e R ⟨rfl,j⟩;have E:=O j;clear j u;go_wp2_with fail;go_ret;exact⟨F,E⟩
def Eb:Value:= .func (.func 234) #[] #[]
theorem XQ(s:ByteArray)(w:World):
 Calls prog 324 #[.string s,Eb,.bool true] w fun e w'=>∃z:Int,e= .returned (.int .i64 z)/\decide (0<=z)= !(s.data.toList.all jl)/\X w w':=by
 obtain⟨N,am⟩:=aC s.size;have a6:s.data.toList.length=N:=by rw[<-am,Array.length_toList];rfl
 obtain⟨bd,a0⟩:=aB a6 am;clear a6 am;unfold Eb;go_enter func324,ntmps324;go_wp2
 go_loopg [] N (fun bh wx=>∃j:Nat,wx.heap[w.heap.size]? =some (.stringIter s j)/\Below w.heap.size w wx/\Hid ((s.data.toList.take j).all jl=true)/\N<=j+bh)
 case atStart=>exact⟨0,World.iter_heap w s 0,(Below.refl _ w).alloc bG _,O aF,J⟩
 case round=>
  obtain⟨j,ac,ae,an,bl⟩:=hrel;by_cases u:j<s.size
  ·have bm:j<N:=by rw[<-a0.out];exact u
   obtain⟨al,rfl⟩:∃al,gk=al+1:=⟨gk - 1,J⟩;have ar:∀ty,(Instr.next (.pointer (some ⟨w.heap.size,0,none⟩)) true ty).run prog wr=_:=fun ty=>Lib.run_next_any_at wr w.heap.size s j ty ac u;have ag:=Lib.rune_le s j;have hc:s.data.toList[j]? =some (s[j]'u):=by rw[Array.getElem?_toList];exact Array.getElem?_eq_getElem u
   obtain⟨a1,E⟩:=aC ((Utf8.decode s j).1);obtain⟨K,aa⟩:=aC ((Utf8.decode s j).2);have a7:uY a1=jl (s[j]'u)/\(jl (s[j]'u)=true->K=1):=by
    by_cases hb:(s[j]'u).toNat<128
    ·have bj:=decode_ascii s j u hb;rw[bj]at E aa;simp only at E aa;rw[<-E];exact⟨XL _ hb,fun _=>aa.symm⟩
    ·have a4:=(decode_high s j u J).1;rw[E]at a4;refine⟨by rw[Gw a4,PY J],fun h=> ?_⟩;rw[PY J]at h;cases h
   rw[E]at ar ag;rw[aa]at ar;obtain⟨b,hb⟩:=aC ((s[j]'u));rw[hb]at a7 hc;obtain⟨ad,aw⟩:=a7;have aq:=Lib.iterAt_heap wr w.heap.size s j (j+K) ac;have ap:=Lib.below_iterAt ae (k:=w.heap.size) bG s (j+K);obtain⟨aE,I,ab,az⟩:=bU aq ap (fun w'=>XP a1 w' ag) hc;generalize wr.iterAt w.heap.size s (j+K)=ax at*;have bk:w.heap.size<ax.heap.size:=(Array.getElem?_eq_some_iff.1 aE).1;cases af:jl b with
   |true=>
    rw[af]at ad;have bi:=aw af;subst bi;rw[ad]at ab;have a8:(s.data.toList.take (j+1)).all jl=true:=by
     rw[take_add_one,az.out,all_append,an.out];simp[af]
    have be:=O a8;clear ac ae aq ap E aa ad aw hc a8 hb ag;go_wp2_with fail;refine(ab ax).mono ?_;rintro e a9 ⟨rfl,R⟩;have a5:a9.heap[w.heap.size]? =some (.stringIter s (j+1)):=by rw[R.block _ bk];exact aE
    obtain⟨bc,ai⟩:=aB a5 (I.trans (R.mono I.size));clear R a5 ab;go_wp2_with fail
    go_roundg al
    case measure=>omega
    case rel=>exact⟨j+1,bc,ai,be,J⟩
   |false=>
    rw[af]at ad;rw[ad]at ab;have a2:s.data.toList.all jl=false:=by
     rw[all_eq_false];exact⟨b,mem_of_getElem? az,by rw[af];simp⟩
    have ba:=O a2;clear ac ae aq ap E aa ad aw hc a2 hb ag;go_wp2_with fail;refine(ab ax).mono ?_;rintro e a9 ⟨rfl,R⟩;have ai:=O (I.trans (R.mono I.size));clear R ab;go_wp2_with fail;go_ret;exact⟨_,F,by rw[ba.out];exact aQ J,ai⟩
  ·have ar:∀ty,(Instr.next (.pointer (some ⟨w.heap.size,0,none⟩)) true ty).run prog wr=_:=fun ty=>Lib.run_next_end_at wr w.heap.size s j ty ac u;have a3:s.data.toList.take j=s.data.toList:=take_of_length_le (by rw[bd.out];have:=a0.out;omega);have ao:=an.out;rw[a3]at ao;obtain⟨a_,I⟩:=aB ao ae;clear ac ae an ao a3;go_wp2_with fail;go_ret;exact⟨_,F,by rw[a_.out];rfl,I⟩
theorem XR(s:ByteArray)(w:World):
 Calls prog 233 #[.string s,Eb] w fun e w'=>e= .returned (.bool (!(s.data.toList.all jl)))/\X w w':=by
 have I:=O (fun w'=>XQ s w');generalize s.data.toList.all jl=b at*;generalize Eb=ab at*;have R:Hid (∀w,Calls prog 290 #[.string s,ab] w fun e w'=>∃z:Int,e= .returned (.int .i64 z)/\decide (0<=z)=(!b)/\X w w'):=by
  refine O fun w=> ?_;go_enter func290,ntmps290;go_wp2_with fail;refine(I w).mono ?_;rintro e ac ⟨z,rfl,u,j⟩;obtain⟨E,aa⟩:=aB j u;clear j I u;go_wp2_with fail;go_ret;exact⟨z,F,aa,E⟩
 clear I;go_enter func233,ntmps233;go_wp2_with fail;refine(R w).mono ?_;rintro e ac ⟨z,rfl,u,j⟩;have E:=O j;clear j R;go_wp2_with fail;go_ret;exact⟨by first|rfl|rw[u],E⟩
theorem Ec(s:ByteArray)(w:World)(hn:s.size<=9223372036854775807):
 Calls prog 186 #[.string s] w fun e w'=>e= .returned (.bool (jK s.data.toList))/\X w w':=by
 have hc:=O (fun w'=>XR s w');obtain⟨n,ab⟩:=aC s.size;have u:s.data.toList.length=n:=by rw[<-ab,Array.length_toList];rfl
 obtain⟨ai,j⟩:=aC (jK s.data.toList);rw[j];unfold jK at j;have R:s.data.toList.isEmpty=decide (n=0):=by
  rw[Bool.eq_iff_iff,isEmpty_iff,decide_eq_true_eq,<-u,length_eq_zero_iff]
 have E:s=ByteArray.empty↔n=0:=by
  constructor
  ·rintro rfl;rw[<-ab];rfl
  ·intro h;have:s.data.toList=[]:=length_eq_zero_iff.1 (by rw[u];exact h);cases s with
   |mk d=>cases d with
    |mk l=>simp at this;subst this;rfl
 rw[R,u]at j;generalize s.data.toList.all jl=b at*;by_cases I:n=0
 ·have hs:=E.2 I;subst hs;subst I;simp at j;subst j;clear hc E R u ab;go_enter func186,ntmps186;go_wp2;go_ret;exact⟨F,X.refl _⟩
 ·have ag:¬s=ByteArray.empty:=fun h=>I (E.1 h);have ae:s.toList.isEmpty=false:=by
   have:=decide_eq_emptyBytes s;rw[aP ag]at this;exact this.symm
  have al:¬s.toList=[]:=by
   intro h;rw[h]at ae;cases ae
  rw[aP I]at j;by_cases ad:n<=32
  ·have g1:decide ((n:Int)<=32)=true:=aQ J;have aa:decide (n<=32)=true:=aQ ad;rw[aa]at j;simp at j;subst j;clear E R u;unfold Eb at hc;go_enter func186,ntmps186;go_wp2_with fail;refine(hc w).mono ?_;rintro e am ⟨rfl,ac⟩;have af:=O ac;clear ac hc;go_wp2_with fail;go_ret;exact⟨by first|rfl|simp,af⟩
  ·have g1:decide ((n:Int)<=32)=false:=aP J;have aa:decide (n<=32)=false:=aP ad;rw[aa]at j;simp at j;subst j;clear hc E R u;go_enter func186,ntmps186;go_wp2;go_ret;exact⟨F,X.refl _⟩
theorem Bz{P:Program}{ops:Array Oper}{rest:List Oper}{o:Oper}{a:Act}{w w':World}{Q:Exit->Act->World->Prop}{v:Value}(u:o.guard=none)(E:(execOp a.eval o).run P w= .ok (.value v) w')(h:wpList P ops Q rest (a.put o.dst v) w'):wpList P ops Q (o::rest) a w:=
 wpList_plain u fun K j=>by
  unfold Oper.wp;rw[E,Oper.upon_value];exact j _ _ h
theorem P5{o:Oper}{a:Act}{x:Operand}{s:ByteArray}(j:o.op= .convert 9 32 x)(u:a.eval x= .string s)(w:World):
 (execOp a.eval o).run prog w= .ok (.value (.slice (some ⟨w.heap.size,0,none⟩) s.size (grownCap w s.size 0 5)))
  (w.drew.alloc (.cells (bytesRow s (grownCap w s.size 0 5)) 5 ((bytesRow s (grownCap w s.size 0 5)).size,(bytesRow s (grownCap w s.size 0 5)).size+1))):=by
 unfold execOp;simp only[j,u,Sem.run_bind,run_bytes_of_string w _ _ _ s underlying9 underlying32 underlying5,Result.andThen_ok,Sem.run_pure]
theorem P6(s:ByteArray)(c:Nat)(w:World)(z:Nat×Nat):aK (w.drew.alloc (.cells (bytesRow s c) 5 z)) (some ⟨w.heap.size,0,none⟩) (s.data.toList.map Y):=by
 refine .inr ⟨w.heap.size,0,F,fun i u j=> ?_⟩;have I:i<s.data.size:=by
  have:=(List.getElem?_eq_some_iff.1 j).1;rw[length_map,Array.length_toList]at this;exact this
 have E:(w.drew.alloc (.cells (bytesRow s c) 5 z)).heap[w.heap.size]? =some (.cells (bytesRow s c) 5 z):=by
  show(w.heap.push _)[w.heap.size]? =_;simp
 rw[Nat.zero_add];have hb:(bytesRow s c)[i]? =some u:=by
  unfold bytesRow;rw[Array.getElem?_append_left (by simpa using I),Array.getElem?_map];rw[List.getElem?_map,Array.getElem?_toList]at j;exact j
 simp only[World.cell?,E];exact hb
def h_(w:World)(base:Nat)(v:Value)(n:Nat)(xs:aj):Prop:=
 xs.length=n/\((v= .slice none 0 0/\n=0)∨
  ∃g j cu u,v= .slice (some ⟨g,0,none⟩) n j/\base<=g/\w.heap[g]? =some (.cells cu 5 u)/\(u.2=0∨j<=u.1)/\n<=j/\j<=maxLen/\cu.size=j/\cu.toList.take n=xs.map Y)
theorem h_.of{w:World}{base:Nat}{v:Value}{n:Nat}{xs:aj}(h:w.ownsRow base 5 1 v n (xs.map Y)):h_ w base v n xs:=by
 obtain⟨u,h⟩:=h;rw[length_map,Nat.mul_one]at u;refine⟨u,?_⟩;rcases h with h|⟨g,E,cu,I,R,aa,ab,ac,ad,j⟩
 ·exact .inl h
 ·exact .inr ⟨g,E,cu,(0,0),I,R,aa,.inl F,ab,ac,J,by rw[Nat.mul_one]at j;exact j⟩
theorem h_.turn{w w':World}{B:Nat}{v:Value}{n:Nat}{xs:aj}(h:h_ w B v n xs)(k:∀i,B<=i->i<w.heap.size->w'.heap[i]? =w.heap[i]?):h_ w' B v n xs:=by
 refine⟨h.1,?_⟩;rcases h.2 with h|⟨g,E,cu,I,R,j,u,aa⟩
 ·exact .inl h
 ·exact .inr ⟨g,E,cu,I,R,j,(k g j (Array.getElem?_eq_some_iff.1 u).1).trans u,aa⟩
theorem h_.ext{w w':World}{B:Nat}{v:Value}{n:Nat}{xs:aj}(h:h_ w B v n xs)(e:X w w'):h_ w' B v n xs:=h.turn fun i _ j=>e.block i j
theorem h_.lower{w:World}{B B':Nat}{v:Value}{n:Nat}{xs:aj}(h:h_ w B v n xs)(hb:B'<=B):h_ w B' v n xs:=by
 refine⟨h.1,?_⟩;rcases h.2 with h|⟨g,j,cu,u,E,I,R⟩
 ·exact .inl h
 ·exact .inr ⟨g,j,cu,u,E,Nat.le_trans hb I,R⟩
theorem h_.pK{w:World}{B:Nat}{v:Value}{n:Nat}{xs:aj}(h:h_ w B v n xs):∀g,v.ownBlock=some g->B<=g:=by
 intro g j;rcases h.2 with⟨rfl,_⟩|⟨I,u,cu,E,rfl,hb,_⟩
 ·cases j
 ·simp[Value.ownBlock]at j;omega
theorem h_.slice{w:World}{B:Nat}{v:Value}{n:Nat}{xs:aj}(h:h_ w B v n xs):
 ∃a c,v= .slice a n c/\n<=c/\c<=maxLen/\(a=none->c=0)/\aK w a (xs.map Y):=by
 obtain⟨ae,h⟩:=h;rcases h with⟨rfl,rfl⟩|⟨g,E,cu,I,rfl,hb,ac,af,R,aa,ag,ab⟩
 ·refine⟨none,0,F,Nat.le_refl _,by unfold maxLen;omega,fun _=>rfl,.inl ?_⟩;rw[length_eq_zero_iff.1 ae];rfl
 ·refine⟨_,E,F,R,aa,(fun h=>by cases h),.inr ⟨g,0,F,fun i u j=> ?_⟩⟩;rw[<-ab]at j;have ad:i<n:=by
   have:=(List.getElem?_eq_some_iff.1 j).1;simp only[length_take]at this;omega
  rw[List.getElem?_take_of_lt ad]at j;rw[Nat.zero_add,cell_of_row w g i cu _ I ac];simpa using j
theorem Kr(P:Program)(g o:Nat)(t:TypeId)(fz:Nat×Nat):∀(vs:aO) (i:Nat) (cu:Array Value) (w:World),w.heap[g]? =some (.cells cu t fz)->(fz.2=0∨o+i+vs.length<=fz.1)->o+i+vs.length<=cu.size->(∀v∈vs,v.oneCell'=true)->
 (storeCells ⟨g,o,none⟩ vs i).run P w= .ok () (w.setRow g (cu.toList.take (o+i)++vs++cu.toList.drop (o+i+vs.length)).toArray)
 |[],i,cu,w,hg,_,_,_=>by
  simp only[storeCells,append_nil,length_nil,Nat.add_zero,take_append_drop,Array.toArray_toList];rw[setRow_self w g cu t fz hg];rfl
 |v::rest,i,cu,w,hg,vN,hl,h1=>by
  have hi:o+i<cu.size:=by simp at hl;omega
  have j:(⟨g,o,none⟩:Addr).add i=⟨g,o+i,none⟩:=by unfold Addr.add;split<;>simp_all
  have u:w.cell? ⟨g,o+i,none⟩=some cu[o+i]:=by simp[World.cell?,hg,hi]
  have E:w.frozen? ⟨g,o+i,none⟩=false:=by
   obtain⟨ac,ab⟩:=fz;simp only[World.frozen?,hg,Bool.and_eq_false_iff,decide_eq_false_iff_not];simp only[length_cons]at vN;omega
  have I:(store ((⟨g,o,none⟩:Addr).add i) v).run P w= .ok () (w.setRow g (cu.setIfInBounds (o+i) v)):=by
   rw[j,run_store P w _ v _ (h1 v aF),u];simp[E,setCell_eq_setRow w g (o+i) cu t fz v hg]
  have aa:=Kr P g o t fz rest (i+1) (cu.setIfInBounds (o+i) v) (w.setRow g (cu.setIfInBounds (o+i) v)) (setRow_heap w g cu _ t _ hg) (by simp only[length_cons]at vN;omega) (by simp at hl⊢;omega) (fun x R=>h1 x (by simp[R]));simp only[storeCells,Sem.run_bind,I,Result.andThen_ok,aa,setRow_setRow]
  congr 3
  have e:=list_seg_step cu.toList (o+i) v rest (by simp at hl⊢;omega);simpa[Array.toList_setIfInBounds,Nat.add_assoc]using e
theorem P7{w:World}{base g j n:Nat}{cu:Array Value}{u:Nat×Nat}{xs ys:aj}(E:xs.length=n)(hb:base<=g)(R:w.heap[g]? =some (.cells cu 5 u))(vN:u.2=0∨j<=u.1)(I:j<=maxLen)(ab:cu.size=j)(ht:cu.toList.take n=xs.map Y)(aa:n+ys.length<=j):
 h_ (w.setRow g (cu.toList.take n++ys.map Y++cu.toList.drop (n+ys.length)).toArray) base (.slice (some ⟨g,0,none⟩) (n+ys.length) j) (n+ys.length) (xs++ys):=by
 refine⟨by rw[length_append,E],.inr ⟨g,j,_,u,F,hb,setRow_heap w g cu _ _ _ R,vN,aa,I,?_,?_⟩⟩
 ·simp only[size_toArray,length_append,length_take,length_drop,Array.length_toList,length_map];omega
 ·rw[ht,<-map_append];have:(List.map Y (xs++ys)).length=n+ys.length:=by rw[length_map,length_append,E]
  exact take_left' this
theorem P8(w:World)(g:Nat)(cs:Array Value):w.grownBy (w.setRow g cs) (some g):=⟨F,F,F,aF,fun k _ hk=>setRow_other w g k _ (fun e=>hk (by rw[e]))⟩
theorem XT(w:World)(base:Nat)(ty:TypeId){v:Value}{n m c:Nat}{xs ys:aj}{y:Addr}(E:h_ w base v n xs)(I:ys.length=m)(hc:∀j u,(ys.map Y)[j]? =some u->w.cell? (y.add j)=some u)(hb:n+m<=140737488355328)(ad:base<=w.heap.size):
 ∃v' w',(Builtin.append_ #[32,32] ty #[v,.slice (some y) m c]).run prog w= .ok v' w'/\h_ w' base v' (n+m) (xs++ys)/\w.grownBy w' v.ownBlock:=by
 obtain⟨al,hi,ai,aa,ac⟩:=info_parts xu;rcases E.2 with⟨rfl,rfl⟩|⟨g,R,cu,fz,rfl,ao,hg,vN,a2,ap,ar,aE⟩
 ·have a0:xs=[]:=length_eq_zero_iff.1 E.1;subst a0;obtain⟨v',w',h1,am,an,_⟩:=run_append_own (P:=prog) w base 32 ty 5 al _ 1 1 underlying32 hi ai aa ac F aX (.slice none 0 0) 0 [] (World.ownsRow_nil w base _ 1) y m c (ys.map Y) (by rw[length_map,I,Nat.mul_one]) hc (b_ _) (by unfold maxLen;omega) J ad;exact⟨v',w',h1,h_.of (by simpa using am),an⟩
 ·by_cases af:n+m<=R
  ·subst I;have hf:=run_firstCells_some (P:=prog) w 1 ys.length y ys.length c (ys.map Y) (by rw[length_map,Nat.mul_one]) hc;have ag:=Kr prog g n 5 fz (ys.map Y) 0 cu w hg (by rw[length_map];omega) (by rw[length_map];omega) (b_ _);simp only[Nat.add_zero,length_map]at ag;refine⟨_,_,?_,P7 E.1 ao hg vN ap ar aE af,P8 w g _⟩;simp[Builtin.append_,run_underlying underlying32,sizeOf,typeInfo,hi,aa,Builtin.lenOf,af,hf,Addr.add_lit,ag]
  ·obtain⟨a',c',ab,_,_,_,ae⟩:=E.slice;injection ab with ab _ _;have ax:∀j u,(xs.map Y)[j]? =some u->w.cell? ((⟨g,0,none⟩:Addr).add j)=some u:=by
    rw[<-ab]at ae;exact wX ae
   have az:=run_append_grow (P:=prog) w 32 ty 5 al _ underlying32 hi ai ⟨g,0,none⟩ n R (xs.map Y) (by rw[aa,length_map,E.1,Nat.mul_one]) ax y m c (ys.map Y) (by rw[aa,length_map,I,Nat.mul_one]) hc J J (by rw[ac];exact growslice_fits J J);have aw:=grownCap_ge w (n+m) R 5;have aq:grownCap w (n+m) R 5<=maxLen:=grownCap_le_maxLen w (n+m) R _ (by unfold maxLen;omega);refine⟨_,_,az,⟨by rw[length_append,E.1,I],.inr ⟨w.heap.size,_,_,(0,0),F,ad,heap_alloc_new w.drew _,.inl F,aw,aq,?_,?_⟩⟩,⟨F,F,F,aF,fun k hk _=>((X.refl w.drew).alloc _).block k hk⟩⟩
   ·have a1:(Value.int IntKind.u8 0).cells.size=1:=F;simp only[Array.size_append,size_toArray,size_zeroCells,a1,length_map,E.1,I];omega
   ·simp only[Array.toList_append,append_assoc];rw[<-append_assoc,<-map_append];exact take_left' (by rw[length_map,length_append,E.1,I])
theorem Kt(s:ByteArray):Lib.strCells s=s.data.toList.map Y:=F
theorem XU(w:World)(base:Nat)(ty:TypeId){v:Value}{n:Nat}{xs:aj}(s:ByteArray)(E:h_ w base v n xs)(hb:n+s.size<=140737488355328)(ad:base<=w.heap.size):
 ∃v' w',(Builtin.append_ #[32,9] ty #[v,.string s]).run prog w= .ok v' w'/\h_ w' base v' (n+s.size) (xs++s.data.toList)/\w.grownBy w' v.ownBlock:=by
 obtain⟨am,hi,al,aa,ac⟩:=info_parts xu;have R:s.data.toList.length=s.size:=by rw[Array.length_toList];rfl
 rcases E.2 with⟨rfl,rfl⟩|⟨g,I,cu,fz,rfl,ap,hg,vN,a3,aq,aw,a0⟩
 ·have a1:xs=[]:=length_eq_zero_iff.1 E.1;subst a1;obtain⟨v',w',h1,an,ao,_⟩:=Lib.run_append_own_string (P:=prog) w base 32 9 ty 5 am underlying32 underlying9 hi al aa ac (.slice none 0 0) 0 [] (World.ownsRow_nil w base _ 1) s (by unfold maxLen;omega) J ad;exact⟨v',w',h1,h_.of (by simpa[Kt]using an),ao⟩
 ·by_cases ag:n+s.size<=I
  ·have hf:=Lib.run_firstCells_string (P:=prog) w 1 s;have ai:=Kr prog g n 5 fz (Lib.strCells s) 0 cu w hg (by rw[Lib.strCells_length];omega) (by rw[Lib.strCells_length];omega) (Lib.strCells_oneCell s);simp only[Nat.add_zero,Lib.strCells_length]at ai;have af:=P7 (ys:=s.data.toList) E.1 ap hg vN aq aw a0 (by rw[R];exact ag);rw[R,<-Kt]at af;refine⟨_,_,?_,af,P8 w g _⟩;simp[Builtin.append_,run_underlying underlying32,run_underlying underlying9,sizeOf,typeInfo,hi,aa,Builtin.lenOf,ag,hf,Addr.add_lit,ai]
  ·obtain⟨a',c',ab,_,_,_,ae⟩:=E.slice;injection ab with ab _ _;have az:∀j u,(xs.map Y)[j]? =some u->w.cell? ((⟨g,0,none⟩:Addr).add j)=some u:=by
    rw[<-ab]at ae;exact wX ae
   have aE:=Lib.run_append_grow_string (P:=prog) w 32 9 ty 5 am _ underlying32 underlying9 hi al ⟨g,0,none⟩ n I (xs.map Y) (by rw[aa,length_map,E.1,Nat.mul_one]) az s J J (by rw[ac];exact growslice_fits J J);have ax:=grownCap_ge w (n+s.size) I 5;have ar:grownCap w (n+s.size) I 5<=maxLen:=grownCap_le_maxLen w (n+s.size) I _ (by unfold maxLen;omega);refine⟨_,_,aE,⟨by rw[length_append,E.1,R],.inr ⟨w.heap.size,_,_,(0,0),F,ad,heap_alloc_new w.drew _,.inl F,ax,ar,?_,?_⟩⟩,⟨F,F,F,aF,fun k hk _=>((X.refl w.drew).alloc _).block k hk⟩⟩
   ·have a2:(Value.int IntKind.u8 0).cells.size=1:=F;simp only[Array.size_append,size_toArray,size_zeroCells,a2,length_map,E.1,Lib.strCells_length];omega
   ·simp only[Array.toList_append,append_assoc];rw[<-append_assoc,Kt,<-map_append];exact take_left' (by rw[length_map,length_append,E.1,R])
theorem uj{ops:Array Oper}{rest:List Oper}{o:Oper}{a:Act}{w:World}{Q:Exit->Act->World->Prop}(ab:o.guard=none)(s x:Operand)
 (ad:o.op= .call {callee:= .builtin .append,args:= #[s,x],argTypes:= #[32,32]})(base:Nat){v:Value}{n m c:Nat}{xs ys:aj}{y:Addr}
 (hs:a.eval s=v)(ag:a.eval x= .slice (some y) m c)(ae:h_ w base v n xs)(ac:ys.length=m)(hc:∀j u,(ys.map Y)[j]? =some u->w.cell? (y.add j)=some u)
 (hb:n+m<=140737488355328)(aa:base<=w.heap.size)
 (h:∀v' w',h_ w' base v' (n+m) (xs++ys)->w.grownBy w' v.ownBlock->wpList prog ops Q rest (a.put o.dst v') w'):wpList prog ops Q (o::rest) a w:=by
 obtain⟨v',w',af,E,I⟩:=XT w base o.type (c:=c) ae ac hc hb aa;exact wpList_plain ab fun K R=>Lib.wp_append_run w s x _ _ ad v _ hs ag v' w' af (R _ _ (h v' w' E I))
theorem P9{ops:Array Oper}{rest:List Oper}{o:Oper}{a:Act}{w:World}{Q:Exit->Act->World->Prop}(aa:o.guard=none)(j x:Operand)
 (ab:o.op= .call {callee:= .builtin .append,args:= #[j,x],argTypes:= #[32,9]})(base:Nat){v:Value}{n:Nat}{xs:aj}{s:ByteArray}
 (hs:a.eval j=v)(ae:a.eval x= .string s)(ac:h_ w base v n xs)
 (hb:n+s.size<=140737488355328)(R:base<=w.heap.size)
 (h:∀v' w',h_ w' base v' (n+s.size) (xs++s.data.toList)->w.grownBy w' v.ownBlock->wpList prog ops Q rest (a.put o.dst v') w'):wpList prog ops Q (o::rest) a w:=by
 obtain⟨v',w',ad,u,E⟩:=XU w base o.type s ac hb R;exact wpList_plain aa fun K I=>Lib.wp_append_run w j x _ _ ab v _ hs ae v' w' ad (I _ _ (h v' w' u E))
theorem Gx(sq:List Nat)(i:Nat)(x:bZ):fG (sq++[i]) x=fG sq x++jo i x:=by unfold fG;simp
theorem BA(n:Int):IntKind.u8.wrap n=((kL n).toNat:Int):=by
 unfold kL;rw[UInt8.toNat_ofNat'];show n%256=_;omega
theorem P_(n:Nat):kL (n:Int)=UInt8.ofNat n:=by
 unfold kL;apply UInt8.toNat_inj.1;rw[UInt8.toNat_ofNat',UInt8.toNat_ofNat'];omega
structure Fh(b:ay):Prop where
 t:b.text.size<=32768
 rn:b.rn<=16
 hn:b.hn<=32
 rs:∀s∈b.roles,s.size<=32
 l:b.label.size<=32
 e:0<=b.epoch/\b.epoch<=4294967295
 c:0<=b.count/\b.count<=65536
structure xF(w0:World)(gn B:Nat)(bs:List Bool)(b:ay)(N:Nat)(sq:List Nat)(v:Value)(w:World):Prop where
 body:ah w w0.heap.size b.v 101
 needs:ah w gn (bs.map .bool) 304
 own:h_ w B v (fG sq b.p).length (fG sq b.p)
 len:(fG sq b.p).length<=N
 ext:X w0 w
 le:B<=w.heap.size
theorem Below.lF{B:Nat}{w w':World}{g:Nat}{vs:aO}{T:TypeId}(h:Below B w w')(j:g<B)(hb:ah w g vs T):ah w' g vs T:=by
 unfold ah at*;rw[h.block g j];exact hb
theorem xF.next{w0:World}{j B:Nat}{bs:List Bool}{b:ay}{N M i:Nat}{sq:List Nat}{v v3:Value}{w u:World}(h:xF w0 j B bs b N sq v w)(E:w0.heap.size<B)(hn:j<B)(e:Below B w u){m:Nat}(own:h_ u B v3 m (fG sq b.p++jo i b.p))(hf:(jo i b.p).length<=M):xF w0 j B bs b (N+M) (sq++[i]) v3 u where
 body:=Below.lF e E h.body
 needs:=Below.lF e hn h.needs
 own:=by
  have I:=own.1;rw[Gx];rw[I];exact own
 len:=by
  have:=h.len;rw[Gx,length_append];omega
 ext:=Below.trans h.ext (e.mono J)
 le:=Nat.le_trans h.le e.size
theorem xF.skip{w0:World}{j B:Nat}{bs:List Bool}{b:ay}{N i M:Nat}{sq:List Nat}{v:Value}{w:World}(h:xF w0 j B bs b N sq v w):xF w0 j B bs b (N+M) (sq++if(false=true)then[i]else[]) v w:=by
 rw[zS];exact⟨h.body,h.needs,h.own,Nat.le_trans h.len (Nat.le_add_right _ _),h.ext,h.le⟩
theorem xF.seq{w0:World}{j B:Nat}{bs:List Bool}{b:ay}{N:Nat}{sq zT:List Nat}{v:Value}{w:World}(h:xF w0 j B bs b N sq v w)(e:sq=zT):xF w0 j B bs b N zT v w:=e▸h
structure Qa(b:ay)(act:Int):Prop where
 t:dK act 0=false->b.text=⟨#[]⟩
 m:dK act 1=false->b.member=List.replicate 16 0
 r:dK act 2=false->b.rn=0
 l:dK act 3=false->b.label=⟨#[]⟩
 c:dK act 4=false->b.commit=List.replicate 32 0
 e:dK act 5=false->b.epoch=0
 p:dK act 6=false->b.purpose=0
 a:dK act 7=false->b.reason=0
 n:dK act 8=false->b.need=0
 h:dK act 9=false->b.hn=0
 v:dK act 10=false->b.version=0
 k:dK act 11=false->b.count=0
theorem dx{s:ByteArray}(h:s.toList.isEmpty=true):s=⟨#[]⟩:=by
 rw[isEmpty_iff,ByteArray.toList_eq]at h;apply ByteArray.ext;exact Array.toList_eq_nil_iff.1 h
theorem Qb{b:ay}{act:Int}(h:nX b (lT act)=false):Qa b act:=by
 obtain⟨u,E,aa,ab,ac,ad,ae,af,ag,ai,I,R,j⟩:=JV (DR act);rw[j]at h;simp only[nX,ay.set,zip_cons_cons,zip_nil_right,any_cons,any_nil,Bool.or_false,Bool.or_eq_false_iff]at h;obtain⟨al,am,ap,aq,ar,aw,ax,az,aE,a0,an,ao⟩:=h;have a1:∀i,dK act i=[u,E,aa,ab,ac,ad,ae,af,ag,ai,I,R].getD i false:=fun i=>by unfold dK;rw[j]
 refine⟨fun q=> ?_,fun q=> ?_,fun q=> ?_,fun q=> ?_,fun q=> ?_,fun q=> ?_,fun q=> ?_,fun q=> ?_,fun q=> ?_,fun q=> ?_,fun q=> ?_,fun q=> ?_⟩<;>rw[a1]at q<;>simp only[getD_cons_zero,getD_cons_succ]at q<;>subst q
 ·exact dx (by simpa using al)
 ·simpa using am
 ·simpa using ap
 ·exact dx (by simpa using aq)
 ·simpa using ar
 ·simpa using aw
 ·simpa using ax
 ·simpa using az
 ·simpa using aE
 ·simpa using a0
 ·simpa using an
 ·simpa using ao
theorem Qc:∀(p:Option ByteArray) (ls:aT),ng p ls=0->∀s∈ls,jK s.data.toList=true
 |_,[],_,s,hs=>by cases hs
 |p,x::ls,h,s,hs=>by
  rw[ng]at h;cases hx:jK x.data.toList with
  |false=>rw[hx]at h;simp at h
  |true=>
   rw[hx,if_pos F]at h;split at h
   ·rcases mem_cons.1 hs with rfl|hs
    ·exact hx
    ·exact Qc _ ls h s hs
   ·cases h
theorem Qd{s:ByteArray}(h:jK s.data.toList=true):s.size<=32:=by
 unfold jK at h;simp only[Bool.and_eq_true,decide_eq_true_eq]at h;have:=h.2;rw[Array.length_toList]at this;exact this
structure zi(b:ay)(act:Int):Prop where
 uZ:iI act=true
 zeros:Qa b act
 t:b.text.size<=32768
 rn:b.rn<=16
 hn:b.hn<=32
 roles:vV b.roles=0
 label:dK act 3=true->jK b.label.data.toList=true
 range:pJ act b=false
 rises:tZ b.bH=true
theorem Ed{b:ay}{act:Int}(h:jS act b=0):zi b act:=by
 unfold jS at h;split at h
 ·cases h
 ·rename_i u;split at h
  ·cases h
  ·rename_i E;split at h
   ·cases h
   ·rename_i ab;split at h
    ·rename_i j;rw[h]at j;cases j
    ·rename_i j;split at h
     ·cases h
     ·rename_i I;split at h
      ·cases h
      ·rename_i R;split at h
       ·cases h
       ·rename_i aa;simp only[Bool.or_eq_true,decide_eq_true_eq,not_or,Bool.not_eq_true',Bool.not_eq_true,Bool.not_eq_false,Bool.and_eq_true,not_and,bne_iff_ne,ne_eq,Decidable.not_not]at u E ab j I R aa;exact⟨u,Qb E,J,J,J,j,I,R,aa⟩
theorem zi.small{b:ay}{act:Int}(h:zi b act):Fh b:=by
 have j:=h.range;unfold pJ at j;simp only[Bool.or_eq_false_iff,dR,decide_eq_false_iff_not,Bool.and_eq_false_imp]at j;refine⟨h.t,h.rn,h.hn,fun s hs=>Qd (Qc none _ h.roles s hs),?_,J,J⟩;cases hn:dK act 3 with
 |true=>exact Qd (h.label hn)
 |false=>rw[h.zeros.l hn];decide
theorem Ee{l:List (aj)}{k:Nat}(h:∀x∈l,x.length<=k):l.flatten.length<=l.length*k:=by
 induction l with
 |nil=>simp
 |cons a l u=>
  have E:=h a aF;have I:=u (fun x j=>h x (by simp[j]));rw[flatten_cons,length_append,length_cons,Nat.add_mul,Nat.one_mul];omega
theorem Qe{b:ay}(h:Fh b)(j:b.roles.length=b.rn):(Bj b.roles).length<=600:=by
 unfold Bj;rw[length_cons];have:=Ee (l:=b.roles.map kU) (k:=33) (by
  intro x u;obtain⟨s,hs,rfl⟩:=mem_map.1 u;rw[DU];have:=h.rs s hs;omega)
 rw[length_map,j]at this;have:=h.rn;omega
theorem XV{b:ay}(h:Fh b)(k:Nat)(hk:k<=16):((b.roles.take k).map kU).flatten.length<=600:=by
 have:=Ee (l:=(b.roles.take k).map kU) (k:=33) (by
  intro x j;obtain⟨s,hs,rfl⟩:=mem_map.1 j;rw[DU];have:=h.rs s (mem_of_mem_take hs);omega)
 rw[length_map,length_take]at this;omega
theorem XW{j:aT}{k:Nat}{x:ByteArray}(h:j[k]? =some x):((j.take (k+1)).map kU).flatten=((j.take k).map kU).flatten++kU x:=by
 rw[take_add_one,h];simp
theorem XY{b:ay}(j:oP b.bH)(k:Nat)(hk:k<=32):(b.bH.take k).flatten.length<=600:=by
 have:=Ee (l:=b.bH.take k) (k:=16) (fun x u=>by rw[j x (mem_of_mem_take u)];exact Nat.le_refl _);rw[length_take]at this;omega
theorem XZ{j:List (aj)}{k:Nat}{x:aj}(h:j[k]? =some x):(j.take (k+1)).flatten=(j.take k).flatten++x:=by
 rw[take_add_one,h];simp
theorem Qg{b:ay}(h:Fh b)(u:b.bH.length=b.hn)(j:oP b.bH):(Bl b.bH).length<=600:=by
 unfold Bl;rw[length_cons];have:=Ee (l:=b.bH) (k:=16) (fun x E=>by rw[j x E];exact Nat.le_refl _);rw[u]at this;have:=h.hn;omega
def BD:List (aj):=[[],[116],[109,114],[109],[108,99],[101,99],[112,101,99],[97],[99],[110,104,101,99],[104,101,99],[118,99],[118,107,99]]
def rF(k:Nat):aj:=BD.getD k []
theorem X0{k:Nat}(hk:k<13):(BD.map fun l=>Value.string ⟨l.toArray⟩)[k]? =some (.string ⟨(rF k).toArray⟩):=by
 have:BD[k]? =some (rF k):=by
  unfold rF;rw[getD_eq_getElem?_getD];have j:k<BD.length:=hk;rw[List.getElem?_eq_getElem j];rfl
 rw[List.getElem?_map,this];rfl
theorem Gy(k:Nat)(w:World)(hk:k<13):
 Calls prog 126 #[.int .i64 (k:Int)] w fun e w'=>e= .returned (.string ⟨(rF k).toArray⟩)/\X w w':=by
 have R:∀w,(Instr.buildSlice 98 13 #[(0,.string ⟨#[]⟩),(1,.string ⟨#[116]⟩),(2,.string ⟨#[109,114]⟩),(3,.string ⟨#[109]⟩),(4,.string ⟨#[108,99]⟩),(5,.string ⟨#[101,99]⟩),(6,.string ⟨#[112,101,99]⟩),(7,.string ⟨#[97]⟩),(8,.string ⟨#[99]⟩),(9,.string ⟨#[110,104,101,99]⟩),(10,.string ⟨#[104,101,99]⟩),(11,.string ⟨#[118,99]⟩),(12,.string ⟨#[118,107,99]⟩)]).run prog w= .ok (.slice (some ⟨w.heap.size,0,none⟩) 13 13) (w.alloc (.cells (BD.map fun l=>Value.string ⟨l.toArray⟩).toArray 9)):=by
  intro w
  kernel_rfl
 have E:(w.alloc (.cells (BD.map fun l=>Value.string ⟨l.toArray⟩).toArray 9)).cell? ((⟨w.heap.size,0,none⟩:Addr).add (k*1))=some (.string ⟨(rF k).toArray⟩):=by
  rw[dn];exact(ah.yu w _ _).cell' (by rw[Nat.zero_add,Nat.mul_one];exact X0 hk)
 have j:=O E;clear E;obtain⟨u,I⟩:=aC ((⟨(rF k).toArray⟩:ByteArray):ByteArray);rw[I]at j⊢;clear I;go_enter func126,ntmps126;go_wp2_with (first|(refine bF F (fP (i:=k) F F F underlying98 tV hk _) ?_)|(refine bF F (kT F F j oO) ?_));go_ret;exact⟨F,(X.refl w).alloc _⟩
section
open Go Go.RowKit
abbrev OT:TypeId:=210
theorem xG(l:aj)(s:Bool)(D g m:Nat)(w:World)(a1:m<=140737488355328)(a3:gI OT D w g l s):
 Calls prog 127 #[.pointer (some ⟨g,0,none⟩),.int .i64 (m:Int)] w fun e w'=>∃a c x ag ao,e= .returned (.slice a m c)/\m<=c/\x.length=m/\qw w' g a (x.map Y)/\gI OT D w' g ag ao/\fA (fK m) l s x ag ao/\ag.length<=l.length/\w.grownBy w' (some g):=by
 obtain⟨a,n,c,hb,hn,a_,hc,a7,am⟩:=a3;obtain⟨ab,R,ai⟩:=aW hb hn am;have a5:=hb.cell' (i:=0) (v:= .slice a n c) F;have k1:=hb.cell' (i:=1) (v:= .bool s) F;have az:=hb.frozen 1;have ax:=hb.frozen 0;have be:=ab.lt;clear hb hn am;by_cases h:n<m
 ·have ar:decide (n<m)=true:=aQ h;have aw:decide ((n:Int)<(m:Int))=true:=aQ J;go_enter func127,ntmps127;go_upto_region 3 with(fail);generalize I:World.setCell (World.setCell w _ _) _ _=j;have aa:ah j g [.slice none 0 0,.bool true] OT:=by rw[<-I];exact(ab.set 1 (.bool true)).set 0 (.slice none 0 0)
  have E:aU w g j:=by rw[<-I];exact(aU.setCell _).trans (aU.setCell _)
  obtain⟨aq,al⟩:=aB aa E;clear I aa E a5 k1 ax az;have a9:=F6 j m a1;go_wp2_with fail;generalize an:World.alloc j _=ap;have a6:ah ap j.heap.size ((List.replicate m (0:UInt8)).map Y) 5:=by rw[<-an];exact ah.aI F aF
  have ac:X j ap:=by rw[<-an];exact(X.refl j).alloc _
  have bd:=al.size;go_wp2_with fail;go_ret;refine⟨_,_,List.replicate m 0,[],true,F,Nat.le_refl _,aF,?_,?_,⟨fun ad=>(by cases ad),fun _=> .inr ?_⟩,Nat.zero_le _,?_⟩
  ·exact .inr ⟨j.heap.size,0,F,J,fun i u a4=>by rw[Nat.zero_add];exact a6.cell' a4⟩
  ·have bc:=ac.size;exact⟨none,0,0,aq.ext ac,F,Nat.le_refl _,J,J,.inl F⟩
  ·unfold fK;rw[R.out,if_pos h]
  ·exact xk (FU (sG w (some g)) al) ac
 ·have ar:decide (n<m)=false:=aP h;have aw:decide ((n:Int)<(m:Int))=false:=aP J;have af:m<=c:=J;have a2:m<=n:=J;go_enter func127,ntmps127;go_wp2_with (first|(refine bF F (DX F F F underlying32 gu af F _) ?_)|(refine zy F _ _ _ _ F F F underlying32 gu a2 ?_));generalize I:World.setCell w _ _=j;have aa:ah j g [.slice (dL a c m) (n - m) (c - m),.bool s] OT:=by rw[<-I];exact ab.set 0 (.slice (dL a c m) (n - m) (c - m))
  have E:aU w g j:=by rw[<-I];exact aU.setCell _
  have aE:=FU (sG w (some g)) E;go_ret;have a8:(l.map Y).length=n:=by rw[length_map];exact R
  refine⟨_,_,l.take m,l.drop m,s,F,af,?_,?_,?_,⟨fun ad=>⟨ad,?_⟩,fun a0=> .inl a0⟩,?_,aE⟩
  ·rw[length_take,R.out];omega
  ·rw[map_take];exact((ai.turn fun k _ ae=>E.block k ae).Pv c m af).off
  ·have ba:=E.size;refine⟨_,_,_,aa,by rw[length_drop,R.out],J,J,J,?_⟩;rw[map_drop];exact(ai.turn fun k _ ae=>E.block k ae).Px c m J
  ·unfold fK;rw[R.out,if_neg h]
  ·rw[length_drop];omega
theorem yH(l:aj)(s:Bool)(D g:Nat)(w:World)(j:gI OT D w g l s):
 Calls prog 128 #[.pointer (some ⟨g,0,none⟩)] w fun e w'=>∃x:Nat,e= .returned (.int .i64 (x:Int))/\x<256/\Fe OT D kV w g l s x w':=by
 have ac:=O j;clear j;go_enter func128,ntmps128;go_wp2_with fail;refine(xG l s D g 1 w J ac).mono ?_;rintro e w' ⟨a,am,x,ag,ai,rfl,ao,u,hc,j,ht,R,I⟩;obtain⟨b,off,rfl,E⟩:=hc.cells.gQ (by rw[length_map,u];omega);obtain⟨c,rfl⟩:∃c,x=[c]:=by
  match x,u with
  |[c],_=>exact⟨c,F⟩
 have af:w'.cell? ⟨b,off,none⟩=some (.int .u8 (c.toNat:Int)):=E 0 _ F;obtain⟨al,ad,ae,aa,ab⟩:=dM af j ht I R;clear hc E j ht I R u;have an:=c.toNat_lt;have ap:IntKind.i64.wrap (c.toNat:Int)=(c.toNat:Int):=IntWalk.i64_in _ J;go_wp2_with fail;go_ret;refine⟨c.toNat,F,J,ag,ai,ad,?_,ab,aa⟩;exact(ae.map (fun x=>(x.headD 0).toNat)).congr F
def kF(l:aj):Int:=kK (jM l)
theorem Qh{act:Int}(h:iI act=true):(gy act).Nodup/\∀i∈gy act,i<12:=by
 rcases wo h with rfl|rfl|rfl|rfl|rfl|rfl|rfl|rfl|rfl|rfl|rfl|rfl<;>decide
def jZ(i:Nat):UInt8:=[116,109,114,108,99,101,112,97,110,104,118,107].getD i 0
theorem Qi{act:Int}(h:iI act=true):rF act.toNat=(gy act).map jZ:=by
 rcases wo h with rfl|rfl|rfl|rfl|rfl|rfl|rfl|rfl|rfl|rfl|rfl|rfl<;>decide
structure AQ(w0:World)(g gi B:Nat)(us:ByteArray)(l0:aj)(sq:List Nat)(w:World)(r:ay)(l:aj)(s:Bool):Prop where
 body:ah w (w0.heap.size+1) r.v 101
 res:ah w w0.heap.size dI.v 101
 rd:gI OT w0.heap.size w g l s
 took:fA (jC kF sq kD) l0 false r.p l s
 ext:X w0 w
 fit:r.Fit
 jF:bJ w B r.ra (r.roles.map bM)
 hhi:bJ w B r.ha (dB r.bH)
 nr:2∉sq->xE r
 nh:9∉sq->ug r
 it:w.heap[gi]? =some (.stringIter us sq.length)
section
variable {w0:World} {g gi B i:Nat} {us:ByteArray} {l0:aj} {sq:List Nat} {w:World} {r:ay} {l:aj} {s:Bool}
structure BF(w0:World)(g gi B:Nat)(us:ByteArray)(l0:aj)(sq:List Nat)(w:World)(r:ay)(l:aj)(s:Bool):Prop where
 body:ah w (w0.heap.size+1) r.v 101
 res:ah w w0.heap.size dI.v 101
 rd:gI OT w0.heap.size w g l s
 took:fA (jC kF sq kD) l0 false r.p l s
 ext:X w0 w
 fit:r.Fit
 jF:bJ w B r.ra (r.roles.map bM)
 hhi:bJ w B r.ha (dB r.bH)
 nr:2∉sq->xE r
 nh:9∉sq->ug r
 it:w.heap[gi]? =some (.stringIter us (sq.length+1))
theorem X.Ef{W w w':World}{k:Nat}(h:X W w)(g:w.grownBy w' (some k))(hk:W.heap.size<=k):X W w':=h.grown g (by intro q j;injection j with j;omega)
theorem BF.store(h:BF w0 g gi B us l0 sq w r l s){w2 ab:World}{R:aj}{aa:Bool}{j:ay}(ar:w0.heap.size+1<g)(aw:w0.heap.size+1<gi)(ap:gi≠g)(ag:w0.heap.size+1<B)(ai:g<B)(E:w.grownBy w2 (some g))(rd:gI OT w0.heap.size w2 g R aa)(u:aU w2 (w0.heap.size+1) ab)
 (hb:ah ab (w0.heap.size+1) j.v 101)(aq:fA (jC kF (sq++[i]) kD) l0 false j.p R aa)(fit:j.Fit)(ac:j.ra=r.ra)(am:j.rn=r.rn)(al:j.rc=r.rc)(ad:j.roles=r.roles)(ae:j.ha=r.ha)(ao:j.hn=r.hn)(an:j.hc=r.hc)(af:j.bH=r.bH):AQ w0 g gi B us l0 (sq++[i]) ab j R aa where
 body:=hb
 res:=(h.res.grown E (by simp;omega)).upd u J
 rd:=rd.upd u J J
 took:=aq
 ext:=u.ext (h.ext.Ef E J) J
 fit:=fit
 jF:=by rw[ac,ad];exact(h.jF.grown E ai).upd u ag
 hhi:=by rw[ae,af];exact(h.hhi.grown E ai).upd u ag
 nr:=fun hn=>by
  have:=h.nr (fun I=>hn (by simp[I]));exact⟨ac.trans this.a,am.trans this.n,al.trans this.c,ad.trans this.l⟩
 nh:=fun hn=>by
  have:=h.nh (fun I=>hn (by simp[I]));exact⟨ae.trans this.a,ao.trans this.n,an.trans this.c,af.trans this.l⟩
 it:=by
  rw[u.block gi J,E.block gi (Array.getElem?_eq_some_iff.1 h.it).1 (by simpa using ap),h.it,length_append];rfl
theorem BF.aM(h:BF w0 g gi B us l0 sq w r l s){w2:World}(u:w0.heap.size+1<g)(j:w.grownBy w2 (some g)):ah w2 (w0.heap.size+1) r.v 101:=h.body.grown j (by simp;omega)
theorem AQ.next(h:AQ w0 g gi B us l0 sq w r l s){w2:World}(I:w0.heap.size+1<g)(aa:w0.heap.size+1<gi)(ab:gi≠g)(R:gi<B)(u:∀k,k≠gi->w2.heap[k]? =w.heap[k]?)(hs:w2.heap.size=w.heap.size)(j:w2.os=w.os/\w2.tape=w.tape/\w2.output=w.output)(E:w2.heap[gi]? =some (.stringIter us (sq.length+1))):BF w0 g gi B us l0 sq w2 r l s where
 body:=by unfold ah;rw[u _ J];exact h.body
 res:=by unfold ah;rw[u _ J];exact h.res
 rd:=h.rd.same ⟨J,fun k hk=>u k J,u g J⟩
 took:=h.took
 ext:=⟨j.1.trans h.ext.os,j.2.1.trans h.ext.tape,j.2.2.trans h.ext.output,by have:=h.ext.size;omega,fun k hk=>(u k J).trans (h.ext.block k hk)⟩
 fit:=h.fit
 jF:=h.jF.turn fun k hk _=>u k J
 hhi:=h.hhi.turn fun k hk _=>u k J
 nr:=h.nr
 nh:=h.nh
 it:=E
end
end
theorem aeA(s:ByteArray)(c:Int)(w:World):
 Calls prog 295 #[.string s,.int .u8 c] w fun e w'=>e= .returned (.int .i64 (Lib.indexByte s.data.toList c.toNat.toUInt8))/\w'=w:=by
 go_enter func295,ntmps295;go_wp2;rw[run_callFunc_extern func328 au au au (e:=Extern.BytealgIndexByte.indexByte) au,Lib.run_indexByteString];simp only[Result.andThen];rw[Oper.upon_value];go_wp2;go_ret;exact⟨F,F⟩
theorem aeo(s:ByteArray)(c:UInt8)(w:World):
 Calls prog 238 #[.string s,.string ⟨#[c]⟩] w fun e w'=>e= .returned (.int .i64 (Lib.indexByte s.data.toList c))/\w'=w:=by
 go_enter func238,ntmps238;go_wp2_with (go_at_call 295;refine(aeA _ _ _).mono ?_;rintro e w' ⟨rfl,rfl⟩)
 ·have h:([c]==s.toList)=true:=by assumption
  go_ret;refine⟨?_,F⟩;have e:s.data.toList=[c]:=by rw[<-Lib.toList_data];exact(beq_iff_eq.1 h).symm
  rw[e];simp[Lib.indexByte]
 ·go_ret;exact⟨F,F⟩
theorem aek(s:ByteArray)(c:UInt8)(w:World):
 Calls prog 232 #[.string s,.string ⟨#[c]⟩] w fun e w'=>e= .returned (.int .i64 (Lib.indexByte s.data.toList c))/\w'=w:=by
 go_enter func232,ntmps232;go_wp2_with (go_at_call 238;refine(aeo _ _ _).mono ?_;rintro e w' ⟨rfl,rfl⟩);go_ret;exact⟨F,F⟩
theorem aeB(s:ByteArray)(c:UInt8)(w:World):
 Calls prog 184 #[.string s,.string ⟨#[c]⟩] w fun e w'=>e= .returned (.bool (decide (0<=Lib.indexByte s.data.toList c)))/\w'=w:=by
 go_enter func184,ntmps184;go_wp2_with (go_at_call 232;refine(aek _ _ _).mono ?_;rintro e w' ⟨rfl,rfl⟩);go_ret;exact⟨F,F⟩
theorem X3:∀(a:Fin 13) (k:Fin 12),1<=a.val->decide (0<=Lib.indexByte (rF a.val) (jZ k.val))=(lT (a.val:Int)).getD k.val false:=by decide+kernel
theorem Qj(act:Int)(k:Nat)(w:World)(h:iI act=true)(hk:k<12):
 Calls prog 184 #[.string ⟨(rF act.toNat).toArray⟩,.string ⟨#[jZ k]⟩] w fun e w'=>e= .returned (.bool (dK act k))/\w=w':=by
 refine(aeB ⟨(rF act.toNat).toArray⟩ (jZ k) w).mono ?_;rintro e w' ⟨rfl,rfl⟩;refine⟨?_,F⟩;unfold iI at h;simp only[Bool.and_eq_true,decide_eq_true_eq]at h;have j:=X3 ⟨act.toNat,J⟩ ⟨k,hk⟩ (by show 1<=act.toNat;omega);unfold dK;have u:((act.toNat:Nat):Int)=act:=J;simp only[u]at j;rw[<-j]
def yI(l:List (UInt8×Bool)):aO:=(l.map fun p=>[Value.string ⟨#[p.1]⟩,.bool p.2]).flatten
theorem X4{l:List (UInt8×Bool)}{k:Nat}{p:UInt8×Bool}(h:l[k]? =some p):∀j,j<2->(yI l)[2*k+j]? =([Value.string ⟨#[p.1]⟩,.bool p.2]:aO)[j]? :=by
 intro j E;induction l generalizing k with
 |nil=>cases h
 |cons a l u=>
  have hc:yI (a::l)=[Value.string ⟨#[a.1]⟩,.bool a.2]++yI l:=F;rw[hc];cases k with
  |zero=>
   cases h;rw[List.getElem?_append_left (by simp;omega),Nat.mul_zero,Nat.zero_add]
  |succ k=>
   rw[List.getElem?_append_right (by simp;omega),show 2*(k+1)+j - [Value.string ⟨#[a.1]⟩,.bool a.2].length=2*k+j by simp;omega];exact u (by simpa using h)
abbrev PT:TypeId:=327
theorem Qk:iH prog PT 2:=⟨⟨_,underlying327,F⟩,au⟩
theorem Ql:(prog.info? PT).map (·.size)=some 2:=au
theorem X5:(prog.info? PT).map (fun i=>(i.zero,i.size,i.bytes))=some (some (.agg #[.string ⟨#[]⟩,.bool false]),2,24):=au
theorem X6(j u R aa ab ac ad ae af ag E I:Bool)(w:World):(Instr.buildSlice 328 12 #[(0,.agg #[.string ⟨#[116]⟩,.bool j]),(1,.agg #[.string ⟨#[109]⟩,.bool u]),(2,.agg #[.string ⟨#[114]⟩,.bool R]),(3,.agg #[.string ⟨#[108]⟩,.bool aa]),(4,.agg #[.string ⟨#[99]⟩,.bool ab]),(5,.agg #[.string ⟨#[101]⟩,.bool ac]),(6,.agg #[.string ⟨#[112]⟩,.bool ad]),(7,.agg #[.string ⟨#[97]⟩,.bool ae]),(8,.agg #[.string ⟨#[110]⟩,.bool af]),(9,.agg #[.string ⟨#[104]⟩,.bool ag]),(10,.agg #[.string ⟨#[118]⟩,.bool E]),(11,.agg #[.string ⟨#[107]⟩,.bool I])]).run prog w= .ok (.slice (some ⟨w.heap.size,0,none⟩) 12 12) (w.alloc (.cells (yI [(116,j),(109,u),(114,R),(108,aa),(99,ab),(101,ac),(112,ad),(97,ae),(110,af),(104,ag),(118,E),(107,I)]).toArray PT)):=by
 obtain⟨ap,an,ao,al,aq⟩:=info_parts X5;refine run_buildSlice (P:=prog) w 328 PT 12 _ (yI [(116,j),(109,u),(114,R),(108,aa),(99,ab),(101,ac),(112,ad),(97,ae),(110,af),(104,ag),(118,E),(107,I)]).toArray ap _ underlying328 an ao (by rw[al];omega) (by rw[al];omega) ?_;have hf:∀ai:Array Value,ai.size=24->Instr.fill (fun i=>some (i*2,2)) ai [(0,.agg #[.string ⟨#[116]⟩,.bool j]),(1,.agg #[.string ⟨#[109]⟩,.bool u]),(2,.agg #[.string ⟨#[114]⟩,.bool R]),(3,.agg #[.string ⟨#[108]⟩,.bool aa]),(4,.agg #[.string ⟨#[99]⟩,.bool ab]),(5,.agg #[.string ⟨#[101]⟩,.bool ac]),(6,.agg #[.string ⟨#[112]⟩,.bool ad]),(7,.agg #[.string ⟨#[97]⟩,.bool ae]),(8,.agg #[.string ⟨#[110]⟩,.bool af]),(9,.agg #[.string ⟨#[104]⟩,.bool ag]),(10,.agg #[.string ⟨#[118]⟩,.bool E]),(11,.agg #[.string ⟨#[107]⟩,.bool I])]=some (yI [(116,j),(109,u),(114,R),(108,aa),(99,ab),(101,ac),(112,ad),(97,ae),(110,af),(104,ag),(118,E),(107,I)]).toArray:=by
  intro ai hc;have h:=Great.fill_whole (s:=2) J [.agg #[.string ⟨#[116]⟩,.bool j],.agg #[.string ⟨#[109]⟩,.bool u],.agg #[.string ⟨#[114]⟩,.bool R],.agg #[.string ⟨#[108]⟩,.bool aa],.agg #[.string ⟨#[99]⟩,.bool ab],.agg #[.string ⟨#[101]⟩,.bool ac],.agg #[.string ⟨#[112]⟩,.bool ad],.agg #[.string ⟨#[97]⟩,.bool ae],.agg #[.string ⟨#[110]⟩,.bool af],.agg #[.string ⟨#[104]⟩,.bool ag],.agg #[.string ⟨#[118]⟩,.bool E],.agg #[.string ⟨#[107]⟩,.bool I]] ai (by intro v am;simp only[mem_cons,not_mem_nil,or_false]at am;rcases am with rfl|rfl|rfl|rfl|rfl|rfl|rfl|rfl|rfl|rfl|rfl|rfl<;>rfl) (by simp[hc]);simpa[Value.cells,yI]using h
 rw[al];exact hf _ (by simp[Builtin.zeroCells,Value.cells])
theorem X7(j u R aa ab ac ad ae af ag E I:Bool):∀k,k<12->([(116,j),(109,u),(114,R),(108,aa),(99,ab),(101,ac),(112,ad),(97,ae),(110,af),(104,ag),(118,E),(107,I)]:List (UInt8×Bool))[k]? =some (jZ k,[j,u,R,aa,ab,ac,ad,ae,af,ag,E,I].getD k false):=by
 intro k hk;rcases(by omega:k=0∨k=1∨k=2∨k=3∨k=4∨k=5∨k=6∨k=7∨k=8∨k=9∨k=10∨k=11)with rfl|rfl|rfl|rfl|rfl|rfl|rfl|rfl|rfl|rfl|rfl|rfl<;>rfl
theorem Qm{xs u:List Bool}(aa:xs.length=12)(hn:u.length=12):((u.zip xs).any fun p=> !p.1&&p.2)=true↔∃k,k<12/\u.getD k false=false/\xs.getD k false=true:=by
 rw[any_eq_true]
 constructor
 ·rintro⟨p,R,j⟩;obtain⟨k,hk,rfl⟩:=mem_iff_getElem.1 R;rw[length_zip]at hk;refine⟨k,J,?_,?_⟩
  ·rw[getD_eq_getElem?_getD,List.getElem?_eq_getElem J];simp only[getElem_zip,Bool.and_eq_true,Bool.not_eq_true']at j;simpa using j.1
  ·rw[getD_eq_getElem?_getD,List.getElem?_eq_getElem J];simp only[getElem_zip,Bool.and_eq_true,Bool.not_eq_true']at j;simpa using j.2
 ·rintro⟨k,hk,E,I⟩;refine⟨(u.zip xs)[k]'(by rw[length_zip];omega),getElem_mem _,?_⟩;rw[getD_eq_getElem?_getD,List.getElem?_eq_getElem J]at E I;simp only[getElem_zip];simp only[Option.getD_some]at E I;rw[E,I];rfl
theorem X8(act:Int)(b:ay)(w:World)(cf:b.Ok w)(ha:iI act=true):
 Calls prog 182 #[.int .i64 act,.agg b.v.toArray] w fun e w'=>e= .returned (.int .i64 (if nX b (lT act)then 2 else 0))/\X w w':=by
 obtain⟨R,cc⟩:=aB cf (fun k w=>Qj act k w ha);have cy:1<=act/\act<=12:=by unfold iI at ha;simpa using ha
 obtain⟨K,rfl⟩:∃K:Nat,act=(K:Int):=⟨act.toNat,J⟩;have ch:=O (fun w=>Gy K w J);obtain⟨u,ax⟩:=aC ((⟨(rF K).toArray⟩:ByteArray):ByteArray);rw[show(K:Int).toNat=K from F,ax]at cc;rw[ax]at ch;have cz:=O (show nX b (lT (K:Int))=((lT (K:Int)).zip b.set).any (fun p=> !p.1&&p.2)from F);obtain⟨cH,bc⟩:=aC ((if nX b (lT (K:Int))then(2:Int)else 0):Int);rw[bc];have b1:=O bc;clear cf ax cy ha bc;go_enter func182,ntmps182;go_upto_region 1 with(fail);generalize bm:World.alloc w _=br;have b4:ah br w.heap.size b.v 101:=by rw[<-bm];exact ah.aI F F
 have b5:X w br:=by rw[<-bm];exact(X.refl w).alloc _
 obtain⟨bt,bv⟩:=aB b4 b5;clear bm b4 b5;go_wp2_with fail;refine(ch br).mono ?_;rintro e w2 ⟨rfl,e2⟩;obtain⟨ab,a4⟩:=aB (bt.ext e2) (bv.ext e2);have a8:=O (R.ext a4);clear e2 bt bv;obtain⟨cn,cm,cq,cp⟩:=bU (show(b.member.map Y).length=16 by rw[length_map];exact R.hm) (show(b.commit.map Y).length=32 by rw[length_map];exact R.hcm) (fun w=>vY underlying29 b.member (List.replicate 16 0) R.hm aF w) (fun w=>vY underlying31 b.commit (List.replicate 32 0) R.hcm aF w);have bl:b.set=b.set:=F
 conv at bl=>rhs;unfold ay.set
 have aa:=O bl;clear bl;go_upto_region 2 with(fail);obtain⟨C,I,aJ⟩:=jJ w2;refine wp_region_held_drew (S:=C) au ((I _).2 (X.refl w2).drew) (fun Z=> ?_);refine d_ 0 (v:= .pointer (some ⟨w.heap.size,0,none⟩)) F au au au (fun _ _ _ h=>h) (.inl ⟨F,?va1⟩) Z ?vb1
 case va1=>(intro _ _;go_simp;try with_reducible rfl)
 case vb1=>
 refine cO ?_;refine d_ 1 (v:= .string b.text) F au au au (fun _ _ _ h=>h) (.inl ⟨F,?va2⟩) Z ?vb2
 case va2=>(intro E eU;have oz:=(ab.ext ((I E).1 eU)).cell' (ay.aL b);go_simp;try with_reducible rfl)
 case vb2=>
 refine cO ?_;refine d_ 2 (v:= .bool (!b.text.toList.isEmpty)) F au au au (fun _ _ _ h=>h) (.inl ⟨F,?va3⟩) Z ?vb3
 case va3=>(intro _ _;go_simp;try with_reducible rfl)
 case vb3=>
 refine cO ?_;generalize (!b.text.toList.isEmpty)=ad at aa⊢;refine d_ 3 (v:= .agg #[.string ⟨#[116]⟩,.bool ad]) F au au au (fun _ _ _ h=>h) (.inl ⟨F,?va4⟩) Z ?vb4
 case va4=>(intro _ _;go_simp;try with_reducible rfl)
 case vb4=>
 refine cO ?_;refine d_ 4 (v:= .pointer (some ⟨w.heap.size,1,none⟩)) F au au au (fun _ _ _ h=>h) (.inl ⟨F,?va5⟩) Z ?vb5
 case va5=>(intro _ _;go_simp;try with_reducible rfl)
 case vb5=>
 refine cO ?_;refine d_ 5 (v:= .agg (b.member.map Y).toArray) F au au au (fun _ _ _ h=>h) (.inl ⟨F,?va6⟩) Z ?vb6
 case va6=>(intro E eU;exact bQ F F (ay.JL (a8.ext ((I E).1 eU)) (ab.ext ((I E).1 eU))) dh cn)
 case vb6=>
 refine cO ?_;refine d_ 6 (v:= .agg ((List.replicate 16 (0:UInt8)).map Y).toArray) F au au au (fun _ _ _ h=>h) (.inl ⟨F,?va7⟩) Z ?vb7
 case va7=>(intro _ _;go_simp;first|with_reducible rfl|rfl|done)
 case vb7=>
 refine cO ?_;refine d_ 7 (v:= .bool (!(b.member==List.replicate 16 0))) F au au au (fun _ _ _ h=>h) (.inl ⟨F,?va8⟩) Z ?vb8
 case va8=>(intro E _;exact jm F F F oD cq E)
 case vb8=>
 refine cO ?_;generalize (!(b.member==List.replicate 16 0))=ae at aa⊢;refine d_ 8 (v:= .agg #[.string ⟨#[109]⟩,.bool ae]) F au au au (fun _ _ _ h=>h) (.inl ⟨F,?va9⟩) Z ?vb9
 case va9=>(intro _ _;go_simp;try with_reducible rfl)
 case vb9=>
 refine cO ?_;refine d_ 9 (v:= .pointer (some ⟨w.heap.size,17,none⟩)) F au au au (fun _ _ _ h=>h) (.inl ⟨F,?va10⟩) Z ?vb10
 case va10=>(intro _ _;go_simp;try with_reducible rfl)
 case vb10=>
 refine cO ?_;refine d_ 10 (v:= .slice b.ra b.rn b.rc) F au au au (fun _ _ _ h=>h) (.inl ⟨F,?va11⟩) Z ?vb11
 case va11=>(intro E eU;have oz:=(ab.ext ((I E).1 eU)).cell' (ay.pI R);go_simp;try with_reducible rfl)
 case vb11=>
 refine cO ?_;refine d_ 11 (v:= .int .i64 (b.rn:Int)) F au au au (fun _ _ _ h=>h) (.inl ⟨F,?va12⟩) Z ?vb12
 case va12=>(intro _ _;go_simp;try with_reducible rfl)
 case vb12=>
 refine cO ?_;refine d_ 12 (v:= .bool (decide (0<b.rn))) F au au au (fun _ _ _ h=>h) (.inl ⟨F,?va13⟩) Z ?vb13
 case va13=>(intro _ _;go_simp;first|with_reducible rfl|done)
 case vb13=>
 refine cO ?_;generalize (decide (0<b.rn))=ai at aa⊢;refine d_ 13 (v:= .agg #[.string ⟨#[114]⟩,.bool ai]) F au au au (fun _ _ _ h=>h) (.inl ⟨F,?va14⟩) Z ?vb14
 case va14=>(intro _ _;go_simp;try with_reducible rfl)
 case vb14=>
 refine cO ?_;refine d_ 14 (v:= .pointer (some ⟨w.heap.size,18,none⟩)) F au au au (fun _ _ _ h=>h) (.inl ⟨F,?va15⟩) Z ?vb15
 case va15=>(intro _ _;go_simp;try with_reducible rfl)
 case vb15=>
 refine cO ?_;refine d_ 15 (v:= .string b.label) F au au au (fun _ _ _ h=>h) (.inl ⟨F,?va16⟩) Z ?vb16
 case va16=>(intro E eU;have oz:=(ab.ext ((I E).1 eU)).cell' (ay.zH R);go_simp;try with_reducible rfl)
 case vb16=>
 refine cO ?_;refine d_ 16 (v:= .bool (!b.label.toList.isEmpty)) F au au au (fun _ _ _ h=>h) (.inl ⟨F,?va17⟩) Z ?vb17
 case va17=>(intro _ _;go_simp;try with_reducible rfl)
 case vb17=>
 refine cO ?_;generalize (!b.label.toList.isEmpty)=al at aa⊢;refine d_ 17 (v:= .agg #[.string ⟨#[108]⟩,.bool al]) F au au au (fun _ _ _ h=>h) (.inl ⟨F,?va18⟩) Z ?vb18
 case va18=>(intro _ _;go_simp;try with_reducible rfl)
 case vb18=>
 refine cO ?_;refine d_ 18 (v:= .pointer (some ⟨w.heap.size,19,none⟩)) F au au au (fun _ _ _ h=>h) (.inl ⟨F,?va19⟩) Z ?vb19
 case va19=>(intro _ _;go_simp;try with_reducible rfl)
 case vb19=>
 refine cO ?_;refine d_ 19 (v:= .agg (b.commit.map Y).toArray) F au au au (fun _ _ _ h=>h) (.inl ⟨F,?va20⟩) Z ?vb20
 case va20=>(intro E eU;exact bQ F F (ay.comm (a8.ext ((I E).1 eU)) (ab.ext ((I E).1 eU))) bY cm)
 case vb20=>
 refine cO ?_;refine d_ 20 (v:= .agg ((List.replicate 32 (0:UInt8)).map Y).toArray) F au au au (fun _ _ _ h=>h) (.inl ⟨F,?va21⟩) Z ?vb21
 case va21=>(intro _ _;go_simp;first|with_reducible rfl|rfl|done)
 case vb21=>
 refine cO ?_;refine d_ 21 (v:= .bool (!(b.commit==List.replicate 32 0))) F au au au (fun _ _ _ h=>h) (.inl ⟨F,?va22⟩) Z ?vb22
 case va22=>(intro E _;exact jm F F F O5 cp E)
 case vb22=>
 refine cO ?_;generalize (!(b.commit==List.replicate 32 0))=am at aa⊢;refine d_ 22 (v:= .agg #[.string ⟨#[99]⟩,.bool am]) F au au au (fun _ _ _ h=>h) (.inl ⟨F,?va23⟩) Z ?vb23
 case va23=>(intro _ _;go_simp;try with_reducible rfl)
 case vb23=>
 refine cO ?_;refine d_ 23 (v:= .pointer (some ⟨w.heap.size,51,none⟩)) F au au au (fun _ _ _ h=>h) (.inl ⟨F,?va24⟩) Z ?vb24
 case va24=>(intro _ _;go_simp;try with_reducible rfl)
 case vb24=>
 refine cO ?_;refine d_ 24 (v:= .int .i64 b.epoch) F au au au (fun _ _ _ h=>h) (.inl ⟨F,?va25⟩) Z ?vb25
 case va25=>(intro E eU;have oz:=(ab.ext ((I E).1 eU)).cell' (ay.mD R);go_simp;try with_reducible rfl)
 case vb25=>
 refine cO ?_;refine d_ 25 (v:= .bool (b.epoch != 0)) F au au au (fun _ _ _ h=>h) (.inl ⟨F,?va26⟩) Z ?vb26
 case va26=>(intro _ _;go_simp;first|with_reducible rfl|done)
 case vb26=>
 refine cO ?_;generalize (b.epoch != 0)=an at aa⊢;refine d_ 26 (v:= .agg #[.string ⟨#[101]⟩,.bool an]) F au au au (fun _ _ _ h=>h) (.inl ⟨F,?va27⟩) Z ?vb27
 case va27=>(intro _ _;go_simp;try with_reducible rfl)
 case vb27=>
 refine cO ?_;refine d_ 27 (v:= .pointer (some ⟨w.heap.size,52,none⟩)) F au au au (fun _ _ _ h=>h) (.inl ⟨F,?va28⟩) Z ?vb28
 case va28=>(intro _ _;go_simp;try with_reducible rfl)
 case vb28=>
 refine cO ?_;refine d_ 28 (v:= .int .i64 b.purpose) F au au au (fun _ _ _ h=>h) (.inl ⟨F,?va29⟩) Z ?vb29
 case va29=>(intro E eU;have oz:=(ab.ext ((I E).1 eU)).cell' (ay.nV R);go_simp;try with_reducible rfl)
 case vb29=>
 refine cO ?_;refine d_ 29 (v:= .bool (b.purpose != 0)) F au au au (fun _ _ _ h=>h) (.inl ⟨F,?va30⟩) Z ?vb30
 case va30=>(intro _ _;go_simp;first|with_reducible rfl|done)
 case vb30=>
 refine cO ?_;generalize (b.purpose != 0)=ao at aa⊢;refine d_ 30 (v:= .agg #[.string ⟨#[112]⟩,.bool ao]) F au au au (fun _ _ _ h=>h) (.inl ⟨F,?va31⟩) Z ?vb31
 case va31=>(intro _ _;go_simp;try with_reducible rfl)
 case vb31=>
 refine cO ?_;refine d_ 31 (v:= .pointer (some ⟨w.heap.size,53,none⟩)) F au au au (fun _ _ _ h=>h) (.inl ⟨F,?va32⟩) Z ?vb32
 case va32=>(intro _ _;go_simp;try with_reducible rfl)
 case vb32=>
 refine cO ?_;refine d_ 32 (v:= .int .i64 b.reason) F au au au (fun _ _ _ h=>h) (.inl ⟨F,?va33⟩) Z ?vb33
 case va33=>(intro E eU;have oz:=(ab.ext ((I E).1 eU)).cell' (ay.oQ R);go_simp;try with_reducible rfl)
 case vb33=>
 refine cO ?_;refine d_ 33 (v:= .bool (b.reason != 0)) F au au au (fun _ _ _ h=>h) (.inl ⟨F,?va34⟩) Z ?vb34
 case va34=>(intro _ _;go_simp;first|with_reducible rfl|done)
 case vb34=>
 refine cO ?_;generalize (b.reason != 0)=ap at aa⊢;refine d_ 34 (v:= .agg #[.string ⟨#[97]⟩,.bool ap]) F au au au (fun _ _ _ h=>h) (.inl ⟨F,?va35⟩) Z ?vb35
 case va35=>(intro _ _;go_simp;try with_reducible rfl)
 case vb35=>
 refine cO ?_;refine d_ 35 (v:= .pointer (some ⟨w.heap.size,54,none⟩)) F au au au (fun _ _ _ h=>h) (.inl ⟨F,?va36⟩) Z ?vb36
 case va36=>(intro _ _;go_simp;try with_reducible rfl)
 case vb36=>
 refine cO ?_;refine d_ 36 (v:= .int .i64 b.need) F au au au (fun _ _ _ h=>h) (.inl ⟨F,?va37⟩) Z ?vb37
 case va37=>(intro E eU;have oz:=(ab.ext ((I E).1 eU)).cell' (ay.xw R);go_simp;try with_reducible rfl)
 case vb37=>
 refine cO ?_;refine d_ 37 (v:= .bool (b.need != 0)) F au au au (fun _ _ _ h=>h) (.inl ⟨F,?va38⟩) Z ?vb38
 case va38=>(intro _ _;go_simp;first|with_reducible rfl|done)
 case vb38=>
 refine cO ?_;generalize (b.need != 0)=aq at aa⊢;refine d_ 38 (v:= .agg #[.string ⟨#[110]⟩,.bool aq]) F au au au (fun _ _ _ h=>h) (.inl ⟨F,?va39⟩) Z ?vb39
 case va39=>(intro _ _;go_simp;try with_reducible rfl)
 case vb39=>
 refine cO ?_;refine d_ 39 (v:= .pointer (some ⟨w.heap.size,57,none⟩)) F au au au (fun _ _ _ h=>h) (.inl ⟨F,?va40⟩) Z ?vb40
 case va40=>(intro _ _;go_simp;try with_reducible rfl)
 case vb40=>
 refine cO ?_;refine d_ 40 (v:= .slice b.ha b.hn b.hc) F au au au (fun _ _ _ h=>h) (.inl ⟨F,?va41⟩) Z ?vb41
 case va41=>(intro E eU;have oz:=(ab.ext ((I E).1 eU)).cell' (ay.xB R);go_simp;try with_reducible rfl)
 case vb41=>
 refine cO ?_;refine d_ 41 (v:= .int .i64 (b.hn:Int)) F au au au (fun _ _ _ h=>h) (.inl ⟨F,?va42⟩) Z ?vb42
 case va42=>(intro _ _;go_simp;try with_reducible rfl)
 case vb42=>
 refine cO ?_;refine d_ 42 (v:= .bool (decide (0<b.hn))) F au au au (fun _ _ _ h=>h) (.inl ⟨F,?va43⟩) Z ?vb43
 case va43=>(intro _ _;go_simp;first|with_reducible rfl|done)
 case vb43=>
 refine cO ?_;generalize (decide (0<b.hn))=ar at aa⊢;refine d_ 43 (v:= .agg #[.string ⟨#[104]⟩,.bool ar]) F au au au (fun _ _ _ h=>h) (.inl ⟨F,?va44⟩) Z ?vb44
 case va44=>(intro _ _;go_simp;try with_reducible rfl)
 case vb44=>
 refine cO ?_;refine d_ 44 (v:= .pointer (some ⟨w.heap.size,55,none⟩)) F au au au (fun _ _ _ h=>h) (.inl ⟨F,?va45⟩) Z ?vb45
 case va45=>(intro _ _;go_simp;try with_reducible rfl)
 case vb45=>
 refine cO ?_;refine d_ 45 (v:= .int .i64 b.version) F au au au (fun _ _ _ h=>h) (.inl ⟨F,?va46⟩) Z ?vb46
 case va46=>(intro E eU;have oz:=(ab.ext ((I E).1 eU)).cell' (ay.xA R);go_simp;try with_reducible rfl)
 case vb46=>
 refine cO ?_;refine d_ 46 (v:= .bool (b.version != 0)) F au au au (fun _ _ _ h=>h) (.inl ⟨F,?va47⟩) Z ?vb47
 case va47=>(intro _ _;go_simp;first|with_reducible rfl|done)
 case vb47=>
 refine cO ?_;generalize (b.version != 0)=af at aa⊢;refine d_ 47 (v:= .agg #[.string ⟨#[118]⟩,.bool af]) F au au au (fun _ _ _ h=>h) (.inl ⟨F,?va48⟩) Z ?vb48
 case va48=>(intro _ _;go_simp;try with_reducible rfl)
 case vb48=>
 refine cO ?_;refine d_ 48 (v:= .pointer (some ⟨w.heap.size,56,none⟩)) F au au au (fun _ _ _ h=>h) (.inl ⟨F,?va49⟩) Z ?vb49
 case va49=>(intro _ _;go_simp;try with_reducible rfl)
 case vb49=>
 refine cO ?_;refine d_ 49 (v:= .int .i64 b.count) F au au au (fun _ _ _ h=>h) (.inl ⟨F,?va50⟩) Z ?vb50
 case va50=>(intro E eU;have oz:=(ab.ext ((I E).1 eU)).cell' (ay.Bh R);go_simp;try with_reducible rfl)
 case vb50=>
 refine cO ?_;refine d_ 50 (v:= .bool (b.count != 0)) F au au au (fun _ _ _ h=>h) (.inl ⟨F,?va51⟩) Z ?vb51
 case va51=>(intro _ _;go_simp;first|with_reducible rfl|done)
 case vb51=>
 refine cO ?_;generalize (b.count != 0)=ag at aa⊢;refine d_ 51 (v:= .agg #[.string ⟨#[107]⟩,.bool ag]) F au au au (fun _ _ _ h=>h) (.inl ⟨F,?va52⟩) Z ?vb52
 case va52=>(intro _ _;go_simp;try with_reducible rfl)
 case vb52=>
 refine cO ?_;have cA:=X6 ad ae ai al am an ao ap aq ar af ag;refine aA 54 ?_;refine aZ 52 ?_;intro cr b7;go_wp2_with fail;refine b7 _ _ (aJ _ _ Z ((X.refl _).alloc _)) ?_;clear b7 cr cA;generalize bo:World.drew (World.alloc w2 _)=az;have a3:ah az w2.heap.size (yI [(116,ad),(109,ae),(114,ai),(108,al),(99,am),(101,an),(112,ao),(97,ap),(110,aq),(104,ar),(118,af),(107,ag)]) PT:=by rw[<-bo];exact ah.aI F F
 have ba:X w2 az:=by rw[<-bo];exact((X.refl w2).alloc _).drew
 replace Z:C az:=(I _).2 ba;clear bo;refine aH ?_;refine aA 53 ?_;refine dH ?_;obtain⟨cI,cd⟩:=aC ([(116,ad),(109,ae),(114,ai),(108,al),(99,am),(101,an),(112,ao),(97,ap),(110,aq),(104,ar),(118,af),(107,ag)]:List (UInt8×Bool));have a2:=X7 ad ae ai al am an ao ap aq ar af ag;rw[cd]at a3 a2;obtain⟨aw,a1⟩:=aC ([ad,ae,ai,al,am,an,ao,ap,aq,ar,af,ag]);rw[a1]at a2;have b':b.set=aw:=by rw[<-a1];exact aa
 have cb:aw.length=12:=by rw[<-a1];rfl
 obtain⟨cE,ce⟩:=aC w2.heap.size;rw[ce]at a3⊢;obtain⟨cs,bw,co,cl,bx⟩:=dM a3 (a4.ext ba) a2 b' cb;obtain⟨a_,bd⟩:=aC (nX b (lT (K:Int)));have b8:a_=((lT (K:Int)).zip aw).any (fun p=> !p.1&&p.2):=by rw[<-bd,<-cl.out];exact cz
 obtain⟨b2,b3⟩:=aB bd b8;clear cd a2 a1 b' cb ce a3 ba bd b8 ab a4 a8 aa Z aJ I;go_wp2_with fail;go_loopw [64] (fun i wr=>∃k:Nat,k<=12/\i= .int .i64 (k:Int)/\(∀j,j<k->¬(dK (K:Int) j=false/\aw.getD j false=true))/\X az wr) (fun i _=>12 - (intOf i).toNat)
 case atStart=>exact⟨0,J,F,fun j a0=>by omega,X.refl _⟩
 case round=>
  obtain⟨k,hk,rfl,b9,aE⟩:=hrel;obtain⟨a6,ck⟩:=aB b9 aE;clear b9;by_cases ac:k<12
  ·have ct:decide ((k:Int)<(12:Int))=true:=aQ J;have cv:decide (k<12)=true:=aQ ac;have cj:=cs.ext aE;have bk:=co.out k ac;obtain⟨bp,bj⟩:=aC (aw.getD k false);rw[bj]at bk;have ca:dP wr ((⟨cE,0,none⟩:Addr).add (k*2)) [Value.string ⟨#[jZ k]⟩,.bool bp]:=by
    intro j u ax;have a0:j<2:=(List.getElem?_eq_some_iff.1 ax).1;rw[dn,dn];refine cj.cell' ?_;rw[show 0+k*2+j=2*k+j by omega,X4 bk j a0];exact ax
   obtain⟨a7,b0,be⟩:=aW ca bj (fun w=>cc k w ac);obtain⟨cF,cg⟩:=aC ((⟨#[jZ k]⟩:ByteArray):ByteArray);rw[cg]at a7 be;obtain⟨cD,bi⟩:=aC (dK (K:Int) k);rw[bi]at be;have bz:=O bi;have b6:X az (wr.alloc (.cells #[.string cF,.bool bp] PT)):=aE.ext ((X.refl wr).alloc _);have a5:=O b6;clear ca bk bj cj cg bi aE b6;cases bp with
   |false=>
    go_wp2_with (first|(refine bF F (fP (i:=k) F F F underlying328 Ql ac _) ?_)|(refine bF F (bQ F F a7 Qk F) ?_));go_roundw
    case rel=>
     (repeat apply Exists.intro)
     refine⟨?rel2,?fr⟩
     case fr=>rfl
     case rel2=>exact⟨k+1,J,by go_num,fun j a0=>by
      by_cases bh:j=k
      ·subst bh;rw[b0.out];simp
      ·exact a6 j J,a5⟩
    case measure=>simp[intOf];omega
   |true=>
    go_wp2_with (first|(refine bF F (fP (i:=k) F F F underlying328 Ql ac _) ?_)|(refine bF F (bQ F F a7 Qk F) ?_));refine(be _).mono ?_;rintro e cG ⟨rfl,ci⟩;have bu:Hid (X az cG):=O (ci▸a5.out);clear ci a5;cases cD with
    |true=>
     go_wp2_with fail;go_roundw
     case rel=>
      (repeat apply Exists.intro)
      refine⟨?rel2,?fr⟩
      case fr=>rfl
      case rel2=>exact⟨k+1,J,by go_num,fun j a0=>by
       by_cases bh:j=k
       ·subst bh;rw[bz.out];simp
       ·exact a6 j J,bu⟩
     case measure=>simp[intOf];omega
    |false=>
     have hx:a_=true:=by
      rw[b3.out];exact(Qm bx (DR _)).2 ⟨k,ac,bz,b0⟩
     have a9:=O (b2.trans hx);clear hx;go_wp2_with fail;go_ret;exact⟨by rw[<-b1.out,a9.out];rfl,bw.ext bu⟩
  ·have ct:decide ((k:Int)<(12:Int))=false:=aP J;have cv:decide (k<12)=false:=aP ac;have hx:a_=false:=by
    rw[b3.out];cases cC:((lT (K:Int)).zip aw).any (fun p=> !p.1&&p.2)with
    |false=>rfl
    |true=>
     obtain⟨j,a0,cw,cx⟩:=(Qm bx (DR _)).1 cC;exact absurd ⟨cw,cx⟩ (a6 j J)
   have a9:=O (b2.trans hx);clear hx aE;go_wp2_with fail;go_ret;exact⟨by rw[<-b1.out,a9.out];rfl,bw.ext ck⟩
end Go.Proofs.YtjlhhnkhcbpnjaaGreatDoor
