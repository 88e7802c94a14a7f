/- Laws that the row leans on; no condition. -/
import Derived.Test.YtjlhhnkhcbpnjaaGreatDoorJ28
namespace Go.Proofs.YtjlhhnkhcbpnjaaGreatDoor
open Go Go.RowKit List Tryz
set_option linter.unusedVariables false
set_option linter.unusedSectionVars false
set_option linter.unusedSimpArgs false
set_option maxHeartbeats 40000000
set_option maxRecDepth 100000
section
open Go Go.RowKit
theorem dO.UF{W w w':World}{B g:Nat}(h:X W w)(t:dO B g w w')(j:W.heap.size<=B)(u:W.heap.size<=g):X W w':=
 ⟨t.os.trans h.os,t.tape.trans h.tape,t.output.trans h.output,Nat.le_trans h.size t.size,fun k hk=>(t.block k J J).trans (h.block k hk)⟩
section
variable {P:Program} {ops:Array Oper} {Q:Exit->Act->World->Prop} {S:World->Prop} {W:List Nat}
theorem d9(i:Nat){j:Oper}{r:List Oper}{f:Nat}{u:Array Bool}{a:Act}{w:World}{E:Prop}{v:Value}(h:E)(aa:ops.toList.drop i=j::r:=by exact F)(hs:Region.noSelect ops=true:=by kernel_rfl)(R:Region.free .any ops u i=true:=by kernel_rfl)(ab:(Region.ready .any ops u).contains i=true:=by kernel_rfl)(ac:Region.wanted j (yielded ops a.tmps)=true:=by exact F)(ad:∀w,(fun _=>True) w->(execOp a.eval j).run P w= .ok (.value v) w:=by(intro _ _;go_simp;try(simp only[Int.add_zero,Int.zero_add,Int.mul_zero,Int.mul_one,Int.zero_mul,Bool.false_eq_true,if_false,if_true]);first|done|rfl|exact dz|exact cB|exact bN))(hx:E->jL P ops Q S W f (u.setIfInBounds i true) (a.put j.dst v) w:=by(intro hx;simp only[Act.put,setIfInBounds_toArray,set_cons_succ,set_cons_zero];exact hx))(I:∀c a w,Q (.panic c) (a.put j.dst v) w->Q (.panic c) a w:=by exact fun _ _ _ h=>h):jL P ops Q S W (f+1) u a w:=
 kJ i aa hs R ab I (.inl ⟨ac,ad⟩) (hx h)
theorem bS(i:Nat){j:Oper}{r:List Oper}{f:Nat}{u:Array Bool}{a:Act}{w:World}{E:Prop}{v:Value}(h:E)(aa:ops.toList.drop i=j::r:=by exact F)(hs:Region.noSelect ops=true:=by kernel_rfl)(R:Region.free .any ops u i=true:=by kernel_rfl)(ab:(Region.ready .any ops u).contains i=true:=by kernel_rfl)(ac:Region.wanted j (yielded ops a.tmps)=true:=by exact F)(ad:∀w,(fun _=>True) w->(execOp a.eval j).run P w= .ok (.value v) w:=by(intro _ _;go_simp;(try simp only[Int.add_zero,Int.zero_add,Int.mul_zero,Int.mul_one,Int.zero_mul,Bool.false_eq_true,if_false,if_true,dz,bN]);try with_reducible rfl))(hx:E->jL P ops Q S W f (u.setIfInBounds i true) (a.put j.dst v) w:=by(intro hx;simp only[Act.put,setIfInBounds_toArray,set_cons_succ,set_cons_zero];exact hx))(I:∀c a w,Q (.panic c) (a.put j.dst v) w->Q (.panic c) a w:=by exact fun _ _ _ h=>h):jL P ops Q S W (f+1) u a w:=
 kJ i aa hs R ab I (.inl ⟨ac,ad⟩) (hx h)
end
structure Bx(p:Prop):Prop where
 o:p
theorem aeF{P Q:Prop}(h:P)(e:Bx P->Q:=by
 intro hgz;have dz:IntKind.i64.wrap Xi1=Xi1:=IntWalk.i64_in _ (by have:=HXB.out;omega);have bN:IntKind.i64.wrap 0=0:=IntWalk.i64_in _ J;have cB:IntKind.u8.wrap Xi1=((kL Xi1).toNat:Int):=BA Xi1;obtain⟨oc,hoc⟩:=aC (kL Xi1);rw[hoc]at cB;have HOC:=O hoc;have c52:=HCB.out 0 _ F;rw[dn]at c52;change wX.cell? ⟨w.heap.size,52,none⟩=_ at c52;have C52:=O c52;have c53:=HCB.out 1 _ F;rw[dn]at c53;change wX.cell? ⟨w.heap.size,53,none⟩=_ at c53;have C53:=O c53;have c54:=HCB.out 2 _ F;rw[dn]at c54;change wX.cell? ⟨w.heap.size,54,none⟩=_ at c54;have C54:=O c54;have c55:=HCB.out 3 _ F;rw[dn]at c55;change wX.cell? ⟨w.heap.size,55,none⟩=_ at c55;have C55:=O c55;clear hoc c52 c53 c54 c55;obtain⟨C,HCC,aJ,bP⟩:=kZ (I:=fun w'=>ah w' gb [.slice av LL.length cv] ST/\X wX w') (fun _ _ h1 h2=>⟨h1.1.ext h2,h1.2.ext h2⟩) (w:=wX) (⟨VAR,X.refl _⟩);go_upto_region 31 with(fail);refine jQ (W:=[22,23]) fun Z=> ?_;refine eY 0 (fun w1 h=>((HCC w1).1 h).1.cell' (i:=0) (v:= .slice av LL.length cv) F) ?_;refine bK 1 ?_;refine eY 2 (fun w1 h=>gW C52 ((HCC w1).1 h).2) ?_;refine bK 3 ?_;refine eY 4 (fun w1 h=>gW C53 ((HCC w1).1 h).2) ?_;refine bS 5 ?_;refine bK 6 ?_;refine eY 7 (fun w1 h=>gW C54 ((HCC w1).1 h).2) ?_;refine bK 8 ?_;refine bK 9 ?_;refine bK 13 ?_;refine eY 14 (fun w1 h=>gW C55 ((HCC w1).1 h).2) ?_;refine bK 15 ?_;refine bK 16 ?_;refine fC 10 ?_;intro Q' hQ;go_wp2_with fail;refine(yg _ _).mono ?_;rintro e wq ⟨rfl,eU⟩;rw[<-eU];clear eU wq;go_wp2_with fail;refine hQ _ _ Z ?_;clear hQ Q';refine aH ?_;refine bS 11 ?_
 refine bS 12 ?_;refine fC 17 ?_;intro Q' hQ;go_wp2_with fail;refine(yg _ _).mono ?_;rintro e wq ⟨rfl,eU⟩;rw[<-eU];clear eU wq;go_wp2_with fail;refine hQ _ _ Z ?_;clear hQ Q';refine aH ?_;refine bS 18 ?_;refine d9 19 (v:= .int .i64 Xi1) ?_;refine d9 20 (v:= .int .u8 (oc.toNat:Int)) ?_;refine fC 21 ?_;intro Q' hQ;go_wp2_with fail;refine hQ _ _ (aJ _ _ Z ((X.refl _).alloc _)) ?_;clear hQ Q' Z;generalize hwB:World.drew (World.alloc wX _)=wB;have nB:ah wB wX.heap.size (([oc]:aj).map Y) 5:=by rw[<-hwB];exact ah.aI F F
 have eB:X wX wB:=by rw[<-hwB];exact((X.refl wX).alloc _).drew
 obtain⟨NB,EB2,OB⟩:=aW nB eB (OWN.ext eB);have hleB:=Nat.le_trans hle eB.size;clear hwB nB eB;refine aH ?_;refine iU 22 ?_;intro Q' hQ;go_wp2_with (at_builtin;refine uj F _ _ F (gi+1) (ys:=[oc]) F F OB F (tJ NB) J hleB ?_);intro v4 w4 own4 g4;have BE3:Below (gi+1) wB w4:=(Below.refl (gi+1) wB).grown g4 hleB OB.pK;have BEL:Below (gi+1) wX w4:=Below.trans (EB2.mono hle) BE3;obtain⟨E4,O4⟩:=aB (show dO (gi+1) gb wX w4 from(dO.below BEL)) own4;have hb4:ah w4 gb [.slice av LL.length cv] ST:=Below.lF (BEL) hbB VAR;have kb:=hb4.cell' (i:=0) (v:= .slice av LL.length cv) F;have fb:=hb4.frozen 0;obtain⟨a6,c6,rfl, -, -, -, -⟩:=O4.slice;have HB4:=O hb4;clear hb4 own4 g4;go_wp2_with fail;refine hQ _ _ trivial ?_;clear hQ Q';refine aH ?_;refine iU 23 ?_;intro Q' hQ;go_wp2_with fail;generalize hwC:World.setCell w4 _ _=wC;have bC:ah wC gb [.slice a6 (LL.length+1) c6] ST:=by rw[<-hwC];exact HB4.set 0 (.slice a6 (LL.length+1) c6)
 have uC:aU w4 gb wC:=by rw[<-hwC];exact aU.setCell _
 have htc:dO (gi+1) gb wX wC:=E4.trans (dO.upd uC);have ownC:=O4.turn (w':=wC) fun i hi _=>uC.block i J;refine hQ _ _ trivial ?_;refine aH ?_;refine jR ?_;clear hwC uC HB4 kb fb O4 E4 BE3 BEL NB cB;revert ownC htc bC;revert wC;revert c6 a6;revert HOC oc;exact hgz.o):Q:=e ⟨h⟩
theorem adw(act:Int)(b:ay)(w:World)(et:b.Ok w):
 Calls prog 86 #[.int .i64 act,.agg b.v.toArray] w fun e w'=>X w w'/\((jS act b=0/\∃v,e= .returned (.tuple #[v,.int .i64 0])/\h_ w' w.heap.size v (fG (gy act) b.p).length (fG (gy act) b.p))∨(jS act b≠0/\e= .returned (.tuple #[.slice none 0 0,.int .i64 (jS act b)]))):=by
 have ab:=O et;clear et;have el:=O (Qn act b);go_enter func86,ntmps86;go_upto_region 1 with(fail);generalize dl:World.alloc w _=dy;have ed:ah dy w.heap.size b.v 101:=by rw[<-dl];exact ah.aI F F
 have ei:X w dy:=by rw[<-dl];exact(X.refl w).alloc _
 obtain⟨cF,cJ,eQ⟩:=aW ed ei (ay.len ab);clear dl ed ei;go_wp2_with (refine bV F 101 (.tmp 3) F F cF eP eQ ?_);refine(el dy (ab.ext cJ)).mono ?_;rintro e w2 ⟨rfl,e2⟩;obtain⟨cG,cL⟩:=aB (cF.ext e2) (cJ.ext e2);clear e2 cF cJ el;by_cases bk:jS act b=0
 rotate_left
 ·obtain⟨E,c5⟩:=aC (jS act b);rw[c5]at bk⊢;have cw:(E != 0)=true:=by simpa using bk
  obtain⟨cP,d2⟩:=aB bk c5;clear c5 bk;go_wp2_with fail
  go_ret2
  exact⟨cL,.inr ⟨by rw[d2.out];exact cP,by rw[d2.out];rfl⟩⟩
 have a9:=O (Ed bk);have az:=O (Ed bk).small;have cP:=O bk;rw[bk];clear bk;have bx:=a9.uZ;have fa:1<=act/\act<=12:=by unfold iI at bx;simpa using bx
 obtain⟨K,rfl⟩:∃K:Nat,act=(K:Int):=⟨act.toNat,J⟩;have dg:=O (fun w=>Gy K w J);have cD:=Qi bx;rw[show(K:Int).toNat=K from F]at cD;have dc:=Qh bx;have c8:=adv bx;obtain⟨aa,cz⟩:=aC (gy (K:Int));have b4:=O cz;rw[cz]at cD dc c8;obtain⟨us,dj⟩:=aC ((⟨(rF K).toArray⟩:ByteArray):ByteArray);rw[dj]at dg;have di:us.data.toList=aa.map jZ:=by rw[<-dj,<-cD]
 have ey:us.size=aa.length:=by
  have bj:=congrArg List.length di;rw[Array.length_toList,length_map]at bj;exact bj
 have fs:aa.length<=12:=by
  rw[<-cz];rcases wo bx with h|h|h|h|h|h|h|h|h|h|h|h<;>rw[h]<;>decide
 obtain⟨eW,d4,eS,b3⟩:=bU di ey dc c8;have b5:=O a9.zeros;clear cD dj di ey dc c8 cz bx fa;go_upto_region 5 with(fail);generalize dm:World.alloc w2 _=dC;obtain⟨gb,cA⟩:=aC w2.heap.size;have eE:ah dC gb [.slice none 0 0] ST:=by rw[<-dm,<-cA];exact ah.aI F F
 have c3:X w2 dC:=by rw[<-dm];exact(X.refl w2).alloc _
 have a3:w.heap.size<gb:=by rw[<-cA];exact cG.lt
 rw[cA];obtain⟨dT,d1,ea⟩:=aW (cG.ext c3) (cL.ext c3) eE;clear dm cA eE c3 cG cL;go_wp2_with fail;refine(dg dC).mono ?_;rintro e bm ⟨rfl,a_⟩;obtain⟨dE,d0,c0⟩:=aW (dT.ext a_) (d1.ext a_) (ea.ext a_);have fd:gb<bm.heap.size:=c0.lt;clear a_ dT d1 ea dg;go_wp2_with fail;obtain⟨gi,c_⟩:=aC bm.heap.size;have da:=World.iter_heap bm us 0;have cx:X bm (bm.iter us 0):=(X.refl bm).alloc _;have ex:(bm.iter us 0).heap.size=gi+1:=by rw[<-c_];exact uO bm _
 rw[c_]at da fd⊢;have e9:w.heap.size≠gi:=J;have fc:gb≠gi:=J;have a4:gi≠gb:=J;have e_:w.heap.size<=gi:=J;have ai:w.heap.size<gi+1:=J;have hbB:gb<gi+1:=J;have aE:gi<gi+1:=J;have d7:AA w gb gi (gi+1) us b 40000 [] (bm.iter us 0) (.slice none 0 0):=
  ⟨dE.ext cx,c0.ext cx,⟨F,.inl ⟨F,F⟩⟩,by simp[fG],d0.ext cx,by rw[ex];exact Nat.le_refl _,da⟩
 clear da cx ex dE d0 c0 c_
 go_loopg [] aa.length (fun e8 wx=>∃(k:Nat) (v:Value),k<=aa.length/\AA w gb gi (gi+1) us b 40000 (aa.take k) wx v/\aa.length<=k+e8)
 case atStart=>exact⟨0,.slice none 0 0,J,by simpa using d7,J⟩
 case round=>
  obtain⟨k,v,hk,ba,fn⟩:=hrel;clear d7;have cm:(aa.take k).length=k:=by rw[length_take];omega
  by_cases de:k<aa.length
  ·obtain⟨ao,rfl⟩:∃ao,gk=ao+1:=⟨gk - 1,J⟩;obtain⟨i,hi⟩:∃i,aa[k]? =some i:=⟨_,List.getElem?_eq_getElem de⟩;have bp:aa.take (k+1)=aa.take k++[i]:=by rw[take_add_one,hi];rfl
   have fo:i<12:=eS.2 i (mem_of_getElem? hi);have a8:=O (mem_of_getElem? hi);have b6:k<us.size:=by rw[d4.out];exact de
   have bo:=ba.it;rw[cm]at bo;have ar:∀ty,(Instr.next (.pointer (some ⟨gi,0,none⟩)) true ty).run prog wr=_:=fun ty=>Lib.run_next_any_at wr gi us k ty bo b6;have df:us[k]'b6=jZ i:=by
    have bj:us.data.toList[k]? =some (jZ i):=by rw[eW.out,List.getElem?_map,hi];rfl
    rw[Array.getElem?_toList]at bj;exact(Array.getElem?_eq_some_iff.1 bj).2
   have ek:(us[k]'b6).toNat<128:=by
    rw[df];rcases(by omega:i=0∨i=1∨i=2∨i=3∨i=4∨i=5∨i=6∨i=7∨i=8∨i=9∨i=10∨i=11)with rfl|rfl|rfl|rfl|rfl|rfl|rfl|rfl|rfl|rfl|rfl|rfl<;>decide
   have c9:=decode_ascii us k b6 ek;rw[df]at c9;rw[c9]at ar;have ag:IX w gb gi (gi+1) us b 40000 (aa.take k) (wr.iterAt gi us (k+1)) v:=
    ba.next e9 fc e_ aE (fun j cj=>Lib.iterAt_other wr gi j us (k+1) cj) (Lib.iterAt_size ..) ⟨F,F,F⟩ (by rw[cm];exact Lib.iterAt_heap wr gi us k (k+1) bo)
   have d3:=O bp;clear ba bo c9 df ek bp hi;simp only at ar;generalize wr.iterAt gi us (k+1)=wX at*;have ev:∀wz v2,AA w gb gi (gi+1) us b 40000 (aa.take k++[i]) wz v2->∃(k:Nat) (v:Value),k<=aa.length/\AA w gb gi (gi+1) us b 40000 (aa.take k) wz v/\aa.length<=k+ao:=
    fun wz v2 h=>⟨k+1,v2,J,by rw[d3.out];exact h,J⟩
   have a2:=O ev;clear ev d3;obtain⟨av,cv,dk,fj,ff,fi,fe⟩:=ag.own.slice;subst dk;have er:=ag.len;rw[cm]at er;have fh:(fG (aa.take k) b.p).length<=480000:=by
    have:40000*k<=40000*12:=Nat.mul_le_mul_left _ J;omega
   have dq:=ag.own;have a7:=ag.var.cell' (i:=0) (v:= .slice av (fG (aa.take k) b.p).length cv) F;obtain⟨LL,cy⟩:=aC (fG (aa.take k) b.p);rw[cy]at dq fh a7;have VAR:=O ag.var;rw[cy]at VAR;obtain⟨a1,OWN⟩:=aB cy dq;have hle:=ag.le;have af:=O ag.body;have bu:=O (ab.ext ag.ext);clear cy dq er fe fj ff fi;rcases(by omega:i=0∨i=1∨i=2∨i=3∨i=4∨i=5∨i=6∨i=7∨i=8∨i=9∨i=10∨i=11)with rfl|rfl|rfl|rfl|rfl|rfl|rfl|rfl|rfl|rfl|rfl|rfl
   ·rw[show(jZ 0).toNat=116 from F]at ar;have fx:=af.cell' (ay.aL b);have ft:=az.t;go_wp2_with (at_builtin;refine P9 F _ _ F (gi+1) F F OWN J hle ?_);intro v4 w4 own4 g4;have BEL:=(Below.refl (gi+1) wX).grown g4 hle OWN.pK;obtain⟨E4,O4⟩:=aB (show dO (gi+1) gb wX w4 from(dO.below BEL)) own4;have hb4:ah w4 gb [.slice av LL.length cv] ST:=Below.lF (BEL) hbB VAR;have kb:=hb4.cell' (i:=0) (v:= .slice av LL.length cv) F;have fb:=hb4.frozen 0;obtain⟨a6,c6,rfl, -, -, -, -⟩:=O4.slice;have HB4:=O hb4;clear hb4 own4 g4;go_wp2_with fail;generalize hwC:World.setCell w4 _ _=wC;have bC:ah wC gb [.slice a6 (LL.length+b.text.size) c6] ST:=by rw[<-hwC];exact HB4.set 0 (.slice a6 (LL.length+b.text.size) c6)
    have uC:aU w4 gb wC:=by rw[<-hwC];exact aU.setCell _
    have htc:dO (gi+1) gb wX wC:=E4.trans (dO.upd uC);have ownC:=O4.turn (w':=wC) fun i hi _=>uC.block i J;rw[show LL++b.text.data.toList=fG (aa.take k) b.p++jo 0 b.p from by rw[a1.out];exact congrArg _ (rfl)]at ownC;have R:=a2.out _ _ (ag.next (i:=0) a3 a4 ai aE htc bC ownC (by show b.text.data.toList.length<=_;rw[Array.length_toList];exact Nat.le_trans az.t aX));have ad:=O R;clear hwC bC uC htc ownC R kb fb;go_wp2_with fail
    go_roundg ao
    case measure=>omega
    case rel=>exact ad
   ·rw[show(jZ 1).toNat=109 from F]at ar;obtain⟨C,HCC,aJ,bP⟩:=kZ (I:=fun w'=>ah w' gb [.slice av LL.length cv] ST/\ah w' w.heap.size b.v 101) (fun _ _ h1 h2=>⟨h1.1.ext h2,h1.2.ext h2⟩) (w:=wX) (⟨VAR,af⟩);clear a7;have b9:=O ab.hm;go_upto_region 13 with(fail);refine jQ (W:=[4]) fun Z=> ?_;refine eY 0 (fun w1 h=>((HCC w1).1 h).1.cell' (i:=0) (v:= .slice av LL.length cv) F) ?_;refine bK 1 ?_;refine fC 2 ?_;intro Q' hQ;go_wp2_with fail;refine hQ _ _ Z ?_;clear hQ Q';refine aH ?_;refine fC 3 ?_;intro Q' hQ;go_wp2_with (at_builtin;refine uj F _ _ F (gi+1) (ys:=b.member) F F (OWN.ext (X.refl wX).drew) b9 ((ay.JL bu af).ext (X.refl wX).drew) J hle ?_);intro v4 w4 own4 g4;have BEL:Below (gi+1) wX w4:=((Below.refl (gi+1) wX).drew).grown g4 hle OWN.pK;have al:C w4:=(HCC _).2 ⟨Below.lF BEL hbB VAR,Below.lF BEL ai af⟩;obtain⟨E4,O4⟩:=aB (show dO (gi+1) gb wX w4 from(dO.below BEL)) own4;have hb4:ah w4 gb [.slice av LL.length cv] ST:=Below.lF (BEL) hbB VAR;have kb:=hb4.cell' (i:=0) (v:= .slice av LL.length cv) F;have fb:=hb4.frozen 0;obtain⟨a6,c6,rfl, -, -, -, -⟩:=O4.slice;have HB4:=O hb4;clear hb4 own4 g4;go_wp2_with fail;refine hQ _ _ al ?_;clear hQ Q' Z;refine aH ?_;refine iU 4 ?_;intro Q' hQ;go_wp2_with fail;generalize hwC:World.setCell w4 _ _=wC;have bC:ah wC gb [.slice a6 (LL.length+16) c6] ST:=by rw[<-hwC];exact HB4.set 0 (.slice a6 (LL.length+16) c6)
    have uC:aU w4 gb wC:=by rw[<-hwC];exact aU.setCell _
    have htc:dO (gi+1) gb wX wC:=E4.trans (dO.upd uC);have ownC:=O4.turn (w':=wC) fun i hi _=>uC.block i J;refine hQ _ _ trivial ?_;refine aH ?_;refine jR ?_;rw[show LL++b.member=fG (aa.take k) b.p++jo 1 b.p from by rw[a1.out];exact congrArg _ (rfl)]at ownC;have R:=a2.out _ _ (ag.next (i:=1) a3 a4 ai aE htc bC ownC (by show b.member.length<=_;rw[b9.out];decide));have ad:=O R;clear hwC bC uC htc ownC R kb fb;go_wp2_with fail
    go_roundg ao
    case measure=>omega
    case rel=>exact ad
   ·rw[show(jZ 2).toNat=114 from F]at ar;have e6:=af.cell' (ay.pI bu);have fk:=az.rn;have cn:IntKind.u8.wrap (b.rn:Int)=((kL (b.rn:Int)).toNat:Int):=BA _;obtain⟨oc,hoc⟩:=aC (kL (b.rn:Int));rw[hoc]at cn;have HOC:=O hoc;have bi:=O ab.rl;clear hoc;go_upto_region 16 with(at_builtin;refine uj F _ _ F (gi+1) (ys:=[oc]) F F (OWN.ext ((X.refl _).alloc _)) F (tJ (ah.aI F F)) J (Nat.le_trans hle (by rw[uO];exact Nat.le_succ _)) ?_);intro v4 w4 own4 g4;have BEL:Below (gi+1) wX w4:=((Below.refl (gi+1) wX).alloc hle _).grown g4 (Nat.le_trans hle (by rw[uO];exact Nat.le_succ _)) OWN.pK;obtain⟨E4,O4⟩:=aB (show dO (gi+1) gb wX w4 from(dO.below BEL)) own4;have hb4:ah w4 gb [.slice av LL.length cv] ST:=Below.lF (BEL) hbB VAR;have kb:=hb4.cell' (i:=0) (v:= .slice av LL.length cv) F;have fb:=hb4.frozen 0;obtain⟨a6,c6,rfl, -, -, -, -⟩:=O4.slice;have HB4:=O hb4;clear hb4 own4 g4;clear a7 cn e6;go_upto_region 16 with(fail);generalize hwC:World.setCell w4 _ _=wC;have bC:ah wC gb [.slice a6 (LL.length+1) c6] ST:=by rw[<-hwC];exact HB4.set 0 (.slice a6 (LL.length+1) c6)
    have uC:aU w4 gb wC:=by rw[<-hwC];exact aU.setCell _
    have htc:dO (gi+1) gb wX wC:=E4.trans (dO.upd uC);have ownC:=O4.turn (w':=wC) fun i hi _=>uC.block i J;have cI:=O (htc.blk ai J af);have ee:=cI.cell' (ay.pI bu);obtain⟨cY,cW,c1⟩:=aW htc ownC bC;clear hwC bC uC htc ownC kb fb E4 O4 HB4;go_wp2_with fail;go_loopw [53] (fun i wr=>∃(k1:Nat) (v':Value),k1<=b.rn/\i= .int .i64 (k1:Int)/\h_ wr (gi+1) v' (LL.length+1+((b.roles.take k1).map kU).flatten.length) ((LL++[oc])++((b.roles.take k1).map kU).flatten)/\ah wr gb [v'] ST/\dO (gi+1) gb wX wr) (fun i _=>b.rn - (intOf i).toNat)
    case atStart=>exact⟨0,_,J,F,by simpa using cW.out,c1,cY⟩
    case round=>
     obtain⟨k1,v',fg,rfl,am,be,a0⟩:=hrel;have c4:X w wr:=dO.UF ag.ext a0 J J;have db:=XV az k1 J;by_cases bz:k1<b.rn
     ·have cw:decide ((k1:Int)<(b.rn:Int))=true:=aQ J;have c2:decide (k1<b.rn)=true:=aQ bz;have cS:=bi.out;obtain⟨x,bc⟩:∃x,b.roles[k1]? =some x:=⟨b.roles[k1]'J,List.getElem?_eq_getElem _⟩;obtain⟨A,ce,en⟩:=zC (ab.nU.ext c4) bc;obtain⟨cN,cM⟩:=aB en ce;have fv:=az.rs x (mem_of_getElem? bc);have b':=O (XW bc);obtain⟨P,cf⟩:=aC (((b.roles.take k1).map kU).flatten);rw[cf]at am db b';obtain⟨ca,cd,cc⟩:=aW am be a0;have cC:gi+1<=wr.heap.size:=Nat.le_trans hle a0.size;clear en ce bc cf am be a0 cS ee;go_wp2_with (first|(refine jU F (fP (p:=A) (i:=k1) F (by show Value.slice b.ra b.rn b.rc=_;rw[cM.out]) F underlying98 tV bz _) ?_)|(refine jU F (kT F F cN oO) ?_));refine(UE _ x v' _ (gi+1) gb wr ca cd hbB cC J).mono ?_;rintro e fz ⟨fl,rfl,eA,eI,eC⟩;obtain⟨cq,cr,cX⟩:=aW eA eI (cc.trans eC);clear eA eI eC ca cd cc;go_wp2_with fail;go_roundw
      case rel=>exact⟨k1+1,fl,J,by go_num,by rw[b'.out,length_append,DU,<-append_assoc];have bj:=cq.out;rw[show LL.length+1+(P.length+(x.size+1))=LL.length+1+P.length+(x.size+1) by omega];exact bj,cr,cX⟩
      case measure=>simp[intOf];omega
     ·have cw:decide ((k1:Int)<(b.rn:Int))=false:=aP J;have c2:decide (k1<b.rn)=false:=aP bz;have bp:b.roles.take k1=b.roles:=take_of_length_le (by rw[bi.out];omega);rw[bp]at am;rw[show(LL++[oc])++(b.roles.map kU).flatten=fG (aa.take k) b.p++jo 2 b.p from by
       rw[a1.out,<-HOC.out,P_,<-bi.out];show _=LL++Bj b.roles;unfold Bj;simp]at am
      have R:=a2.out _ _ (ag.next (i:=2) a3 a4 ai aE a0 be am (Nat.le_trans (Qe az bi) aX));have ad:=O R;clear am be a0 bp R ee;go_wp2_with fail
      go_roundg ao
      case measure=>omega
      case rel=>exact ad
   ·rw[show(jZ 3).toNat=108 from F]at ar;have fw:=af.cell' (ay.zH bu);have fr:=az.l;go_wp2_with fail;refine(UE LL b.label _ LL.length (gi+1) gb wX OWN VAR hbB hle J).mono ?_;rintro e wC ⟨v4,rfl,ownC,bC,htc⟩;rw[show LL++kU b.label=fG (aa.take k) b.p++jo 3 b.p from by rw[a1.out];rfl]at ownC;have R:=a2.out _ _ (ag.next (i:=3) a3 a4 ai aE htc bC ownC (by show(kU b.label).length<=_;rw[DU];omega));have ad:=O R;clear bC htc ownC R;go_wp2_with fail
    go_roundg ao
    case measure=>omega
    case rel=>exact ad
   ·rw[show(jZ 4).toNat=99 from F]at ar;obtain⟨C,HCC,aJ,bP⟩:=kZ (I:=fun w'=>ah w' gb [.slice av LL.length cv] ST/\ah w' w.heap.size b.v 101) (fun _ _ h1 h2=>⟨h1.1.ext h2,h1.2.ext h2⟩) (w:=wX) (⟨VAR,af⟩);clear a7;have b9:=O ab.hcm;go_upto_region 24 with(fail);refine jQ (W:=[4]) fun Z=> ?_;refine eY 0 (fun w1 h=>((HCC w1).1 h).1.cell' (i:=0) (v:= .slice av LL.length cv) F) ?_;refine bK 1 ?_;refine fC 2 ?_;intro Q' hQ;go_wp2_with fail;refine hQ _ _ Z ?_;clear hQ Q';refine aH ?_;refine fC 3 ?_;intro Q' hQ;go_wp2_with (at_builtin;refine uj F _ _ F (gi+1) (ys:=b.commit) F F (OWN.ext (X.refl wX).drew) b9 ((ay.comm bu af).ext (X.refl wX).drew) J hle ?_);intro v4 w4 own4 g4;have BEL:Below (gi+1) wX w4:=((Below.refl (gi+1) wX).drew).grown g4 hle OWN.pK;have al:C w4:=(HCC _).2 ⟨Below.lF BEL hbB VAR,Below.lF BEL ai af⟩;obtain⟨E4,O4⟩:=aB (show dO (gi+1) gb wX w4 from(dO.below BEL)) own4;have hb4:ah w4 gb [.slice av LL.length cv] ST:=Below.lF (BEL) hbB VAR;have kb:=hb4.cell' (i:=0) (v:= .slice av LL.length cv) F;have fb:=hb4.frozen 0;obtain⟨a6,c6,rfl, -, -, -, -⟩:=O4.slice;have HB4:=O hb4;clear hb4 own4 g4;go_wp2_with fail;refine hQ _ _ al ?_;clear hQ Q' Z;refine aH ?_;refine iU 4 ?_;intro Q' hQ;go_wp2_with fail;generalize hwC:World.setCell w4 _ _=wC;have bC:ah wC gb [.slice a6 (LL.length+32) c6] ST:=by rw[<-hwC];exact HB4.set 0 (.slice a6 (LL.length+32) c6)
    have uC:aU w4 gb wC:=by rw[<-hwC];exact aU.setCell _
    have htc:dO (gi+1) gb wX wC:=E4.trans (dO.upd uC);have ownC:=O4.turn (w':=wC) fun i hi _=>uC.block i J;refine hQ _ _ trivial ?_;refine aH ?_;refine jR ?_;rw[show LL++b.commit=fG (aa.take k) b.p++jo 4 b.p from by rw[a1.out];exact congrArg _ (rfl)]at ownC;have R:=a2.out _ _ (ag.next (i:=4) a3 a4 ai aE htc bC ownC (by show b.commit.length<=_;rw[b9.out];decide));have ad:=O R;clear hwC bC uC htc ownC R kb fb;go_wp2_with fail
    go_roundg ao
    case measure=>omega
    case rel=>exact ad
   ·rw[show(jZ 5).toNat=101 from F]at ar;obtain⟨C,HCC,aJ,bP⟩:=kZ (I:=fun w'=>ah w' gb [.slice av LL.length cv] ST/\ah w' w.heap.size b.v 101) (fun _ _ h1 h2=>⟨h1.1.ext h2,h1.2.ext h2⟩) (w:=wX) (⟨VAR,af⟩);clear a7;go_upto_region 26 with(fail);refine jQ (W:=[5]) fun Z=> ?_;refine eY 0 (fun w1 h=>((HCC w1).1 h).1.cell' (i:=0) (v:= .slice av LL.length cv) F) ?_;refine bK 1 ?_;refine eY 2 (fun w1 h=>((HCC w1).1 h).2.cell' (ay.mD ab)) ?_;obtain⟨an,bw⟩:∃an:Nat,b.epoch=(an:Int):=⟨b.epoch.toNat,by have:=az.e;omega⟩;have e':an<=4294967295:=by have:=az.e;omega
    have cR:=O bw;rw[bw];clear bw;refine fC 3 ?_;intro Q' hQ;go_wp2_with fail;refine(O9 an wX.drew J).mono ?_;rintro e bh ⟨rfl,ch,a_⟩;have ax:X wX bh:=(X.refl wX).drew.ext a_;have ci:dP bh ⟨wX.heap.size,4,none⟩ ((gq (UInt32.ofNat an)).map Y):=dP.of ch;have b8:=O ci;have al:=aJ _ _ bP ax;obtain⟨cT,cb⟩:=aB ax (OWN.ext ax);have ck:=Nat.le_trans hle ax.size;obtain⟨e5,eN⟩:=aB (VAR.ext ax) (af.ext ax);obtain⟨ys,bl⟩:=aC (gq (UInt32.ofNat an));have co:ys.length=4:=by rw[<-bl];rfl
    rw[bl]at b8;obtain⟨cV,cU⟩:=aB bl co;clear ch ci a_ bl co ax;go_wp2_with fail;refine hQ _ _ al ?_;clear hQ Q' Z;have Z:=al;clear al;refine aH ?_;refine fC 4 ?_;intro Q' hQ;go_wp2_with (at_builtin;refine uj F _ _ F (gi+1) (ys:=ys) F F cb cU b8 J ck ?_);intro v4 w4 own4 g4;have BE3:Below (gi+1) bh w4:=(Below.refl (gi+1) bh).grown g4 ck cb.pK;have BEL:Below (gi+1) wX w4:=Below.trans (cT.mono hle) BE3;have al:C w4:=(HCC _).2 ⟨Below.lF BEL hbB VAR,Below.lF BEL ai af⟩;obtain⟨E4,O4⟩:=aB (show dO (gi+1) gb wX w4 from(dO.below BEL)) own4;have hb4:ah w4 gb [.slice av LL.length cv] ST:=Below.lF (BEL) hbB VAR;have kb:=hb4.cell' (i:=0) (v:= .slice av LL.length cv) F;have fb:=hb4.frozen 0;obtain⟨a6,c6,rfl, -, -, -, -⟩:=O4.slice;have HB4:=O hb4;clear hb4 own4 g4;go_wp2_with fail;refine hQ _ _ al ?_;clear hQ Q' Z;refine aH ?_;refine iU 5 ?_;intro Q' hQ;go_wp2_with fail;generalize hwC:World.setCell w4 _ _=wC;have bC:ah wC gb [.slice a6 (LL.length+4) c6] ST:=by rw[<-hwC];exact HB4.set 0 (.slice a6 (LL.length+4) c6)
    have uC:aU w4 gb wC:=by rw[<-hwC];exact aU.setCell _
    have htc:dO (gi+1) gb wX wC:=E4.trans (dO.upd uC);have ownC:=O4.turn (w':=wC) fun i hi _=>uC.block i J;refine hQ _ _ trivial ?_;refine aH ?_;refine jR ?_;rw[show LL++ys=fG (aa.take k) b.p++jo 5 b.p from by rw[a1.out];exact congrArg _ (by rw[<-cV.out];show gq (UInt32.ofNat an)=gq (UInt32.ofNat b.epoch.toNat);rw[cR.out];rfl)]at ownC;have R:=a2.out _ _ (ag.next (i:=5) a3 a4 ai aE htc bC ownC (by show(gq _).length<=_;simp[gq]));have ad:=O R;clear hwC bC uC htc ownC R kb fb;go_wp2_with fail
    go_roundg ao
    case measure=>omega
    case rel=>exact ad
   ·rw[show(jZ 6).toNat=112 from F]at ar;have ap:0<=b.purpose/\b.purpose<=255:=by
     have aw:=a9.range;have a5:dK (K:Int) 6=true:=IY a9.uZ (by rw[b4.out];exact a8);unfold pJ dR at aw;simp only[Bool.or_eq_false_iff,Bool.and_eq_false_imp,decide_eq_false_iff_not]at aw;obtain⟨⟨⟨⟨⟨b0,ds⟩,dt⟩,b1⟩,du⟩,dv⟩:=aw;first|(have:=b0 a5;omega)|(have:=b1 a5;omega)|omega
    have bt:=b5.a (b3.1 a8);have ac:dP wX ⟨w.heap.size,52,none⟩ [.int .i64 b.purpose,.int .i64 b.reason,.int .i64 b.need,.int .i64 b.version]:=by
     intro j u ae;have cj:j<4:=(List.getElem?_eq_some_iff.1 ae).1;rw[dn];refine af.cell' ?_;rcases(by omega:j=0∨j=1∨j=2∨j=3)with rfl|rfl|rfl|rfl
     ·rw[ay.nV ab.out];exact ae
     ·rw[ay.oQ ab.out];exact ae
     ·rw[ay.xw ab.out];exact ae
     ·rw[ay.xA ab.out];exact ae
    rw[bt]at ac;obtain⟨Xi1,aq⟩:=aC b.purpose;rw[aq]at ac ap;generalize b.need=eJ at ac;generalize b.version=eK at ac;clear bt;obtain⟨bv,HXB,HCB⟩:=aW aq ap ac;clear aq ac ap a7;refine aeF ?_;intro oc HOC a6 c6 wC bC htc ownC;rw[show LL++[oc]=fG (aa.take k) b.p++jo 6 b.p from by rw[a1.out];exact congrArg _ (by rw[<-HOC.out,<-bv.out];rfl)]at ownC;have R:=a2.out _ _ (ag.next (i:=6) a3 a4 ai aE htc bC ownC (Nat.le_of_ble_eq_true F));have ad:=O R;clear bC htc ownC R;go_wp2_with fail
    go_roundg ao
    case measure=>omega
    case rel=>exact ad
   ·rw[show(jZ 7).toNat=97 from F]at ar;have ap:0<=b.reason/\b.reason<=255:=by
     have aw:=a9.range;have a5:dK (K:Int) 7=true:=IY a9.uZ (by rw[b4.out];exact a8);unfold pJ dR at aw;simp only[Bool.or_eq_false_iff,Bool.and_eq_false_imp,decide_eq_false_iff_not]at aw;obtain⟨⟨⟨⟨⟨b0,ds⟩,dt⟩,b1⟩,du⟩,dv⟩:=aw;first|(have:=b0 a5;omega)|(have:=b1 a5;omega)|omega
    have br:=b5.p (b3.2.1 a8);have ac:dP wX ⟨w.heap.size,52,none⟩ [.int .i64 b.purpose,.int .i64 b.reason,.int .i64 b.need,.int .i64 b.version]:=by
     intro j u ae;have cj:j<4:=(List.getElem?_eq_some_iff.1 ae).1;rw[dn];refine af.cell' ?_;rcases(by omega:j=0∨j=1∨j=2∨j=3)with rfl|rfl|rfl|rfl
     ·rw[ay.nV ab.out];exact ae
     ·rw[ay.oQ ab.out];exact ae
     ·rw[ay.xw ab.out];exact ae
     ·rw[ay.xA ab.out];exact ae
    rw[br]at ac;obtain⟨Xi1,aq⟩:=aC b.reason;rw[aq]at ac ap;generalize b.need=eJ at ac;generalize b.version=eK at ac;clear br;obtain⟨bv,HXB,HCB⟩:=aW aq ap ac;clear aq ac ap a7;refine aeF ?_;intro oc HOC a6 c6 wC bC htc ownC;rw[show LL++[oc]=fG (aa.take k) b.p++jo 7 b.p from by rw[a1.out];exact congrArg _ (by rw[<-HOC.out,<-bv.out];rfl)]at ownC;have R:=a2.out _ _ (ag.next (i:=7) a3 a4 ai aE htc bC ownC (Nat.le_of_ble_eq_true F));have ad:=O R;clear bC htc ownC R;go_wp2_with fail
    go_roundg ao
    case measure=>omega
    case rel=>exact ad
   ·rw[show(jZ 8).toNat=110 from F]at ar;have ap:0<=b.need/\b.need<=255:=by
     have aw:=a9.range;have a5:dK (K:Int) 8=true:=IY a9.uZ (by rw[b4.out];exact a8);unfold pJ dR at aw;simp only[Bool.or_eq_false_iff,Bool.and_eq_false_imp,decide_eq_false_iff_not]at aw;obtain⟨⟨⟨⟨⟨b0,ds⟩,dt⟩,b1⟩,du⟩,dv⟩:=aw;first|(have:=b0 a5;omega)|(have:=b1 a5;omega)|omega
    have br:=b5.p (b3.2.2.1 a8).1;have bt:=b5.a (b3.2.2.1 a8).2;have ac:dP wX ⟨w.heap.size,52,none⟩ [.int .i64 b.purpose,.int .i64 b.reason,.int .i64 b.need,.int .i64 b.version]:=by
     intro j u ae;have cj:j<4:=(List.getElem?_eq_some_iff.1 ae).1;rw[dn];refine af.cell' ?_;rcases(by omega:j=0∨j=1∨j=2∨j=3)with rfl|rfl|rfl|rfl
     ·rw[ay.nV ab.out];exact ae
     ·rw[ay.oQ ab.out];exact ae
     ·rw[ay.xw ab.out];exact ae
     ·rw[ay.xA ab.out];exact ae
    rw[br,bt]at ac;obtain⟨Xi1,aq⟩:=aC b.need;rw[aq]at ac ap;generalize b.version=eK at ac;clear br bt;obtain⟨bv,HXB,HCB⟩:=aW aq ap ac;clear aq ac ap a7;refine aeF ?_;intro oc HOC a6 c6 wC bC htc ownC;rw[show LL++[oc]=fG (aa.take k) b.p++jo 8 b.p from by rw[a1.out];exact congrArg _ (by rw[<-HOC.out,<-bv.out];rfl)]at ownC;have R:=a2.out _ _ (ag.next (i:=8) a3 a4 ai aE htc bC ownC (Nat.le_of_ble_eq_true F));have ad:=O R;clear bC htc ownC R;go_wp2_with fail
    go_roundg ao
    case measure=>omega
    case rel=>exact ad
   ·rw[show(jZ 9).toNat=104 from F]at ar;have e7:=af.cell' (ay.xB bu);have fk:=az.hn;have cn:IntKind.u8.wrap (b.hn:Int)=((kL (b.hn:Int)).toNat:Int):=BA _;obtain⟨oc,hoc⟩:=aC (kL (b.hn:Int));rw[hoc]at cn;have HOC:=O hoc;have bi:=O ab.hl;clear hoc;go_upto_region 34 with(at_builtin;refine uj F _ _ F (gi+1) (ys:=[oc]) F F (OWN.ext ((X.refl _).alloc _)) F (tJ (ah.aI F F)) J (Nat.le_trans hle (by rw[uO];exact Nat.le_succ _)) ?_);intro v4 w4 own4 g4;have BEL:Below (gi+1) wX w4:=((Below.refl (gi+1) wX).alloc hle _).grown g4 (Nat.le_trans hle (by rw[uO];exact Nat.le_succ _)) OWN.pK;obtain⟨E4,O4⟩:=aB (show dO (gi+1) gb wX w4 from(dO.below BEL)) own4;have hb4:ah w4 gb [.slice av LL.length cv] ST:=Below.lF (BEL) hbB VAR;have kb:=hb4.cell' (i:=0) (v:= .slice av LL.length cv) F;have fb:=hb4.frozen 0;obtain⟨a6,c6,rfl, -, -, -, -⟩:=O4.slice;have HB4:=O hb4;clear hb4 own4 g4;clear a7 cn e7;go_upto_region 34 with(fail);generalize hwC:World.setCell w4 _ _=wC;have bC:ah wC gb [.slice a6 (LL.length+1) c6] ST:=by rw[<-hwC];exact HB4.set 0 (.slice a6 (LL.length+1) c6)
    have uC:aU w4 gb wC:=by rw[<-hwC];exact aU.setCell _
    have htc:dO (gi+1) gb wX wC:=E4.trans (dO.upd uC);have ownC:=O4.turn (w':=wC) fun i hi _=>uC.block i J;have cI:=O (htc.blk ai J af);have ef:=cI.cell' (ay.xB bu);obtain⟨cY,cW,c1⟩:=aW htc ownC bC;clear hwC bC uC htc ownC kb fb E4 O4 HB4;go_wp2_with fail;go_loopw [120] (fun i wr=>∃(k1:Nat) (v':Value),k1<=b.hn/\i= .int .i64 (k1:Int)/\h_ wr (gi+1) v' (LL.length+1+(b.bH.take k1).flatten.length) ((LL++[oc])++(b.bH.take k1).flatten)/\ah wr gb [v'] ST/\dO (gi+1) gb wX wr) (fun i _=>b.hn - (intOf i).toNat)
    case atStart=>exact⟨0,_,J,F,by simpa using cW.out,c1,cY⟩
    case round=>
     obtain⟨k1,v',fg,rfl,am,be,a0⟩:=hrel;have c4:X w wr:=dO.UF ag.ext a0 J J;have db:=XY ab.h16 k1 J;by_cases bz:k1<b.hn
     ·have cw:decide ((k1:Int)<(b.hn:Int))=true:=aQ J;have c2:decide (k1<b.hn)=true:=aQ bz;have cS:=bi.out;obtain⟨x,bc⟩:∃x,b.bH[k1]? =some x:=⟨b.bH[k1]'J,List.getElem?_eq_getElem _⟩;obtain⟨A,ce,ew⟩:=Gm (ab.hcell.ext c4) ab.h16 bc;obtain⟨cN,cM⟩:=aB (ew k1 x bc) ce;have dp:=ab.h16 x (mem_of_getElem? bc);obtain⟨d5,d6,b'⟩:=aW dp (show(x.map Y).length=16 by rw[length_map];exact dp) (XZ bc);obtain⟨P,cf⟩:=aC ((b.bH.take k1).flatten);rw[cf]at am db b';obtain⟨cs,ct,rfl, -, -, -, -⟩:=am.slice;have cl:∃bd,LL.length+1+P.length=bd:=⟨_,F⟩;obtain⟨bd,cl⟩:=cl;rw[cl]at am be;have eR:=O cl;have fp:bd<=500000:=J;obtain⟨ca,cd,cc⟩:=aW am be a0;have cC:gi+1<=wr.heap.size:=Nat.le_trans hle a0.size;clear ew ce bc cf am be a0 cS ef dp cl;have ez:((List.replicate 16 (0:UInt8)).map Y).length=16:=aF;have e0:=O ez;clear ez;go_wp2_with (first|(refine jU F (fP (p:=A) (i:=k1) F (by show Value.slice b.ha b.hn b.hc=_;rw[cM.out]) F underlying99 zO bz _) ?_)|(refine bF F (bQ F F cN dh d6) ?_)|(refine bg F _ _ _ F F F (ah.aI (vs:=(List.replicate 16 (0:UInt8)).map Y) F F) dh e0 (xs:=x.map Y) d6 (b_ x) ?_));intro b7 ec b2;have eh:Below (gi+1) wr b7:=((Below.refl (gi+1) wr).alloc cC _).trans ⟨b2.os,b2.tape,b2.output,by rw[b2.size];exact Nat.le_refl _,fun i hi=>b2.block i J⟩;have cE:X wr b7:=b2.ext ((X.refl wr).alloc _) bG;obtain⟨cq,cr,eL⟩:=aW (ca.ext cE) (cd.ext cE) ec;have ep:=Nat.le_trans cC cE.size;have cX:=O (cc.trans (dO.below eh));clear ec b2 eh cE ca cd cc;obtain⟨C,HCC,aJ,bP⟩:=kZ (I:=fun w'=>ah w' gb [.slice cs bd ct] ST) (fun _ _ h1 h2=>(h1.ext h2)) (w:=b7) (cr)
      go_upto_region 37 with(fail);refine jQ (W:=[3]) fun Z=> ?_;refine eY 0 (fun w1 h=>((HCC w1).1 h).cell' (i:=0) (v:= .slice cs bd ct) F) ?_;refine fC 1 ?_;intro Q' hQ;go_wp2_with fail;refine hQ _ _ Z ?_;clear hQ Q';refine aH ?_;refine fC 2 ?_;intro Q' hQ;go_wp2_with (at_builtin;refine uj F _ _ F (gi+1) (ys:=x) F F (cq.ext (X.refl b7).drew) d5 (tJ eL.drew) J ep ?_);intro fy cp dr ej;have cH:Below (gi+1) b7 cp:=((Below.refl (gi+1) b7).drew).grown ej ep cq.pK;have cg:ah cp gb [.slice cs bd ct] ST:=Below.lF cH hbB cr;have al:C cp:=(HCC _).2 cg;have kb:=cg.cell' (i:=0) (v:= .slice cs bd ct) F;have fb:=cg.frozen 0;obtain⟨eb,eg,rfl, -, -, -, -⟩:=dr.slice;obtain⟨d8,eM,d'⟩:=aW dr cg (cX.trans (dO.below cH));clear dr ej cH cg;go_wp2_with fail;refine hQ _ _ al ?_;clear hQ Q' Z;refine aH ?_;refine iU 3 ?_;intro Q' hQ;go_wp2_with fail;generalize hwC:World.setCell cp _ _=wC;have bC:ah wC gb [.slice eb (bd+16) eg] ST:=by rw[<-hwC];exact eM.set 0 (.slice eb (bd+16) eg)
      have uC:aU cp gb wC:=by rw[<-hwC];exact aU.setCell _
      obtain⟨e1,e3,e4⟩:=aW (d8.turn (w':=wC) fun i hi _=>uC.block i J) (d'.trans (dO.upd uC)) bC;clear hwC kb fb bC uC d8 d';refine hQ _ _ trivial ?_;refine aH ?_;refine jR ?_;go_wp2_with fail;go_roundw
      case rel=>exact⟨k1+1,_,J,by go_num,by rw[b'.out,length_append,d5.out,<-append_assoc];have bj:=e1.out;rw[show LL.length+1+(P.length+16)=bd+16 by rw[<-eR.out];omega];simpa using bj,e4,e3⟩
      case measure=>simp[intOf];omega
     ·have cw:decide ((k1:Int)<(b.hn:Int))=false:=aP J;have c2:decide (k1<b.hn)=false:=aP bz;have bp:b.bH.take k1=b.bH:=take_of_length_le (by rw[bi.out];omega);rw[bp]at am;rw[show(LL++[oc])++b.bH.flatten=fG (aa.take k) b.p++jo 9 b.p from by
       rw[a1.out,<-HOC.out,P_,<-bi.out];show _=LL++Bl b.bH;unfold Bl;simp]at am
      have R:=a2.out _ _ (ag.next (i:=9) a3 a4 ai aE a0 be am (Nat.le_trans (Qg az bi ab.h16) aX));have ad:=O R;clear am be a0 bp R ef;go_wp2_with fail
      go_roundg ao
      case measure=>omega
      case rel=>exact ad
   ·rw[show(jZ 10).toNat=118 from F]at ar;have ap:0<=b.version/\b.version<=255:=by
     have aw:=a9.range;have a5:dK (K:Int) 10=true:=IY a9.uZ (by rw[b4.out];exact a8);unfold pJ dR at aw;simp only[Bool.or_eq_false_iff,Bool.and_eq_false_imp,decide_eq_false_iff_not]at aw;obtain⟨⟨⟨⟨⟨b0,ds⟩,dt⟩,b1⟩,du⟩,dv⟩:=aw;first|(have:=b0 a5;omega)|(have:=b1 a5;omega)|omega
    have br:=b5.p (b3.2.2.2 a8).1;have bt:=b5.a (b3.2.2.2 a8).2;have ac:dP wX ⟨w.heap.size,52,none⟩ [.int .i64 b.purpose,.int .i64 b.reason,.int .i64 b.need,.int .i64 b.version]:=by
     intro j u ae;have cj:j<4:=(List.getElem?_eq_some_iff.1 ae).1;rw[dn];refine af.cell' ?_;rcases(by omega:j=0∨j=1∨j=2∨j=3)with rfl|rfl|rfl|rfl
     ·rw[ay.nV ab.out];exact ae
     ·rw[ay.oQ ab.out];exact ae
     ·rw[ay.xw ab.out];exact ae
     ·rw[ay.xA ab.out];exact ae
    rw[br,bt]at ac;obtain⟨Xi1,aq⟩:=aC b.version;rw[aq]at ac ap;generalize b.need=eJ at ac;clear br bt;obtain⟨bv,HXB,HCB⟩:=aW aq ap ac;clear aq ac ap a7;refine aeF ?_;intro oc HOC a6 c6 wC bC htc ownC;rw[show LL++[oc]=fG (aa.take k) b.p++jo 10 b.p from by rw[a1.out];exact congrArg _ (by rw[<-HOC.out,<-bv.out];rfl)]at ownC;have R:=a2.out _ _ (ag.next (i:=10) a3 a4 ai aE htc bC ownC (Nat.le_of_ble_eq_true F));have ad:=O R;clear bC htc ownC R;go_wp2_with fail
    go_roundg ao
    case measure=>omega
    case rel=>exact ad
   ·rw[show(jZ 11).toNat=107 from F]at ar;obtain⟨C,HCC,aJ,bP⟩:=kZ (I:=fun w'=>ah w' gb [.slice av LL.length cv] ST/\ah w' w.heap.size b.v 101) (fun _ _ h1 h2=>⟨h1.1.ext h2,h1.2.ext h2⟩) (w:=wX) (⟨VAR,af⟩);clear a7;go_upto_region 40 with(fail);refine jQ (W:=[5]) fun Z=> ?_;refine eY 0 (fun w1 h=>((HCC w1).1 h).1.cell' (i:=0) (v:= .slice av LL.length cv) F) ?_;refine bK 1 ?_;refine eY 2 (fun w1 h=>((HCC w1).1 h).2.cell' (ay.Bh ab)) ?_;obtain⟨an,bw⟩:∃an:Nat,b.count=(an:Int):=⟨b.count.toNat,by have:=az.c;omega⟩;have e':an<=4294967295:=by have:=az.c;omega
    have cR:=O bw;rw[bw];clear bw;refine fC 3 ?_;intro Q' hQ;go_wp2_with fail;refine(DN an wX.drew J).mono ?_;rintro e bh ⟨rfl,em,a_⟩;have ch:aK bh (some ⟨wX.heap.size,0,none⟩) ((dG (UInt64.ofNat an)).map Y):=aK.eG em;have ax:X wX bh:=(X.refl wX).drew.ext a_;have ci:dP bh ⟨wX.heap.size,0,none⟩ ((dG (UInt64.ofNat an)).map Y):=dP.of ch;have b8:=O ci;have al:=aJ _ _ bP ax;obtain⟨cT,cb⟩:=aB ax (OWN.ext ax);have ck:=Nat.le_trans hle ax.size;obtain⟨e5,eN⟩:=aB (VAR.ext ax) (af.ext ax);obtain⟨ys,bl⟩:=aC (dG (UInt64.ofNat an));have co:ys.length=8:=by rw[<-bl];rfl
    rw[bl]at b8;obtain⟨cV,cU⟩:=aB bl co;clear em ch ci a_ bl co ax;go_wp2_with fail;refine hQ _ _ al ?_;clear hQ Q' Z;have Z:=al;clear al;refine aH ?_;refine fC 4 ?_;intro Q' hQ;go_wp2_with (at_builtin;refine uj F _ _ F (gi+1) (ys:=ys) F F cb cU b8 J ck ?_);intro v4 w4 own4 g4;have BE3:Below (gi+1) bh w4:=(Below.refl (gi+1) bh).grown g4 ck cb.pK;have BEL:Below (gi+1) wX w4:=Below.trans (cT.mono hle) BE3;have al:C w4:=(HCC _).2 ⟨Below.lF BEL hbB VAR,Below.lF BEL ai af⟩;obtain⟨E4,O4⟩:=aB (show dO (gi+1) gb wX w4 from(dO.below BEL)) own4;have hb4:ah w4 gb [.slice av LL.length cv] ST:=Below.lF (BEL) hbB VAR;have kb:=hb4.cell' (i:=0) (v:= .slice av LL.length cv) F;have fb:=hb4.frozen 0;obtain⟨a6,c6,rfl, -, -, -, -⟩:=O4.slice;have HB4:=O hb4;clear hb4 own4 g4;go_wp2_with fail;refine hQ _ _ al ?_;clear hQ Q' Z;refine aH ?_;refine iU 5 ?_;intro Q' hQ;go_wp2_with fail;generalize hwC:World.setCell w4 _ _=wC;have bC:ah wC gb [.slice a6 (LL.length+8) c6] ST:=by rw[<-hwC];exact HB4.set 0 (.slice a6 (LL.length+8) c6)
    have uC:aU w4 gb wC:=by rw[<-hwC];exact aU.setCell _
    have htc:dO (gi+1) gb wX wC:=E4.trans (dO.upd uC);have ownC:=O4.turn (w':=wC) fun i hi _=>uC.block i J;refine hQ _ _ trivial ?_;refine aH ?_;refine jR ?_;rw[show LL++ys=fG (aa.take k) b.p++jo 11 b.p from by rw[a1.out];exact congrArg _ (by rw[<-cV.out];show dG (UInt64.ofNat an)=dG (UInt64.ofNat b.count.toNat);rw[cR.out];rfl)]at ownC;have R:=a2.out _ _ (ag.next (i:=11) a3 a4 ai aE htc bC ownC (by show(dG _).length<=_;rw[Bc];decide));have ad:=O R;clear hwC bC uC htc ownC R kb fb;go_wp2_with fail
    go_roundg ao
    case measure=>omega
    case rel=>exact ad
  ·have b6:¬k<us.size:=by rw[d4.out];exact de
   have bo:=ba.it;rw[cm]at bo;have ar:∀ty,(Instr.next (.pointer (some ⟨gi,0,none⟩)) true ty).run prog wr=_:=fun ty=>Lib.run_next_end_at wr gi us k ty bo b6;have eo:aa.take k=aa:=take_of_length_le J;rw[eo]at ba;obtain⟨av,cv,dk, -, -, -, -⟩:=ba.own.slice;subst dk;have dd:=ba.own;rw[<-b4.out]at dd;have cQ:=O (show X w wr/\h_ wr w.heap.size _ (fG (gy (K:Int)) b.p).length (fG (gy (K:Int)) b.p)from⟨ba.ext,dd.lower J⟩);have kv:=ba.var.cell' (i:=0) F;rw[<-b4.out]at kv;obtain⟨fm,c7⟩:=aC (fG (gy (K:Int)) b.p);have eV:=O c7;rw[c7]at kv cQ;clear bo eo ba cm dd c7;go_wp2_with fail
   go_ret2
   exact⟨cQ.1,.inl ⟨cP,_,F,by rw[eV.out];exact cQ.2⟩⟩
end
end Go.Proofs.YtjlhhnkhcbpnjaaGreatDoor
