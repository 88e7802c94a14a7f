/- Laws that the row leans on; no condition. -/
import Derived.Test.YtjlhhnkhcbpnjaaGreatDoorJ29
namespace Go.Proofs.YtjlhhnkhcbpnjaaGreatDoor
open Go Go.RowKit List Tryz
set_option linter.unusedVariables false
set_option linter.unusedSectionVars false
set_option linter.unusedSimpArgs false
set_option maxHeartbeats 40000000
set_option maxRecDepth 100000
section
open Go Go.RowKit
theorem dO.UF{W w w':World}{B g:Nat}(h:X W w)(t:dO B g w w')(j:W.heap.size<=B)(u:W.heap.size<=g):X W w':=
 ⟨t.os.trans h.os,t.tape.trans h.tape,t.output.trans h.output,Nat.le_trans h.size t.size,fun k hk=>(t.block k J J).trans (h.block k hk)⟩
section
variable {P:Program} {ops:Array Oper} {Q:Exit->Act->World->Prop} {S:World->Prop} {W:List Nat}
theorem wz_(i:Nat){j:Oper}{r:List Oper}{f:Nat}{u:Array Bool}{a:Act}{w:World}{E:Prop}{v:Value}(h:E)(aa:ops.toList.drop i=j::r:=by exact F)(hs:Region.noSelect ops=true:=by kernel_rfl)(R:Region.free .any ops u i=true:=by kernel_rfl)(ab:(Region.ready .any ops u).contains i=true:=by kernel_rfl)(ac:Region.wanted j (yielded ops a.tmps)=true:=by exact F)(ad:∀w,(fun _=>True) w->(execOp a.eval j).run P w= .ok (.value v) w:=by(intro _ _;go_simp;try(simp only[Int.add_zero,Int.zero_add,Int.mul_zero,Int.mul_one,Int.zero_mul,Bool.false_eq_true,if_false,if_true]);first|done|rfl|exact hwx|exact hwo|exact hw0))(hx:E->jL P ops Q S W f (u.setIfInBounds i true) (a.put j.dst v) w:=by(intro hx;simp only[Act.put,setIfInBounds_toArray,set_cons_succ,set_cons_zero];exact hx))(I:∀c a w,Q (.panic c) (a.put j.dst v) w->Q (.panic c) a w:=by exact fun _ _ _ h=>h):jL P ops Q S W (f+1) u a w:=
 kJ i aa hs R ab I (.inl ⟨ac,ad⟩) (hx h)
theorem wy_(i:Nat){j:Oper}{r:List Oper}{f:Nat}{u:Array Bool}{a:Act}{w:World}{E:Prop}{v:Value}(h:E)(aa:ops.toList.drop i=j::r:=by exact F)(hs:Region.noSelect ops=true:=by kernel_rfl)(R:Region.free .any ops u i=true:=by kernel_rfl)(ab:(Region.ready .any ops u).contains i=true:=by kernel_rfl)(ac:Region.wanted j (yielded ops a.tmps)=true:=by exact F)(ad:∀w,(fun _=>True) w->(execOp a.eval j).run P w= .ok (.value v) w:=by(intro _ _;go_simp;(try simp only[Int.add_zero,Int.zero_add,Int.mul_zero,Int.mul_one,Int.zero_mul,Bool.false_eq_true,if_false,if_true,hwx,hw0]);try with_reducible rfl))(hx:E->jL P ops Q S W f (u.setIfInBounds i true) (a.put j.dst v) w:=by(intro hx;simp only[Act.put,setIfInBounds_toArray,set_cons_succ,set_cons_zero];exact hx))(I:∀c a w,Q (.panic c) (a.put j.dst v) w->Q (.panic c) a w:=by exact fun _ _ _ h=>h):jL P ops Q S W (f+1) u a w:=
 kJ i aa hs R ab I (.inl ⟨ac,ad⟩) (hx h)
end
structure Bx(p:Prop):Prop where
 o:p
theorem aeF{P Q:Prop}(h:P)(e:Bx P->Q:=by
 intro hgz;have hwx:IntKind.i64.wrap Xi1=Xi1:=IntWalk.i64_in _ (by have:=HXB.out;omega);have hw0:IntKind.i64.wrap 0=0:=IntWalk.i64_in _ J;have hwo:IntKind.u8.wrap Xi1=((kL Xi1).toNat:Int):=BA Xi1;obtain⟨oc,hoc⟩:=aC (kL Xi1);rw[hoc]at hwo;have HOC:=O hoc;have c52:=HCB.out 0 _ F;rw[dn]at c52;change wX.cell? ⟨w.heap.size,52,none⟩=_ at c52;have C52:=O c52;have c53:=HCB.out 1 _ F;rw[dn]at c53;change wX.cell? ⟨w.heap.size,53,none⟩=_ at c53;have C53:=O c53;have c54:=HCB.out 2 _ F;rw[dn]at c54;change wX.cell? ⟨w.heap.size,54,none⟩=_ at c54;have C54:=O c54;have c55:=HCB.out 3 _ F;rw[dn]at c55;change wX.cell? ⟨w.heap.size,55,none⟩=_ at c55;have C55:=O c55;clear hoc c52 c53 c54 c55;obtain⟨C,HCC,aJ,bP⟩:=kZ (I:=fun w'=>ah w' gb [.slice av LL.length cv] ST/\X wX w') (fun _ _ h1 h2=>⟨h1.1.ext h2,h1.2.ext h2⟩) (w:=wX) (⟨VAR,X.refl _⟩);go_upto_region 31 with(fail);refine jQ (W:=[22,23]) fun Z=> ?_;refine eY 0 (fun w1 h=>((HCC w1).1 h).1.cell' (i:=0) (v:= .slice av LL.length cv) F) ?_;refine bK 1 ?_;refine eY 2 (fun w1 h=>gW C52 ((HCC w1).1 h).2) ?_;refine bK 3 ?_;refine eY 4 (fun w1 h=>gW C53 ((HCC w1).1 h).2) ?_;refine wy_ 5 ?_;refine bK 6 ?_;refine eY 7 (fun w1 h=>gW C54 ((HCC w1).1 h).2) ?_;refine bK 8 ?_;refine bK 9 ?_;refine bK 13 ?_;refine eY 14 (fun w1 h=>gW C55 ((HCC w1).1 h).2) ?_;refine bK 15 ?_;refine bK 16 ?_;refine fC 10 ?_;intro Q' hQ;go_wp2_with fail;refine(yg _ _).mono ?_;rintro e wq ⟨rfl,eU⟩;rw[<-eU];clear eU wq;go_wp2_with fail;refine hQ _ _ Z ?_;clear hQ Q';refine aH ?_;refine wy_ 11 ?_;refine wy_ 12 ?_
 refine fC 17 ?_;intro Q' hQ;go_wp2_with fail;refine(yg _ _).mono ?_;rintro e wq ⟨rfl,eU⟩;rw[<-eU];clear eU wq;go_wp2_with fail;refine hQ _ _ Z ?_;clear hQ Q';refine aH ?_;refine wy_ 18 ?_;refine wz_ 19 (v:= .int .i64 Xi1) ?_;refine wz_ 20 (v:= .int .u8 (oc.toNat:Int)) ?_;refine fC 21 ?_;intro Q' hQ;go_wp2_with fail;refine hQ _ _ (aJ _ _ Z ((X.refl _).alloc _)) ?_;clear hQ Q' Z;generalize hwB:World.drew (World.alloc wX _)=wB;have nB:ah wB wX.heap.size (([oc]:aj).map Y) 5:=by rw[<-hwB];exact ah.aI F F
 have eB:X wX wB:=by rw[<-hwB];exact((X.refl wX).alloc _).drew
 obtain⟨NB,EB2,OB⟩:=aW nB eB (OWN.ext eB);have hleB:=Nat.le_trans hle eB.size;clear hwB nB eB;refine aH ?_;refine iU 22 ?_;intro Q' hQ;go_wp2_with (at_builtin;refine uj F _ _ F (gi+1) (ys:=[oc]) F F OB F (tJ NB) J hleB ?_);intro v4 w4 own4 g4;have BE3:Below (gi+1) wB w4:=(Below.refl (gi+1) wB).grown g4 hleB OB.pK;have BEL:Below (gi+1) wX w4:=Below.trans (EB2.mono hle) BE3;obtain⟨E4,O4⟩:=aB (show dO (gi+1) gb wX w4 from(dO.below BEL)) own4;have hb4:ah w4 gb [.slice av LL.length cv] ST:=Below.lF (BEL) hbB VAR;have kb:=hb4.cell' (i:=0) (v:= .slice av LL.length cv) F;have fb:=hb4.frozen 0;obtain⟨a6,c6,rfl, -, -, -, -⟩:=O4.slice;have HB4:=O hb4;clear hb4 own4 g4;go_wp2_with fail;refine hQ _ _ trivial ?_;clear hQ Q';refine aH ?_;refine iU 23 ?_;intro Q' hQ;go_wp2_with fail;generalize hwC:World.setCell w4 _ _=wC;have bC:ah wC gb [.slice a6 (LL.length+1) c6] ST:=by rw[<-hwC];exact HB4.set 0 (.slice a6 (LL.length+1) c6)
 have uC:aU w4 gb wC:=by rw[<-hwC];exact aU.setCell _
 have htc:dO (gi+1) gb wX wC:=E4.trans (dO.upd uC);have ownC:=O4.turn (w':=wC) fun i hi _=>uC.block i J;refine hQ _ _ trivial ?_;refine aH ?_;refine jR ?_;clear hwC uC HB4 kb fb O4 E4 BE3 BEL NB hwo;revert ownC htc bC;revert wC;revert c6 a6;revert HOC oc;exact hgz.o):Q:=e ⟨h⟩
theorem adw(act:Int)(b:ay)(w:World)(d8:b.Ok w):
 Calls prog 86 #[.int .i64 act,.agg b.v.toArray] w fun e w'=>X w w'/\((jS act b=0/\∃v,e= .returned (.tuple #[v,.int .i64 0])/\h_ w' w.heap.size v (fG (gy act) b.p).length (fG (gy act) b.p))∨(jS act b≠0/\e= .returned (.tuple #[.slice none 0 0,.int .i64 (jS act b)]))):=by
 have ab:=O d8;clear d8;have d2:=O (Qn act b);go_enter func86,ntmps86;go_upto_region 1 with(fail);generalize c4:World.alloc w _=dc;have dx:ah dc w.heap.size b.v 101:=by rw[<-c4];exact ah.aI F F
 have dT:X w dc:=by rw[<-c4];exact(X.refl w).alloc _
 obtain⟨co,cs,em⟩:=aW dx dT (ay.len ab);clear c4 dx dT;go_wp2_with (refine bV F 101 (.tmp 3) F F co eP em ?_);refine(d2 dc (ab.ext cs)).mono ?_;rintro e w2 ⟨rfl,e2⟩;obtain⟨cp,ct⟩:=aB (co.ext e2) (cs.ext e2);clear e2 co cs d2;by_cases be:jS act b=0
 rotate_left
 ·obtain⟨E,cN⟩:=aC (jS act b);rw[cN]at be⊢;have cg:(E != 0)=true:=by simpa using be
  obtain⟨cy,dj⟩:=aB be cN;clear cN be;go_wp2_with fail
  go_ret2
  exact⟨ct,.inr ⟨by rw[dj.out];exact cy,by rw[dj.out];rfl⟩⟩
 have a4:=O (Ed be);have az:=O (Ed be).small;have cy:=O be;rw[be];clear be;have br:=a4.uZ;have eI:1<=act/\act<=12:=by unfold iI at br;simpa using br
 obtain⟨K,rfl⟩:∃K:Nat,act=(K:Int):=⟨act.toNat,J⟩;have c0:=O (fun w=>Gy K w J);have cm:=Qi br;rw[show(K:Int).toNat=K from F]at cm;have cV:=Qh br;have cQ:=adv br;obtain⟨aa,cj⟩:=aC (gy (K:Int));have bz:=O cj;rw[cj]at cm cV cQ;obtain⟨us,c2⟩:=aC ((⟨(rF K).toArray⟩:ByteArray):ByteArray);rw[c2]at c0;have c1:us.data.toList=aa.map jZ:=by rw[<-c2,<-cm]
 have eb:us.size=aa.length:=by
  have bd:=congrArg List.length c1;rw[Array.length_toList,length_map]at bd;exact bd
 have e3:aa.length<=12:=by
  rw[<-cj];rcases wo br with h|h|h|h|h|h|h|h|h|h|h|h<;>rw[h]<;>decide
 obtain⟨er,dl,eo,bx⟩:=bU c1 eb cV cQ;have bA:=O a4.zeros;clear cm c2 c1 eb cV cQ cj br eI;go_upto_region 5 with(fail);generalize c5:World.alloc w2 _=dd;obtain⟨gb,ck⟩:=aC w2.heap.size;have ef:ah dd gb [.slice none 0 0] ST:=by rw[<-c5,<-ck];exact ah.aI F F
 have cL:X w2 dd:=by rw[<-c5];exact(X.refl w2).alloc _
 have aR:w.heap.size<gb:=by rw[<-ck];exact cp.lt
 rw[ck];obtain⟨df,di,dt⟩:=aW (cp.ext cL) (ct.ext cL) ef;clear c5 ck ef cL cp ct;go_wp2_with fail;refine(c0 dd).mono ?_;rintro e bi ⟨rfl,a5⟩;obtain⟨de,dg,cI⟩:=aW (df.ext a5) (di.ext a5) (dt.ext a5);have eK:gb<bi.heap.size:=cI.lt;clear a5 df di dt c0;go_wp2_with fail;obtain⟨gi,cS⟩:=aC bi.heap.size;have cT:=World.iter_heap bi us 0;have ch:X bi (bi.iter us 0):=(X.refl bi).alloc _;have ea:(bi.iter us 0).heap.size=gi+1:=by rw[<-cS];exact uO bi _
 rw[cS]at cT eK⊢;have eC:w.heap.size≠gi:=J;have eJ:gb≠gi:=J;have a0:gi≠gb:=J;have eD:w.heap.size<=gi:=J;have ai:w.heap.size<gi+1:=J;have hbB:gb<gi+1:=J;have aD:gi<gi+1:=J;have dq:AA w gb gi (gi+1) us b 40000 [] (bi.iter us 0) (.slice none 0 0):=
  ⟨de.ext ch,cI.ext ch,⟨F,.inl ⟨F,F⟩⟩,by simp[fG],dg.ext ch,by rw[ea];exact Nat.le_refl _,cT⟩
 clear cT ch ea de dg cI cS
 go_loopg [] aa.length (fun eB wx=>∃(k:Nat) (v:Value),k<=aa.length/\AA w gb gi (gi+1) us b 40000 (aa.take k) wx v/\aa.length<=k+eB)
 case atStart=>exact⟨0,.slice none 0 0,J,by simpa using dq,J⟩
 case round=>
  obtain⟨k,v,hk,a7,eW⟩:=hrel;clear dq;have b9:(aa.take k).length=k:=by rw[length_take];omega
  by_cases cX:k<aa.length
  ·obtain⟨ao,rfl⟩:∃ao,gk=ao+1:=⟨gk - 1,J⟩;obtain⟨i,hi⟩:∃i,aa[k]? =some i:=⟨_,List.getElem?_eq_getElem cX⟩;have bk:aa.take (k+1)=aa.take k++[i]:=by rw[take_add_one,hi];rfl
   have eZ:i<12:=eo.2 i (mem_of_getElem? hi);have a3:=O (mem_of_getElem? hi);have bB:k<us.size:=by rw[dl.out];exact cX
   have bj:=a7.it;rw[b9]at bj;have ar:∀ty,(Instr.next (.pointer (some ⟨gi,0,none⟩)) true ty).run prog wr=_:=fun ty=>Lib.run_next_any_at wr gi us k ty bj bB;have cY:us[k]'bB=jZ i:=by
    have bd:us.data.toList[k]? =some (jZ i):=by rw[er.out,List.getElem?_map,hi];rfl
    rw[Array.getElem?_toList]at bd;exact(Array.getElem?_eq_some_iff.1 bd).2
   have d1:(us[k]'bB).toNat<128:=by
    rw[cY];rcases(by omega:i=0∨i=1∨i=2∨i=3∨i=4∨i=5∨i=6∨i=7∨i=8∨i=9∨i=10∨i=11)with rfl|rfl|rfl|rfl|rfl|rfl|rfl|rfl|rfl|rfl|rfl|rfl<;>decide
   have cR:=decode_ascii us k bB d1;rw[cY]at cR;rw[cR]at ar;have ag:IX w gb gi (gi+1) us b 40000 (aa.take k) (wr.iterAt gi us (k+1)) v:=
    a7.next eC eJ eD aD (fun j b6=>Lib.iterAt_other wr gi j us (k+1) b6) (Lib.iterAt_size ..) ⟨F,F,F⟩ (by rw[b9];exact Lib.iterAt_heap wr gi us k (k+1) bj)
   have dk:=O bk;clear a7 bj cR cY d1 bk hi;simp only at ar;generalize wr.iterAt gi us (k+1)=wX at*;have d9:∀wz v2,AA w gb gi (gi+1) us b 40000 (aa.take k++[i]) wz v2->∃(k:Nat) (v:Value),k<=aa.length/\AA w gb gi (gi+1) us b 40000 (aa.take k) wz v/\aa.length<=k+ao:=
    fun wz v2 h=>⟨k+1,v2,J,by rw[dk.out];exact h,J⟩
   have aM:=O d9;clear d9 dk;obtain⟨av,cv,c3,eR,eM,eQ,eL⟩:=ag.own.slice;subst c3;have d7:=ag.len;rw[b9]at d7;have eO:(fG (aa.take k) b.p).length<=480000:=by
    have:40000*k<=40000*12:=Nat.mul_le_mul_left _ J;omega
   have c8:=ag.own;have a2:=ag.var.cell' (i:=0) (v:= .slice av (fG (aa.take k) b.p).length cv) F;obtain⟨LL,ci⟩:=aC (fG (aa.take k) b.p);rw[ci]at c8 eO a2;have VAR:=O ag.var;rw[ci]at VAR;obtain⟨aL,OWN⟩:=aB ci c8;have hle:=ag.le;have af:=O ag.body;have bo:=O (ab.ext ag.ext);clear ci c8 d7 eL eR eM eQ;rcases(by omega:i=0∨i=1∨i=2∨i=3∨i=4∨i=5∨i=6∨i=7∨i=8∨i=9∨i=10∨i=11)with rfl|rfl|rfl|rfl|rfl|rfl|rfl|rfl|rfl|rfl|rfl|rfl
   ·rw[show(jZ 0).toNat=116 from F]at ar;have e7:=af.cell' (ay.at0 b);have e4:=az.t;go_wp2_with (at_builtin;refine P9 F _ _ F (gi+1) F F OWN J hle ?_);intro v4 w4 own4 g4;have BEL:=(Below.refl (gi+1) wX).grown g4 hle OWN.pK;obtain⟨E4,O4⟩:=aB (show dO (gi+1) gb wX w4 from(dO.below BEL)) own4;have hb4:ah w4 gb [.slice av LL.length cv] ST:=Below.lF (BEL) hbB VAR;have kb:=hb4.cell' (i:=0) (v:= .slice av LL.length cv) F;have fb:=hb4.frozen 0;obtain⟨a6,c6,rfl, -, -, -, -⟩:=O4.slice;have HB4:=O hb4;clear hb4 own4 g4;go_wp2_with fail;generalize hwC:World.setCell w4 _ _=wC;have bC:ah wC gb [.slice a6 (LL.length+b.text.size) c6] ST:=by rw[<-hwC];exact HB4.set 0 (.slice a6 (LL.length+b.text.size) c6)
    have uC:aU w4 gb wC:=by rw[<-hwC];exact aU.setCell _
    have htc:dO (gi+1) gb wX wC:=E4.trans (dO.upd uC);have ownC:=O4.turn (w':=wC) fun i hi _=>uC.block i J;rw[show LL++b.text.data.toList=fG (aa.take k) b.p++jo 0 b.p from by rw[aL.out];exact congrArg _ (rfl)]at ownC;have R:=aM.out _ _ (ag.next (i:=0) aR a0 ai aD htc bC ownC (by show b.text.data.toList.length<=_;rw[Array.length_toList];exact Nat.le_trans az.t aX));have ad:=O R;clear hwC bC uC htc ownC R kb fb;go_wp2_with fail
    go_roundg ao
    case measure=>omega
    case rel=>exact ad
   ·rw[show(jZ 1).toNat=109 from F]at ar;obtain⟨C,HCC,aJ,bP⟩:=kZ (I:=fun w'=>ah w' gb [.slice av LL.length cv] ST/\ah w' w.heap.size b.v 101) (fun _ _ h1 h2=>⟨h1.1.ext h2,h1.2.ext h2⟩) (w:=wX) (⟨VAR,af⟩);clear a2;have bN:=O ab.hm;go_upto_region 13 with(fail);refine jQ (W:=[4]) fun Z=> ?_;refine eY 0 (fun w1 h=>((HCC w1).1 h).1.cell' (i:=0) (v:= .slice av LL.length cv) F) ?_;refine bK 1 ?_;refine fC 2 ?_;intro Q' hQ;go_wp2_with fail;refine hQ _ _ Z ?_;clear hQ Q';refine aH ?_;refine fC 3 ?_;intro Q' hQ;go_wp2_with (at_builtin;refine uj F _ _ F (gi+1) (ys:=b.member) F F (OWN.ext (X.refl wX).drew) bN ((ay.JL bo af).ext (X.refl wX).drew) J hle ?_);intro v4 w4 own4 g4;have BEL:Below (gi+1) wX w4:=((Below.refl (gi+1) wX).drew).grown g4 hle OWN.pK;have al:C w4:=(HCC _).2 ⟨Below.lF BEL hbB VAR,Below.lF BEL ai af⟩;obtain⟨E4,O4⟩:=aB (show dO (gi+1) gb wX w4 from(dO.below BEL)) own4;have hb4:ah w4 gb [.slice av LL.length cv] ST:=Below.lF (BEL) hbB VAR;have kb:=hb4.cell' (i:=0) (v:= .slice av LL.length cv) F;have fb:=hb4.frozen 0;obtain⟨a6,c6,rfl, -, -, -, -⟩:=O4.slice;have HB4:=O hb4;clear hb4 own4 g4;go_wp2_with fail;refine hQ _ _ al ?_;clear hQ Q' Z;refine aH ?_;refine iU 4 ?_;intro Q' hQ;go_wp2_with fail;generalize hwC:World.setCell w4 _ _=wC;have bC:ah wC gb [.slice a6 (LL.length+16) c6] ST:=by rw[<-hwC];exact HB4.set 0 (.slice a6 (LL.length+16) c6)
    have uC:aU w4 gb wC:=by rw[<-hwC];exact aU.setCell _
    have htc:dO (gi+1) gb wX wC:=E4.trans (dO.upd uC);have ownC:=O4.turn (w':=wC) fun i hi _=>uC.block i J;refine hQ _ _ trivial ?_;refine aH ?_;refine jR ?_;rw[show LL++b.member=fG (aa.take k) b.p++jo 1 b.p from by rw[aL.out];exact congrArg _ (rfl)]at ownC;have R:=aM.out _ _ (ag.next (i:=1) aR a0 ai aD htc bC ownC (by show b.member.length<=_;rw[bN.out];decide));have ad:=O R;clear hwC bC uC htc ownC R kb fb;go_wp2_with fail
    go_roundg ao
    case measure=>omega
    case rel=>exact ad
   ·rw[show(jZ 2).toNat=114 from F]at ar;have ez:=af.cell' (ay.pI bo);have eS:=az.rn;have b':IntKind.u8.wrap (b.rn:Int)=((kL (b.rn:Int)).toNat:Int):=BA _;obtain⟨oc,hoc⟩:=aC (kL (b.rn:Int));rw[hoc]at b';have HOC:=O hoc;have bc:=O ab.rl;clear hoc;go_upto_region 16 with(at_builtin;refine uj F _ _ F (gi+1) (ys:=[oc]) F F (OWN.ext ((X.refl _).alloc _)) F (tJ (ah.aI F F)) J (Nat.le_trans hle (by rw[uO];exact Nat.le_succ _)) ?_);intro v4 w4 own4 g4;have BEL:Below (gi+1) wX w4:=((Below.refl (gi+1) wX).alloc hle _).grown g4 (Nat.le_trans hle (by rw[uO];exact Nat.le_succ _)) OWN.pK;obtain⟨E4,O4⟩:=aB (show dO (gi+1) gb wX w4 from(dO.below BEL)) own4;have hb4:ah w4 gb [.slice av LL.length cv] ST:=Below.lF (BEL) hbB VAR;have kb:=hb4.cell' (i:=0) (v:= .slice av LL.length cv) F;have fb:=hb4.frozen 0;obtain⟨a6,c6,rfl, -, -, -, -⟩:=O4.slice;have HB4:=O hb4;clear hb4 own4 g4;clear a2 b' ez;go_upto_region 16 with(fail);generalize hwC:World.setCell w4 _ _=wC;have bC:ah wC gb [.slice a6 (LL.length+1) c6] ST:=by rw[<-hwC];exact HB4.set 0 (.slice a6 (LL.length+1) c6)
    have uC:aU w4 gb wC:=by rw[<-hwC];exact aU.setCell _
    have htc:dO (gi+1) gb wX wC:=E4.trans (dO.upd uC);have ownC:=O4.turn (w':=wC) fun i hi _=>uC.block i J;have cr:=O (htc.blk ai J af);have dy:=cr.cell' (ay.pI bo);obtain⟨cH,cF,cJ⟩:=aW htc ownC bC;clear hwC bC uC htc ownC kb fb E4 O4 HB4;go_wp2_with fail;go_loopw [53] (fun i wr=>∃(k1:Nat) (v':Value),k1<=b.rn/\i= .int .i64 (k1:Int)/\h_ wr (gi+1) v' (LL.length+1+((b.roles.take k1).map kU).flatten.length) ((LL++[oc])++((b.roles.take k1).map kU).flatten)/\ah wr gb [v'] ST/\dO (gi+1) gb wX wr) (fun i _=>b.rn - (intOf i).toNat)
    case atStart=>exact⟨0,_,J,F,by simpa using cF.out,cJ,cH⟩
    case round=>
     obtain⟨k1,v',eN,rfl,am,a_,aE⟩:=hrel;have cM:X w wr:=dO.UF ag.ext aE J J;have cU:=XV az k1 J;by_cases bt:k1<b.rn
     ·have cg:decide ((k1:Int)<(b.rn:Int))=true:=aQ J;have cK:decide (k1<b.rn)=true:=aQ bt;have cB:=bc.out;obtain⟨x,a8⟩:∃x,b.roles[k1]? =some x:=⟨b.roles[k1]'J,List.getElem?_eq_getElem _⟩;obtain⟨A,b1,d4⟩:=zC (ab.nU.ext cM) a8;obtain⟨cx,cw⟩:=aB d4 b1;have e5:=az.rs x (mem_of_getElem? a8);have bO:=O (XW a8);obtain⟨P,b2⟩:=aC (((b.roles.take k1).map kU).flatten);rw[b2]at am cU bO;obtain⟨bR,b0,bX⟩:=aW am a_ aE;have cl:gi+1<=wr.heap.size:=Nat.le_trans hle aE.size;clear d4 b1 a8 b2 am a_ aE cB dy;go_wp2_with (first|(refine jU F (fP (p:=A) (i:=k1) F (by show Value.slice b.ra b.rn b.rc=_;rw[cw.out]) F underlying98 tV bt _) ?_)|(refine jU F (kT F F cx oO) ?_));refine(UE _ x v' _ (gi+1) gb wr bR b0 hbB cl J).mono ?_;rintro e e9 ⟨eT,rfl,ed,eg,ee⟩;obtain⟨cc,cd,cG⟩:=aW ed eg (bX.trans ee);clear ed eg ee bR b0 bX;go_wp2_with fail;go_roundw
      case rel=>exact⟨k1+1,eT,J,by go_num,by rw[bO.out,length_append,DU,<-append_assoc];have bd:=cc.out;rw[show LL.length+1+(P.length+(x.size+1))=LL.length+1+P.length+(x.size+1) by omega];exact bd,cd,cG⟩
      case measure=>simp[intOf];omega
     ·have cg:decide ((k1:Int)<(b.rn:Int))=false:=aP J;have cK:decide (k1<b.rn)=false:=aP bt;have bk:b.roles.take k1=b.roles:=take_of_length_le (by rw[bc.out];omega);rw[bk]at am;rw[show(LL++[oc])++(b.roles.map kU).flatten=fG (aa.take k) b.p++jo 2 b.p from by
       rw[aL.out,<-HOC.out,P_,<-bc.out];show _=LL++Bj b.roles;unfold Bj;simp]at am
      have R:=aM.out _ _ (ag.next (i:=2) aR a0 ai aD aE a_ am (Nat.le_trans (Qe az bc) aX));have ad:=O R;clear am a_ aE bk R dy;go_wp2_with fail
      go_roundg ao
      case measure=>omega
      case rel=>exact ad
   ·rw[show(jZ 3).toNat=108 from F]at ar;have e6:=af.cell' (ay.zH bo);have e1:=az.l;go_wp2_with fail;refine(UE LL b.label _ LL.length (gi+1) gb wX OWN VAR hbB hle J).mono ?_;rintro e wC ⟨v4,rfl,ownC,bC,htc⟩;rw[show LL++kU b.label=fG (aa.take k) b.p++jo 3 b.p from by rw[aL.out];rfl]at ownC;have R:=aM.out _ _ (ag.next (i:=3) aR a0 ai aD htc bC ownC (by show(kU b.label).length<=_;rw[DU];omega));have ad:=O R;clear bC htc ownC R;go_wp2_with fail
    go_roundg ao
    case measure=>omega
    case rel=>exact ad
   ·rw[show(jZ 4).toNat=99 from F]at ar;obtain⟨C,HCC,aJ,bP⟩:=kZ (I:=fun w'=>ah w' gb [.slice av LL.length cv] ST/\ah w' w.heap.size b.v 101) (fun _ _ h1 h2=>⟨h1.1.ext h2,h1.2.ext h2⟩) (w:=wX) (⟨VAR,af⟩);clear a2;have bN:=O ab.hcm;go_upto_region 24 with(fail);refine jQ (W:=[4]) fun Z=> ?_;refine eY 0 (fun w1 h=>((HCC w1).1 h).1.cell' (i:=0) (v:= .slice av LL.length cv) F) ?_;refine bK 1 ?_;refine fC 2 ?_;intro Q' hQ;go_wp2_with fail;refine hQ _ _ Z ?_;clear hQ Q';refine aH ?_;refine fC 3 ?_;intro Q' hQ;go_wp2_with (at_builtin;refine uj F _ _ F (gi+1) (ys:=b.commit) F F (OWN.ext (X.refl wX).drew) bN ((ay.comm bo af).ext (X.refl wX).drew) J hle ?_);intro v4 w4 own4 g4;have BEL:Below (gi+1) wX w4:=((Below.refl (gi+1) wX).drew).grown g4 hle OWN.pK;have al:C w4:=(HCC _).2 ⟨Below.lF BEL hbB VAR,Below.lF BEL ai af⟩;obtain⟨E4,O4⟩:=aB (show dO (gi+1) gb wX w4 from(dO.below BEL)) own4;have hb4:ah w4 gb [.slice av LL.length cv] ST:=Below.lF (BEL) hbB VAR;have kb:=hb4.cell' (i:=0) (v:= .slice av LL.length cv) F;have fb:=hb4.frozen 0;obtain⟨a6,c6,rfl, -, -, -, -⟩:=O4.slice;have HB4:=O hb4;clear hb4 own4 g4;go_wp2_with fail;refine hQ _ _ al ?_;clear hQ Q' Z;refine aH ?_;refine iU 4 ?_;intro Q' hQ;go_wp2_with fail;generalize hwC:World.setCell w4 _ _=wC;have bC:ah wC gb [.slice a6 (LL.length+32) c6] ST:=by rw[<-hwC];exact HB4.set 0 (.slice a6 (LL.length+32) c6)
    have uC:aU w4 gb wC:=by rw[<-hwC];exact aU.setCell _
    have htc:dO (gi+1) gb wX wC:=E4.trans (dO.upd uC);have ownC:=O4.turn (w':=wC) fun i hi _=>uC.block i J;refine hQ _ _ trivial ?_;refine aH ?_;refine jR ?_;rw[show LL++b.commit=fG (aa.take k) b.p++jo 4 b.p from by rw[aL.out];exact congrArg _ (rfl)]at ownC;have R:=aM.out _ _ (ag.next (i:=4) aR a0 ai aD htc bC ownC (by show b.commit.length<=_;rw[bN.out];decide));have ad:=O R;clear hwC bC uC htc ownC R kb fb;go_wp2_with fail
    go_roundg ao
    case measure=>omega
    case rel=>exact ad
   ·rw[show(jZ 5).toNat=101 from F]at ar;obtain⟨C,HCC,aJ,bP⟩:=kZ (I:=fun w'=>ah w' gb [.slice av LL.length cv] ST/\ah w' w.heap.size b.v 101) (fun _ _ h1 h2=>⟨h1.1.ext h2,h1.2.ext h2⟩) (w:=wX) (⟨VAR,af⟩);clear a2;go_upto_region 26 with(fail);refine jQ (W:=[5]) fun Z=> ?_;refine eY 0 (fun w1 h=>((HCC w1).1 h).1.cell' (i:=0) (v:= .slice av LL.length cv) F) ?_;refine bK 1 ?_;refine eY 2 (fun w1 h=>((HCC w1).1 h).2.cell' (ay.mD ab)) ?_;obtain⟨an,bq⟩:∃an:Nat,b.epoch=(an:Int):=⟨b.epoch.toNat,by have:=az.e;omega⟩;have eE:an<=4294967295:=by have:=az.e;omega
    have cA:=O bq;rw[bq];clear bq;refine fC 3 ?_;intro Q' hQ;go_wp2_with fail;refine(O9 an wX.drew J).mono ?_;rintro e ba ⟨rfl,b4,a5⟩;have ax:X wX ba:=(X.refl wX).drew.ext a5;have b5:dP ba ⟨wX.heap.size,4,none⟩ ((gq (UInt32.ofNat an)).map Y):=dP.of b4;have bL:=O b5;have al:=aJ _ _ bP ax;obtain⟨cC,bS⟩:=aB ax (OWN.ext ax);have b7:=Nat.le_trans hle ax.size;obtain⟨ey,el⟩:=aB (VAR.ext ax) (af.ext ax);obtain⟨ys,bh⟩:=aC (gq (UInt32.ofNat an));have ca:ys.length=4:=by rw[<-bh];rfl
    rw[bh]at bL;obtain⟨cE,cD⟩:=aB bh ca;clear b4 b5 a5 bh ca ax;go_wp2_with fail;refine hQ _ _ al ?_;clear hQ Q' Z;have Z:=al;clear al;refine aH ?_;refine fC 4 ?_;intro Q' hQ;go_wp2_with (at_builtin;refine uj F _ _ F (gi+1) (ys:=ys) F F bS cD bL J b7 ?_);intro v4 w4 own4 g4;have BE3:Below (gi+1) ba w4:=(Below.refl (gi+1) ba).grown g4 b7 bS.pK;have BEL:Below (gi+1) wX w4:=Below.trans (cC.mono hle) BE3;have al:C w4:=(HCC _).2 ⟨Below.lF BEL hbB VAR,Below.lF BEL ai af⟩;obtain⟨E4,O4⟩:=aB (show dO (gi+1) gb wX w4 from(dO.below BEL)) own4;have hb4:ah w4 gb [.slice av LL.length cv] ST:=Below.lF (BEL) hbB VAR;have kb:=hb4.cell' (i:=0) (v:= .slice av LL.length cv) F;have fb:=hb4.frozen 0;obtain⟨a6,c6,rfl, -, -, -, -⟩:=O4.slice;have HB4:=O hb4;clear hb4 own4 g4;go_wp2_with fail;refine hQ _ _ al ?_;clear hQ Q' Z;refine aH ?_;refine iU 5 ?_;intro Q' hQ;go_wp2_with fail;generalize hwC:World.setCell w4 _ _=wC;have bC:ah wC gb [.slice a6 (LL.length+4) c6] ST:=by rw[<-hwC];exact HB4.set 0 (.slice a6 (LL.length+4) c6)
    have uC:aU w4 gb wC:=by rw[<-hwC];exact aU.setCell _
    have htc:dO (gi+1) gb wX wC:=E4.trans (dO.upd uC);have ownC:=O4.turn (w':=wC) fun i hi _=>uC.block i J;refine hQ _ _ trivial ?_;refine aH ?_;refine jR ?_;rw[show LL++ys=fG (aa.take k) b.p++jo 5 b.p from by rw[aL.out];exact congrArg _ (by rw[<-cE.out];show gq (UInt32.ofNat an)=gq (UInt32.ofNat b.epoch.toNat);rw[cA.out];rfl)]at ownC;have R:=aM.out _ _ (ag.next (i:=5) aR a0 ai aD htc bC ownC (by show(gq _).length<=_;simp[gq]));have ad:=O R;clear hwC bC uC htc ownC R kb fb;go_wp2_with fail
    go_roundg ao
    case measure=>omega
    case rel=>exact ad
   ·rw[show(jZ 6).toNat=112 from F]at ar;have ap:0<=b.purpose/\b.purpose<=255:=by
     have aw:=a4.range;have a1:dK (K:Int) 6=true:=IY a4.uZ (by rw[bz.out];exact a3);unfold pJ dR at aw;simp only[Bool.or_eq_false_iff,Bool.and_eq_false_imp,decide_eq_false_iff_not]at aw;obtain⟨⟨⟨⟨⟨bu,r2⟩,c_⟩,bv⟩,da⟩,db⟩:=aw;first|(have:=bu a1;omega)|(have:=bv a1;omega)|omega
    have bm:=bA.a (bx.1 a3);have ac:dP wX ⟨w.heap.size,52,none⟩ [.int .i64 b.purpose,.int .i64 b.reason,.int .i64 b.need,.int .i64 b.version]:=by
     intro j u ae;have b6:j<4:=(List.getElem?_eq_some_iff.1 ae).1;rw[dn];refine af.cell' ?_;rcases(by omega:j=0∨j=1∨j=2∨j=3)with rfl|rfl|rfl|rfl
     ·rw[ay.nV ab.out];exact ae
     ·rw[ay.oQ ab.out];exact ae
     ·rw[ay.xw ab.out];exact ae
     ·rw[ay.xA ab.out];exact ae
    rw[bm]at ac;obtain⟨Xi1,aq⟩:=aC b.purpose;rw[aq]at ac ap;generalize b.need=eh at ac;generalize b.version=ei at ac;clear bm;obtain⟨bp,HXB,HCB⟩:=aW aq ap ac;clear aq ac ap a2;refine aeF ?_;intro oc HOC a6 c6 wC bC htc ownC;rw[show LL++[oc]=fG (aa.take k) b.p++jo 6 b.p from by rw[aL.out];exact congrArg _ (by rw[<-HOC.out,<-bp.out];rfl)]at ownC;have R:=aM.out _ _ (ag.next (i:=6) aR a0 ai aD htc bC ownC (Nat.le_of_ble_eq_true F));have ad:=O R;clear bC htc ownC R;go_wp2_with fail
    go_roundg ao
    case measure=>omega
    case rel=>exact ad
   ·rw[show(jZ 7).toNat=97 from F]at ar;have ap:0<=b.reason/\b.reason<=255:=by
     have aw:=a4.range;have a1:dK (K:Int) 7=true:=IY a4.uZ (by rw[bz.out];exact a3);unfold pJ dR at aw;simp only[Bool.or_eq_false_iff,Bool.and_eq_false_imp,decide_eq_false_iff_not]at aw;obtain⟨⟨⟨⟨⟨bu,r2⟩,c_⟩,bv⟩,da⟩,db⟩:=aw;first|(have:=bu a1;omega)|(have:=bv a1;omega)|omega
    have bl:=bA.p (bx.2.1 a3);have ac:dP wX ⟨w.heap.size,52,none⟩ [.int .i64 b.purpose,.int .i64 b.reason,.int .i64 b.need,.int .i64 b.version]:=by
     intro j u ae;have b6:j<4:=(List.getElem?_eq_some_iff.1 ae).1;rw[dn];refine af.cell' ?_;rcases(by omega:j=0∨j=1∨j=2∨j=3)with rfl|rfl|rfl|rfl
     ·rw[ay.nV ab.out];exact ae
     ·rw[ay.oQ ab.out];exact ae
     ·rw[ay.xw ab.out];exact ae
     ·rw[ay.xA ab.out];exact ae
    rw[bl]at ac;obtain⟨Xi1,aq⟩:=aC b.reason;rw[aq]at ac ap;generalize b.need=eh at ac;generalize b.version=ei at ac;clear bl;obtain⟨bp,HXB,HCB⟩:=aW aq ap ac;clear aq ac ap a2;refine aeF ?_;intro oc HOC a6 c6 wC bC htc ownC;rw[show LL++[oc]=fG (aa.take k) b.p++jo 7 b.p from by rw[aL.out];exact congrArg _ (by rw[<-HOC.out,<-bp.out];rfl)]at ownC;have R:=aM.out _ _ (ag.next (i:=7) aR a0 ai aD htc bC ownC (Nat.le_of_ble_eq_true F));have ad:=O R;clear bC htc ownC R;go_wp2_with fail
    go_roundg ao
    case measure=>omega
    case rel=>exact ad
   ·rw[show(jZ 8).toNat=110 from F]at ar;have ap:0<=b.need/\b.need<=255:=by
     have aw:=a4.range;have a1:dK (K:Int) 8=true:=IY a4.uZ (by rw[bz.out];exact a3);unfold pJ dR at aw;simp only[Bool.or_eq_false_iff,Bool.and_eq_false_imp,decide_eq_false_iff_not]at aw;obtain⟨⟨⟨⟨⟨bu,r2⟩,c_⟩,bv⟩,da⟩,db⟩:=aw;first|(have:=bu a1;omega)|(have:=bv a1;omega)|omega
    have bl:=bA.p (bx.2.2.1 a3).1;have bm:=bA.a (bx.2.2.1 a3).2;have ac:dP wX ⟨w.heap.size,52,none⟩ [.int .i64 b.purpose,.int .i64 b.reason,.int .i64 b.need,.int .i64 b.version]:=by
     intro j u ae;have b6:j<4:=(List.getElem?_eq_some_iff.1 ae).1;rw[dn];refine af.cell' ?_;rcases(by omega:j=0∨j=1∨j=2∨j=3)with rfl|rfl|rfl|rfl
     ·rw[ay.nV ab.out];exact ae
     ·rw[ay.oQ ab.out];exact ae
     ·rw[ay.xw ab.out];exact ae
     ·rw[ay.xA ab.out];exact ae
    rw[bl,bm]at ac;obtain⟨Xi1,aq⟩:=aC b.need;rw[aq]at ac ap;generalize b.version=ei at ac;clear bl bm;obtain⟨bp,HXB,HCB⟩:=aW aq ap ac;clear aq ac ap a2;refine aeF ?_;intro oc HOC a6 c6 wC bC htc ownC;rw[show LL++[oc]=fG (aa.take k) b.p++jo 8 b.p from by rw[aL.out];exact congrArg _ (by rw[<-HOC.out,<-bp.out];rfl)]at ownC;have R:=aM.out _ _ (ag.next (i:=8) aR a0 ai aD htc bC ownC (Nat.le_of_ble_eq_true F));have ad:=O R;clear bC htc ownC R;go_wp2_with fail
    go_roundg ao
    case measure=>omega
    case rel=>exact ad
   ·rw[show(jZ 9).toNat=104 from F]at ar;have eA:=af.cell' (ay.xB bo);have eS:=az.hn;have b':IntKind.u8.wrap (b.hn:Int)=((kL (b.hn:Int)).toNat:Int):=BA _;obtain⟨oc,hoc⟩:=aC (kL (b.hn:Int));rw[hoc]at b';have HOC:=O hoc;have bc:=O ab.hl;clear hoc;go_upto_region 34 with(at_builtin;refine uj F _ _ F (gi+1) (ys:=[oc]) F F (OWN.ext ((X.refl _).alloc _)) F (tJ (ah.aI F F)) J (Nat.le_trans hle (by rw[uO];exact Nat.le_succ _)) ?_);intro v4 w4 own4 g4;have BEL:Below (gi+1) wX w4:=((Below.refl (gi+1) wX).alloc hle _).grown g4 (Nat.le_trans hle (by rw[uO];exact Nat.le_succ _)) OWN.pK;obtain⟨E4,O4⟩:=aB (show dO (gi+1) gb wX w4 from(dO.below BEL)) own4;have hb4:ah w4 gb [.slice av LL.length cv] ST:=Below.lF (BEL) hbB VAR;have kb:=hb4.cell' (i:=0) (v:= .slice av LL.length cv) F;have fb:=hb4.frozen 0;obtain⟨a6,c6,rfl, -, -, -, -⟩:=O4.slice;have HB4:=O hb4;clear hb4 own4 g4;clear a2 b' eA;go_upto_region 34 with(fail);generalize hwC:World.setCell w4 _ _=wC;have bC:ah wC gb [.slice a6 (LL.length+1) c6] ST:=by rw[<-hwC];exact HB4.set 0 (.slice a6 (LL.length+1) c6)
    have uC:aU w4 gb wC:=by rw[<-hwC];exact aU.setCell _
    have htc:dO (gi+1) gb wX wC:=E4.trans (dO.upd uC);have ownC:=O4.turn (w':=wC) fun i hi _=>uC.block i J;have cr:=O (htc.blk ai J af);have dz:=cr.cell' (ay.xB bo);obtain⟨cH,cF,cJ⟩:=aW htc ownC bC;clear hwC bC uC htc ownC kb fb E4 O4 HB4;go_wp2_with fail;go_loopw [120] (fun i wr=>∃(k1:Nat) (v':Value),k1<=b.hn/\i= .int .i64 (k1:Int)/\h_ wr (gi+1) v' (LL.length+1+(b.bH.take k1).flatten.length) ((LL++[oc])++(b.bH.take k1).flatten)/\ah wr gb [v'] ST/\dO (gi+1) gb wX wr) (fun i _=>b.hn - (intOf i).toNat)
    case atStart=>exact⟨0,_,J,F,by simpa using cF.out,cJ,cH⟩
    case round=>
     obtain⟨k1,v',eN,rfl,am,a_,aE⟩:=hrel;have cM:X w wr:=dO.UF ag.ext aE J J;have cU:=XY ab.h16 k1 J;by_cases bt:k1<b.hn
     ·have cg:decide ((k1:Int)<(b.hn:Int))=true:=aQ J;have cK:decide (k1<b.hn)=true:=aQ bt;have cB:=bc.out;obtain⟨x,a8⟩:∃x,b.bH[k1]? =some x:=⟨b.bH[k1]'J,List.getElem?_eq_getElem _⟩;obtain⟨A,b1,d'⟩:=Gm (ab.hcell.ext cM) ab.h16 a8;obtain⟨cx,cw⟩:=aB (d' k1 x a8) b1;have c7:=ab.h16 x (mem_of_getElem? a8);obtain⟨dm,dp,bO⟩:=aW c7 (show(x.map Y).length=16 by rw[length_map];exact c7) (XZ a8);obtain⟨P,b2⟩:=aC ((b.bH.take k1).flatten);rw[b2]at am cU bO;obtain⟨ce,cf,rfl, -, -, -, -⟩:=am.slice;have b8:∃a9,LL.length+1+P.length=a9:=⟨_,F⟩;obtain⟨a9,b8⟩:=b8;rw[b8]at am a_;have en:=O b8;have e0:a9<=500000:=J;obtain⟨bR,b0,bX⟩:=aW am a_ aE;have cl:gi+1<=wr.heap.size:=Nat.le_trans hle aE.size;clear d' b1 a8 b2 am a_ aE cB dz c7 b8;have ec:((List.replicate 16 (0:UInt8)).map Y).length=16:=aF;have et:=O ec;clear ec;go_wp2_with (first|(refine jU F (fP (p:=A) (i:=k1) F (by show Value.slice b.ha b.hn b.hc=_;rw[cw.out]) F underlying99 zO bt _) ?_)|(refine bF F (bQ F F cx dh dp) ?_)|(refine bg F _ _ _ F F F (ah.aI (vs:=(List.replicate 16 (0:UInt8)).map Y) F F) dh et (xs:=x.map Y) dp (b_ x) ?_));intro bE dv bw;have dE:Below (gi+1) wr bE:=((Below.refl (gi+1) wr).alloc cl _).trans ⟨bw.os,bw.tape,bw.output,by rw[bw.size];exact Nat.le_refl _,fun i hi=>bw.block i J⟩;have cn:X wr bE:=bw.ext ((X.refl wr).alloc _) bG;obtain⟨cc,cd,ej⟩:=aW (bR.ext cn) (b0.ext cn) dv;have d6:=Nat.le_trans cl cn.size;have cG:=O (bX.trans (dO.below dE));clear dv bw dE cn bR b0 bX;obtain⟨C,HCC,aJ,bP⟩:=kZ (I:=fun w'=>ah w' gb [.slice ce a9 cf] ST) (fun _ _ h1 h2=>(h1.ext h2)) (w:=bE) (cd)
      go_upto_region 37 with(fail);refine jQ (W:=[3]) fun Z=> ?_;refine eY 0 (fun w1 h=>((HCC w1).1 h).cell' (i:=0) (v:= .slice ce a9 cf) F) ?_;refine fC 1 ?_;intro Q' hQ;go_wp2_with fail;refine hQ _ _ Z ?_;clear hQ Q';refine aH ?_;refine fC 2 ?_;intro Q' hQ;go_wp2_with (at_builtin;refine uj F _ _ F (gi+1) (ys:=x) F F (cc.ext (X.refl bE).drew) dm (tJ ej.drew) J d6 ?_);intro e8 cb c9 d0;have cq:Below (gi+1) bE cb:=((Below.refl (gi+1) bE).drew).grown d0 d6 cc.pK;have b3:ah cb gb [.slice ce a9 cf] ST:=Below.lF cq hbB cd;have al:C cb:=(HCC _).2 b3;have kb:=b3.cell' (i:=0) (v:= .slice ce a9 cf) F;have fb:=b3.frozen 0;obtain⟨du,dC,rfl, -, -, -, -⟩:=c9.slice;obtain⟨dr,ek,ds⟩:=aW c9 b3 (cG.trans (dO.below cq));clear c9 d0 cq b3;go_wp2_with fail;refine hQ _ _ al ?_;clear hQ Q' Z;refine aH ?_;refine iU 3 ?_;intro Q' hQ;go_wp2_with fail;generalize hwC:World.setCell cb _ _=wC;have bC:ah wC gb [.slice du (a9+16) dC] ST:=by rw[<-hwC];exact ek.set 0 (.slice du (a9+16) dC)
      have uC:aU cb gb wC:=by rw[<-hwC];exact aU.setCell _
      obtain⟨ev,ew,ex⟩:=aW (dr.turn (w':=wC) fun i hi _=>uC.block i J) (ds.trans (dO.upd uC)) bC;clear hwC kb fb bC uC dr ds;refine hQ _ _ trivial ?_;refine aH ?_;refine jR ?_;go_wp2_with fail;go_roundw
      case rel=>exact⟨k1+1,_,J,by go_num,by rw[bO.out,length_append,dm.out,<-append_assoc];have bd:=ev.out;rw[show LL.length+1+(P.length+16)=a9+16 by rw[<-en.out];omega];simpa using bd,ex,ew⟩
      case measure=>simp[intOf];omega
     ·have cg:decide ((k1:Int)<(b.hn:Int))=false:=aP J;have cK:decide (k1<b.hn)=false:=aP bt;have bk:b.bH.take k1=b.bH:=take_of_length_le (by rw[bc.out];omega);rw[bk]at am;rw[show(LL++[oc])++b.bH.flatten=fG (aa.take k) b.p++jo 9 b.p from by
       rw[aL.out,<-HOC.out,P_,<-bc.out];show _=LL++Bl b.bH;unfold Bl;simp]at am
      have R:=aM.out _ _ (ag.next (i:=9) aR a0 ai aD aE a_ am (Nat.le_trans (Qg az bc ab.h16) aX));have ad:=O R;clear am a_ aE bk R dz;go_wp2_with fail
      go_roundg ao
      case measure=>omega
      case rel=>exact ad
   ·rw[show(jZ 10).toNat=118 from F]at ar;have ap:0<=b.version/\b.version<=255:=by
     have aw:=a4.range;have a1:dK (K:Int) 10=true:=IY a4.uZ (by rw[bz.out];exact a3);unfold pJ dR at aw;simp only[Bool.or_eq_false_iff,Bool.and_eq_false_imp,decide_eq_false_iff_not]at aw;obtain⟨⟨⟨⟨⟨bu,r2⟩,c_⟩,bv⟩,da⟩,db⟩:=aw;first|(have:=bu a1;omega)|(have:=bv a1;omega)|omega
    have bl:=bA.p (bx.2.2.2 a3).1;have bm:=bA.a (bx.2.2.2 a3).2;have ac:dP wX ⟨w.heap.size,52,none⟩ [.int .i64 b.purpose,.int .i64 b.reason,.int .i64 b.need,.int .i64 b.version]:=by
     intro j u ae;have b6:j<4:=(List.getElem?_eq_some_iff.1 ae).1;rw[dn];refine af.cell' ?_;rcases(by omega:j=0∨j=1∨j=2∨j=3)with rfl|rfl|rfl|rfl
     ·rw[ay.nV ab.out];exact ae
     ·rw[ay.oQ ab.out];exact ae
     ·rw[ay.xw ab.out];exact ae
     ·rw[ay.xA ab.out];exact ae
    rw[bl,bm]at ac;obtain⟨Xi1,aq⟩:=aC b.version;rw[aq]at ac ap;generalize b.need=eh at ac;clear bl bm;obtain⟨bp,HXB,HCB⟩:=aW aq ap ac;clear aq ac ap a2;refine aeF ?_;intro oc HOC a6 c6 wC bC htc ownC;rw[show LL++[oc]=fG (aa.take k) b.p++jo 10 b.p from by rw[aL.out];exact congrArg _ (by rw[<-HOC.out,<-bp.out];rfl)]at ownC;have R:=aM.out _ _ (ag.next (i:=10) aR a0 ai aD htc bC ownC (Nat.le_of_ble_eq_true F));have ad:=O R;clear bC htc ownC R;go_wp2_with fail
    go_roundg ao
    case measure=>omega
    case rel=>exact ad
   ·rw[show(jZ 11).toNat=107 from F]at ar;obtain⟨C,HCC,aJ,bP⟩:=kZ (I:=fun w'=>ah w' gb [.slice av LL.length cv] ST/\ah w' w.heap.size b.v 101) (fun _ _ h1 h2=>⟨h1.1.ext h2,h1.2.ext h2⟩) (w:=wX) (⟨VAR,af⟩);clear a2;go_upto_region 40 with(fail);refine jQ (W:=[5]) fun Z=> ?_;refine eY 0 (fun w1 h=>((HCC w1).1 h).1.cell' (i:=0) (v:= .slice av LL.length cv) F) ?_;refine bK 1 ?_;refine eY 2 (fun w1 h=>((HCC w1).1 h).2.cell' (ay.Bh ab)) ?_;obtain⟨an,bq⟩:∃an:Nat,b.count=(an:Int):=⟨b.count.toNat,by have:=az.c;omega⟩;have eE:an<=4294967295:=by have:=az.c;omega
    have cA:=O bq;rw[bq];clear bq;refine fC 3 ?_;intro Q' hQ;go_wp2_with fail;refine(DN an wX.drew J).mono ?_;rintro e ba ⟨rfl,d3,a5⟩;have b4:aK ba (some ⟨wX.heap.size,0,none⟩) ((dG (UInt64.ofNat an)).map Y):=aK.eG d3;have ax:X wX ba:=(X.refl wX).drew.ext a5;have b5:dP ba ⟨wX.heap.size,0,none⟩ ((dG (UInt64.ofNat an)).map Y):=dP.of b4;have bL:=O b5;have al:=aJ _ _ bP ax;obtain⟨cC,bS⟩:=aB ax (OWN.ext ax);have b7:=Nat.le_trans hle ax.size;obtain⟨ey,el⟩:=aB (VAR.ext ax) (af.ext ax);obtain⟨ys,bh⟩:=aC (dG (UInt64.ofNat an));have ca:ys.length=8:=by rw[<-bh];rfl
    rw[bh]at bL;obtain⟨cE,cD⟩:=aB bh ca;clear d3 b4 b5 a5 bh ca ax;go_wp2_with fail;refine hQ _ _ al ?_;clear hQ Q' Z;have Z:=al;clear al;refine aH ?_;refine fC 4 ?_;intro Q' hQ;go_wp2_with (at_builtin;refine uj F _ _ F (gi+1) (ys:=ys) F F bS cD bL J b7 ?_);intro v4 w4 own4 g4;have BE3:Below (gi+1) ba w4:=(Below.refl (gi+1) ba).grown g4 b7 bS.pK;have BEL:Below (gi+1) wX w4:=Below.trans (cC.mono hle) BE3;have al:C w4:=(HCC _).2 ⟨Below.lF BEL hbB VAR,Below.lF BEL ai af⟩;obtain⟨E4,O4⟩:=aB (show dO (gi+1) gb wX w4 from(dO.below BEL)) own4;have hb4:ah w4 gb [.slice av LL.length cv] ST:=Below.lF (BEL) hbB VAR;have kb:=hb4.cell' (i:=0) (v:= .slice av LL.length cv) F;have fb:=hb4.frozen 0;obtain⟨a6,c6,rfl, -, -, -, -⟩:=O4.slice;have HB4:=O hb4;clear hb4 own4 g4;go_wp2_with fail;refine hQ _ _ al ?_;clear hQ Q' Z;refine aH ?_;refine iU 5 ?_;intro Q' hQ;go_wp2_with fail;generalize hwC:World.setCell w4 _ _=wC;have bC:ah wC gb [.slice a6 (LL.length+8) c6] ST:=by rw[<-hwC];exact HB4.set 0 (.slice a6 (LL.length+8) c6)
    have uC:aU w4 gb wC:=by rw[<-hwC];exact aU.setCell _
    have htc:dO (gi+1) gb wX wC:=E4.trans (dO.upd uC);have ownC:=O4.turn (w':=wC) fun i hi _=>uC.block i J;refine hQ _ _ trivial ?_;refine aH ?_;refine jR ?_;rw[show LL++ys=fG (aa.take k) b.p++jo 11 b.p from by rw[aL.out];exact congrArg _ (by rw[<-cE.out];show dG (UInt64.ofNat an)=dG (UInt64.ofNat b.count.toNat);rw[cA.out];rfl)]at ownC;have R:=aM.out _ _ (ag.next (i:=11) aR a0 ai aD htc bC ownC (by show(dG _).length<=_;rw[Bc];decide));have ad:=O R;clear hwC bC uC htc ownC R kb fb;go_wp2_with fail
    go_roundg ao
    case measure=>omega
    case rel=>exact ad
  ·have bB:¬k<us.size:=by rw[dl.out];exact cX
   have bj:=a7.it;rw[b9]at bj;have ar:∀ty,(Instr.next (.pointer (some ⟨gi,0,none⟩)) true ty).run prog wr=_:=fun ty=>Lib.run_next_end_at wr gi us k ty bj bB;have d5:aa.take k=aa:=take_of_length_le J;rw[d5]at a7;obtain⟨av,cv,c3, -, -, -, -⟩:=a7.own.slice;subst c3;have cW:=a7.own;rw[<-bz.out]at cW;have cz:=O (show X w wr/\h_ wr w.heap.size _ (fG (gy (K:Int)) b.p).length (fG (gy (K:Int)) b.p)from⟨a7.ext,cW.lower J⟩);have kv:=a7.var.cell' (i:=0) F;rw[<-bz.out]at kv;obtain⟨eV,cP⟩:=aC (fG (gy (K:Int)) b.p);have ep:=O cP;rw[cP]at kv cz;clear bj d5 a7 b9 cW cP;go_wp2_with fail
   go_ret2
   exact⟨cz.1,.inl ⟨cy,_,F,by rw[ep.out];exact cz.2⟩⟩
end
end Go.Proofs.YtjlhhnkhcbpnjaaGreatDoor
