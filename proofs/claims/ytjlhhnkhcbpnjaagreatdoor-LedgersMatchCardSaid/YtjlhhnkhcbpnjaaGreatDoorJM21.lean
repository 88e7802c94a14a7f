/- Laws that the row leans on; no condition. -/
import Derived.Test.YtjlhhnkhcbpnjaaGreatDoorJM20
namespace Go.Proofs.YtjlhhnkhcbpnjaaGreatDoor
open Go Go.RowKit List Tryz
set_option linter.unusedVariables false
set_option linter.unusedSimpArgs false
set_option maxHeartbeats 40000000
set_option maxRecDepth 100000
section
open Go Go.RowKit
theorem dO.UF{W w w':World}{B g:Nat}(h:X W w)(t:dO B g w w')(j:W.heap.size<=B)(u:W.heap.size<=g):X W w':=
 ⟨t.os.trans h.os,t.tape.trans h.tape,t.output.trans h.output,Nat.le_trans h.size t.size,fun k hk=>(t.block k J J).trans (h.block k hk)⟩
section
variable {P:Program} {ops:Array Oper} {Q:Exit->Act->World->Prop} {S:World->Prop} {W:List Nat}
theorem d9(i:Nat){j:Oper}{r:List Oper}{f:Nat}{u:Array Bool}{a:Act}{w:World}{E:Prop}{v:Value}(h:E)(aa:ops.toList.drop i=j::r:=by exact F)(hs:Region.noSelect ops=true:=by kernel_rfl)(R:Region.free .any ops u i=true:=by kernel_rfl)(ab:(Region.ready .any ops u).contains i=true:=by kernel_rfl)(ac:Region.wanted j (yielded ops a.tmps)=true:=by exact F)(ad:∀w,(fun _=>True) w->(execOp a.eval j).run P w= .ok (.value v) w:=by(intro _ _;go_simp;try(simp only[Int.add_zero,Int.zero_add,Int.mul_zero,Int.mul_one,Int.zero_mul,Bool.false_eq_true,if_false,if_true]);first|done|rfl|exact dz|exact cB|exact bN))(hx:E->jL P ops Q S W f (u.setIfInBounds i true) (a.put j.dst v) w:=by(intro hx;simp only[Act.put,setIfInBounds_toArray,set_cons_succ,set_cons_zero];exact hx))(I:∀c a w,Q (.panic c) (a.put j.dst v) w->Q (.panic c) a w:=by exact fun _ _ _ h=>h):jL P ops Q S W (f+1) u a w:=
 kJ i aa hs R ab I (.inl ⟨ac,ad⟩) (hx h)
theorem bS(i:Nat){j:Oper}{r:List Oper}{f:Nat}{u:Array Bool}{a:Act}{w:World}{E:Prop}{v:Value}(h:E)(aa:ops.toList.drop i=j::r:=by exact F)(hs:Region.noSelect ops=true:=by kernel_rfl)(R:Region.free .any ops u i=true:=by kernel_rfl)(ab:(Region.ready .any ops u).contains i=true:=by kernel_rfl)(ac:Region.wanted j (yielded ops a.tmps)=true:=by exact F)(ad:∀w,(fun _=>True) w->(execOp a.eval j).run P w= .ok (.value v) w:=by(intro _ _;go_simp;(try simp only[Int.add_zero,Int.zero_add,Int.mul_zero,Int.mul_one,Int.zero_mul,Bool.false_eq_true,if_false,if_true,dz,bN]);try with_reducible rfl))(hx:E->jL P ops Q S W f (u.setIfInBounds i true) (a.put j.dst v) w:=by(intro hx;simp only[Act.put,setIfInBounds_toArray,set_cons_succ,set_cons_zero];exact hx))(I:∀c a w,Q (.panic c) (a.put j.dst v) w->Q (.panic c) a w:=by exact fun _ _ _ h=>h):jL P ops Q S W (f+1) u a w:=
 kJ i aa hs R ab I (.inl ⟨ac,ad⟩) (hx h)
end
structure Bx(p:Prop):Prop where
 o:p
theorem aeF{P Q:Prop}(h:P)(e:Bx P->Q:=by
 intro hgz;have dz:IntKind.i64.wrap Xi1=Xi1:=IntWalk.i64_in _ (by have:=HXB.out;omega);have bN:IntKind.i64.wrap 0=0:=IntWalk.i64_in _ J;have cB:IntKind.u8.wrap Xi1=((kL Xi1).toNat:Int):=BA Xi1;obtain⟨oc,hoc⟩:=aC (kL Xi1);rw[hoc]at cB;have HOC:=O hoc;have c52:=HCB.out 0 _ F;rw[dn]at c52;change wX.cell? ⟨w.heap.size,52,none⟩=_ at c52;have C52:=O c52;have c53:=HCB.out 1 _ F;rw[dn]at c53;change wX.cell? ⟨w.heap.size,53,none⟩=_ at c53;have C53:=O c53;have c54:=HCB.out 2 _ F;rw[dn]at c54;change wX.cell? ⟨w.heap.size,54,none⟩=_ at c54;have C54:=O c54;have c55:=HCB.out 3 _ F;rw[dn]at c55;change wX.cell? ⟨w.heap.size,55,none⟩=_ at c55;have C55:=O c55;clear hoc c52 c53 c54 c55;obtain⟨C,iB,aJ,bP⟩:=kZ (I:=fun w'=>ah w' gb [.slice av LL.length cv] ST/\X wX w') (fun _ _ h1 h2=>⟨h1.1.ext h2,h1.2.ext h2⟩) (w:=wX) (⟨VAR,X.refl _⟩);go_upto_region 31 with(fail);refine jQ (W:=[22,23]) fun Z=> ?_;refine eY 0 (fun w1 h=>((iB w1).1 h).1.cell' (i:=0) (v:= .slice av LL.length cv) F) ?_;refine bK 1 ?_;refine eY 2 (fun w1 h=>gW C52 ((iB w1).1 h).2) ?_;refine bK 3 ?_;refine eY 4 (fun w1 h=>gW C53 ((iB w1).1 h).2) ?_;refine bS 5 ?_;refine bK 6 ?_;refine eY 7 (fun w1 h=>gW C54 ((iB w1).1 h).2) ?_;refine bK 8 ?_;refine bK 9 ?_;refine bK 13 ?_;refine eY 14 (fun w1 h=>gW C55 ((iB w1).1 h).2) ?_;refine bK 15 ?_;refine bK 16 ?_;refine fC 10 ?_;intro Q' hQ;go_wp2_with fail;refine(yg _ _).mono ?_;rintro e wq ⟨rfl,eU⟩;rw[<-eU];clear eU wq;go_wp2_with fail;refine hQ _ _ Z ?_;clear hQ Q';refine aH ?_;refine bS 11 ?_;refine bS 12 ?_
 refine fC 17 ?_;intro Q' hQ;go_wp2_with fail;refine(yg _ _).mono ?_;rintro e wq ⟨rfl,eU⟩;rw[<-eU];clear eU wq;go_wp2_with fail;refine hQ _ _ Z ?_;clear hQ Q';refine aH ?_;refine bS 18 ?_;refine d9 19 (v:= .int .i64 Xi1) ?_;refine d9 20 (v:= .int .u8 (oc.toNat:Int)) ?_;refine fC 21 ?_;intro Q' hQ;go_wp2_with fail;refine hQ _ _ (aJ _ _ Z ((X.refl _).alloc _)) ?_;clear hQ Q' Z;generalize hwB:World.drew (World.alloc wX _)=wB;have nB:ah wB wX.heap.size (([oc]:aj).map Y) 5:=by rw[<-hwB];exact ah.aI F F
 have eB:X wX wB:=by rw[<-hwB];exact((X.refl wX).alloc _).drew
 obtain⟨NB,EB2,OB⟩:=aW nB eB (OWN.ext eB);have hleB:=Nat.le_trans hle eB.size;clear hwB nB eB;refine aH ?_;refine iU 22 ?_;intro Q' hQ;go_wp2_with (at_builtin;refine uj F _ _ F (gi+1) (ys:=[oc]) F F OB F (tJ NB) J hleB ?_);intro v4 w4 own4 g4;have BE3:Below (gi+1) wB w4:=(Below.refl (gi+1) wB).grown g4 hleB OB.pK;have BEL:Below (gi+1) wX w4:=Below.trans (EB2.mono hle) BE3;obtain⟨E4,O4⟩:=aB (show dO (gi+1) gb wX w4 from(dO.below BEL)) own4;have hb4:ah w4 gb [.slice av LL.length cv] ST:=Below.lF (BEL) hbB VAR;have kb:=hb4.cell' (i:=0) (v:= .slice av LL.length cv) F;have fb:=hb4.frozen 0;obtain⟨a6,c6,rfl, -, -, -, -⟩:=O4.slice;have HB4:=O hb4;clear hb4 own4 g4;go_wp2_with fail;refine hQ _ _ trivial ?_;clear hQ Q';refine aH ?_;refine iU 23 ?_;intro Q' hQ;go_wp2_with fail;generalize hwC:World.setCell w4 _ _=wC;have bC:ah wC gb [.slice a6 (LL.length+1) c6] ST:=by rw[<-hwC];exact HB4.set 0 (.slice a6 (LL.length+1) c6)
 have uC:aU w4 gb wC:=by rw[<-hwC];exact aU.setCell _
 have htc:dO (gi+1) gb wX wC:=E4.trans (dO.upd uC);have ownC:=O4.turn (w':=wC) fun i hi _=>uC.block i J;refine hQ _ _ trivial ?_;refine aH ?_;refine jR ?_;clear hwC uC HB4 kb fb O4 E4 BE3 BEL NB cB;revert ownC htc bC;revert wC;revert c6 a6;revert HOC oc;exact hgz.o):Q:=e ⟨h⟩
theorem adw(act:Int)(b:ay)(w:World)(eg:b.Ok w):
 Calls prog 86 #[.int .i64 act,.agg b.v.toArray] w fun e w'=>X w w'/\((jS act b=0/\∃v,e= .returned (.tuple #[v,.int .i64 0])/\h_ w' w.heap.size v (fG (gy act) b.p).length (fG (gy act) b.p))∨(jS act b≠0/\e= .returned (.tuple #[.slice none 0 0,.int .i64 (jS act b)]))):=by
 have ab:=O eg;clear eg;have eb:=O (Qn act b);go_enter func86,ntmps86;go_upto_region 1 with(fail);generalize iX:World.alloc w _=dl;have d3:ah dl w.heap.size b.v 101:=by rw[<-iX];exact ah.aI F F
 have d8:X w dl:=by rw[<-iX];exact(X.refl w).alloc _
 obtain⟨cy,EA,ey⟩:=aW d3 d8 (ay.len ab);clear iX d3 d8;go_wp2_with (refine bV F 101 (.tmp 3) F F cy eP ey ?_);refine(eb dl (ab.ext EA)).mono ?_;rintro e w2 ⟨rfl,e2⟩;obtain⟨cz,cD⟩:=aB (cy.ext e2) (EA.ext e2);clear e2 cy EA eb;by_cases bj:jS act b=0
 rotate_left
 ·obtain⟨E,cX⟩:=aC (jS act b);rw[cX]at bj⊢;have co:(E != 0)=true:=by simpa using bj
  obtain⟨cG,ds⟩:=aB bj cX;clear cX bj;go_wp2_with fail
  go_ret2
  exact⟨cD,.inr ⟨by rw[ds.out];exact cG,by rw[ds.out];rfl⟩⟩
 have a9:=O (Ed bj);have az:=O (Ed bj).small;have cG:=O bj;rw[bj];clear bj;have bw:=a9.uZ;have eW:1<=act/\act<=12:=by unfold iI at bw;simpa using bw
 obtain⟨K,rfl⟩:∃K:Nat,act=(K:Int):=⟨act.toNat,J⟩;have c_:=O (fun w=>Gy K w J);have cw:=Qi bw;rw[show(K:Int).toNat=K from F]at cw;have c5:=Qh bw;have c0:=adv bw;obtain⟨aa,cr⟩:=aC (gy (K:Int));have b2:=O cr;rw[cr]at cw c5 c0;obtain⟨us,db⟩:=aC ((⟨(rF K).toArray⟩:ByteArray):ByteArray);rw[db]at c_;have da:us.data.toList=aa.map jZ:=by rw[<-db,<-cw]
 have ek:us.size=aa.length:=by
  have bi:=congrArg List.length da;rw[Array.length_toList,length_map]at bi;exact bi
 have fe:aa.length<=12:=by
  rw[<-cr];rcases wo bw with h|h|h|h|h|h|h|h|h|h|h|h<;>rw[h]<;>decide
 obtain⟨eC,du,Ct,b1⟩:=bU da ek c5 c0;have HZ:=O a9.zeros;clear cw db da ek c5 c0 cr bw eW;go_upto_region 5 with(fail);generalize dd:World.alloc w2 _=wD;obtain⟨gb,cs⟩:=aC w2.heap.size;have eo:ah wD gb [.slice none 0 0] ST:=by rw[<-dd,<-cs];exact ah.aI F F
 have cV:X w2 wD:=by rw[<-dd];exact(X.refl w2).alloc _
 have a3:w.heap.size<gb:=by rw[<-cs];exact cz.lt
 rw[cs];obtain⟨dp,dr,d0⟩:=aW (cz.ext cV) (cD.ext cV) eo;clear dd cs eo cV cz cD;go_wp2_with fail;refine(c_ wD).mono ?_;rintro e bl ⟨rfl,a_⟩;obtain⟨dm,dq,cS⟩:=aW (dp.ext a_) (dr.ext a_) (d0.ext a_);have e1:gb<bl.heap.size:=cS.lt;clear a_ dp dr d0 c_;go_wp2_with fail;obtain⟨gi,c2⟩:=aC bl.heap.size;have c3:=World.iter_heap bl us 0;have cp:X bl (bl.iter us 0):=(X.refl bl).alloc _;have ej:(bl.iter us 0).heap.size=gi+1:=by rw[<-c2];exact uO bl _
 rw[c2]at c3 e1⊢;have eR:w.heap.size≠gi:=J;have e0:gb≠gi:=J;have a4:gi≠gb:=J;have eS:w.heap.size<=gi:=J;have ai:w.heap.size<gi+1:=J;have hbB:gb<gi+1:=J;have aE:gi<gi+1:=J;have dC:AA w gb gi (gi+1) us b 40000 [] (bl.iter us 0) (.slice none 0 0):=
  ⟨dm.ext cp,cS.ext cp,⟨F,.inl ⟨F,F⟩⟩,by simp[fG],dq.ext cp,by rw[ej];exact Nat.le_refl _,c3⟩
 clear c3 cp ej dm dq cS c2
 go_loopg [] aa.length (fun eQ wx=>∃(k:Nat) (v:Value),k<=aa.length/\AA w gb gi (gi+1) us b 40000 (aa.take k) wx v/\aa.length<=k+eQ)
 case atStart=>exact⟨0,.slice none 0 0,J,by simpa using dC,J⟩
 case round=>
  obtain⟨k,v,hk,ba,e'⟩:=hrel;clear dC;have ch:(aa.take k).length=k:=by rw[length_take];omega
  by_cases c8:k<aa.length
  ·obtain⟨ao,rfl⟩:∃ao,gk=ao+1:=⟨gk - 1,J⟩;obtain⟨i,hi⟩:∃i,aa[k]? =some i:=⟨_,List.getElem?_eq_getElem c8⟩;have bo:aa.take (k+1)=aa.take k++[i]:=by rw[take_add_one,hi];rfl
   have fa:i<12:=Ct.2 i (mem_of_getElem? hi);have a8:=O (mem_of_getElem? hi);have b3:k<us.size:=by rw[du.out];exact c8
   have bm:=ba.it;rw[ch]at bm;have ar:∀ty,(Instr.next (.pointer (some ⟨gi,0,none⟩)) true ty).run prog wr=_:=fun ty=>Lib.run_next_any_at wr gi us k ty bm b3;have c9:us[k]'b3=jZ i:=by
    have bi:us.data.toList[k]? =some (jZ i):=by rw[eC.out,List.getElem?_map,hi];rfl
    rw[Array.getElem?_toList]at bi;exact(Array.getElem?_eq_some_iff.1 bi).2
   have ea:(us[k]'b3).toNat<128:=by
    rw[c9];rcases(by omega:i=0∨i=1∨i=2∨i=3∨i=4∨i=5∨i=6∨i=7∨i=8∨i=9∨i=10∨i=11)with rfl|rfl|rfl|rfl|rfl|rfl|rfl|rfl|rfl|rfl|rfl|rfl<;>decide
   have c1:=decode_ascii us k b3 ea;rw[c9]at c1;rw[c1]at ar;have ag:IX w gb gi (gi+1) us b 40000 (aa.take k) (wr.iterAt gi us (k+1)) v:=
    ba.next eR e0 eS aE (fun j cf=>Lib.iterAt_other wr gi j us (k+1) cf) (Lib.iterAt_size ..) ⟨F,F,F⟩ (by rw[ch];exact Lib.iterAt_heap wr gi us k (k+1) bm)
   have dt:=O bo;clear ba bm c1 c9 ea bo hi;simp only at ar;generalize wr.iterAt gi us (k+1)=wX at*;have eh:∀wz v2,AA w gb gi (gi+1) us b 40000 (aa.take k++[i]) wz v2->∃(k:Nat) (v:Value),k<=aa.length/\AA w gb gi (gi+1) us b 40000 (aa.take k) wz v/\aa.length<=k+ao:=
    fun wz v2 h=>⟨k+1,v2,J,by rw[dt.out];exact h,J⟩
   have a2:=O eh;clear eh dt;obtain⟨av,cv,dc,e7,e4,e6,e3⟩:=ag.own.slice;subst dc;have ef:=ag.len;rw[ch]at ef;have e5:(fG (aa.take k) b.p).length<=480000:=by
    have:40000*k<=40000*12:=Nat.mul_le_mul_left _ J;omega
   have df:=ag.own;have a7:=ag.var.cell' (i:=0) (v:= .slice av (fG (aa.take k) b.p).length cv) F;obtain⟨LL,cq⟩:=aC (fG (aa.take k) b.p);rw[cq]at df e5 a7;have VAR:=O ag.var;rw[cq]at VAR;obtain⟨a1,OWN⟩:=aB cq df;have hle:=ag.le;have af:=O ag.body;have bt:=O (ab.ext ag.ext);clear cq df ef e3 e7 e4 e6;rcases(by omega:i=0∨i=1∨i=2∨i=3∨i=4∨i=5∨i=6∨i=7∨i=8∨i=9∨i=10∨i=11)with rfl|rfl|rfl|rfl|rfl|rfl|rfl|rfl|rfl|rfl|rfl|rfl
   ·rw[show(jZ 0).toNat=116 from F]at ar;have fi:=af.cell' (ay.aL b);have ff:=az.t;go_wp2_with (at_builtin;refine P9 F _ _ F (gi+1) F F OWN J hle ?_);intro v4 w4 own4 g4;have BEL:=(Below.refl (gi+1) wX).grown g4 hle OWN.pK;obtain⟨E4,O4⟩:=aB (show dO (gi+1) gb wX w4 from(dO.below BEL)) own4;have hb4:ah w4 gb [.slice av LL.length cv] ST:=Below.lF (BEL) hbB VAR;have kb:=hb4.cell' (i:=0) (v:= .slice av LL.length cv) F;have fb:=hb4.frozen 0;obtain⟨a6,c6,rfl, -, -, -, -⟩:=O4.slice;have HB4:=O hb4;clear hb4 own4 g4;go_wp2_with fail;generalize hwC:World.setCell w4 _ _=wC;have bC:ah wC gb [.slice a6 (LL.length+b.text.size) c6] ST:=by rw[<-hwC];exact HB4.set 0 (.slice a6 (LL.length+b.text.size) c6)
    have uC:aU w4 gb wC:=by rw[<-hwC];exact aU.setCell _
    have htc:dO (gi+1) gb wX wC:=E4.trans (dO.upd uC);have ownC:=O4.turn (w':=wC) fun i hi _=>uC.block i J;rw[show LL++b.text.data.toList=fG (aa.take k) b.p++jo 0 b.p from by rw[a1.out];exact congrArg _ (rfl)]at ownC;have R:=a2.out _ _ (ag.next (i:=0) a3 a4 ai aE htc bC ownC (by show b.text.data.toList.length<=_;rw[Array.length_toList];exact Nat.le_trans az.t aX));have ad:=O R;clear hwC bC uC htc ownC R kb fb;go_wp2_with fail
    go_roundg ao
    case measure=>omega
    case rel=>exact ad
   ·rw[show(jZ 1).toNat=109 from F]at ar;obtain⟨C,iB,aJ,bP⟩:=kZ (I:=fun w'=>ah w' gb [.slice av LL.length cv] ST/\ah w' w.heap.size b.v 101) (fun _ _ h1 h2=>⟨h1.1.ext h2,h1.2.ext h2⟩) (w:=wX) (⟨VAR,af⟩);clear a7;have b6:=O ab.hm;go_upto_region 13 with(fail);refine jQ (W:=[4]) fun Z=> ?_;refine eY 0 (fun w1 h=>((iB w1).1 h).1.cell' (i:=0) (v:= .slice av LL.length cv) F) ?_;refine bK 1 ?_;refine fC 2 ?_;intro Q' hQ;go_wp2_with fail;refine hQ _ _ Z ?_;clear hQ Q';refine aH ?_;refine fC 3 ?_;intro Q' hQ;go_wp2_with (at_builtin;refine uj F _ _ F (gi+1) (ys:=b.member) F F (OWN.ext (X.refl wX).drew) b6 ((ay.JL bt af).ext (X.refl wX).drew) J hle ?_);intro v4 w4 own4 g4;have BEL:Below (gi+1) wX w4:=((Below.refl (gi+1) wX).drew).grown g4 hle OWN.pK;have al:C w4:=(iB _).2 ⟨Below.lF BEL hbB VAR,Below.lF BEL ai af⟩;obtain⟨E4,O4⟩:=aB (show dO (gi+1) gb wX w4 from(dO.below BEL)) own4;have hb4:ah w4 gb [.slice av LL.length cv] ST:=Below.lF (BEL) hbB VAR;have kb:=hb4.cell' (i:=0) (v:= .slice av LL.length cv) F;have fb:=hb4.frozen 0;obtain⟨a6,c6,rfl, -, -, -, -⟩:=O4.slice;have HB4:=O hb4;clear hb4 own4 g4;go_wp2_with fail;refine hQ _ _ al ?_;clear hQ Q' Z;refine aH ?_;refine iU 4 ?_;intro Q' hQ;go_wp2_with fail;generalize hwC:World.setCell w4 _ _=wC;have bC:ah wC gb [.slice a6 (LL.length+16) c6] ST:=by rw[<-hwC];exact HB4.set 0 (.slice a6 (LL.length+16) c6)
    have uC:aU w4 gb wC:=by rw[<-hwC];exact aU.setCell _
    have htc:dO (gi+1) gb wX wC:=E4.trans (dO.upd uC);have ownC:=O4.turn (w':=wC) fun i hi _=>uC.block i J;refine hQ _ _ trivial ?_;refine aH ?_;refine jR ?_;rw[show LL++b.member=fG (aa.take k) b.p++jo 1 b.p from by rw[a1.out];exact congrArg _ (rfl)]at ownC;have R:=a2.out _ _ (ag.next (i:=1) a3 a4 ai aE htc bC ownC (by show b.member.length<=_;rw[b6.out];decide));have ad:=O R;clear hwC bC uC htc ownC R kb fb;go_wp2_with fail
    go_roundg ao
    case measure=>omega
    case rel=>exact ad
   ·rw[show(jZ 2).toNat=114 from F]at ar;have eM:=af.cell' (ay.pI bt);have e8:=az.rn;have ci:IntKind.u8.wrap (b.rn:Int)=((kL (b.rn:Int)).toNat:Int):=BA _;obtain⟨oc,hoc⟩:=aC (kL (b.rn:Int));rw[hoc]at ci;have HOC:=O hoc;have bh:=O ab.rl;clear hoc;go_upto_region 16 with(at_builtin;refine uj F _ _ F (gi+1) (ys:=[oc]) F F (OWN.ext ((X.refl _).alloc _)) F (tJ (ah.aI F F)) J (Nat.le_trans hle (by rw[uO];exact Nat.le_succ _)) ?_);intro v4 w4 own4 g4;have BEL:Below (gi+1) wX w4:=((Below.refl (gi+1) wX).alloc hle _).grown g4 (Nat.le_trans hle (by rw[uO];exact Nat.le_succ _)) OWN.pK;obtain⟨E4,O4⟩:=aB (show dO (gi+1) gb wX w4 from(dO.below BEL)) own4;have hb4:ah w4 gb [.slice av LL.length cv] ST:=Below.lF (BEL) hbB VAR;have kb:=hb4.cell' (i:=0) (v:= .slice av LL.length cv) F;have fb:=hb4.frozen 0;obtain⟨a6,c6,rfl, -, -, -, -⟩:=O4.slice;have HB4:=O hb4;clear hb4 own4 g4;clear a7 ci eM;go_upto_region 16 with(fail);generalize hwC:World.setCell w4 _ _=wC;have bC:ah wC gb [.slice a6 (LL.length+1) c6] ST:=by rw[<-hwC];exact HB4.set 0 (.slice a6 (LL.length+1) c6)
    have uC:aU w4 gb wC:=by rw[<-hwC];exact aU.setCell _
    have htc:dO (gi+1) gb wX wC:=E4.trans (dO.upd uC);have ownC:=O4.turn (w':=wC) fun i hi _=>uC.block i J;have cC:=O (htc.blk ai J af);have d4:=cC.cell' (ay.pI bt);obtain⟨cR,cP,cT⟩:=aW htc ownC bC;clear hwC bC uC htc ownC kb fb E4 O4 HB4;go_wp2_with fail;go_loopw [53] (fun i wr=>∃(k1:Nat) (v':Value),k1<=b.rn/\i= .int .i64 (k1:Int)/\h_ wr (gi+1) v' (LL.length+1+((b.roles.take k1).map kU).flatten.length) ((LL++[oc])++((b.roles.take k1).map kU).flatten)/\ah wr gb [v'] ST/\dO (gi+1) gb wX wr) (fun i _=>b.rn - (intOf i).toNat)
    case atStart=>exact⟨0,_,J,F,by simpa using cP.out,cT,cR⟩
    case round=>
     obtain⟨k1,v',Co,rfl,am,bd,a0⟩:=hrel;have cW:X w wr:=dO.UF ag.ext a0 J J;have c4:=XV az k1 J;by_cases j3:k1<b.rn
     ·have co:decide ((k1:Int)<(b.rn:Int))=true:=aQ J;have cU:decide (k1<b.rn)=true:=aQ j3;have cJ:=bh.out;obtain⟨x,pQ⟩:∃x,b.roles[k1]? =some x:=⟨b.roles[k1]'J,List.getElem?_eq_getElem _⟩;obtain⟨A,ca,Fu⟩:=zC (ab.nU.ext cW) pQ;obtain⟨cF,cE⟩:=aB Fu ca;have fg:=az.rs x (mem_of_getElem? pQ);have nA:=O (XW pQ);obtain⟨P,cb⟩:=aC (((b.roles.take k1).map kU).flatten);rw[cb]at am c4 nA;obtain⟨b7,b',b9⟩:=aW am bd a0;have ct:gi+1<=wr.heap.size:=Nat.le_trans hle a0.size;clear Fu ca pQ cb am bd a0 cJ d4;go_wp2_with (first|(refine jU F (fP (p:=A) (i:=k1) F (by show Value.slice b.ra b.rn b.rc=_;rw[cE.out]) F underlying98 tV j3 _) ?_)|(refine jU F (kT F F cF oO) ?_));refine(UE _ x v' _ (gi+1) gb wr b7 b' hbB ct J).mono ?_;rintro e fk ⟨e9,rfl,em,ep,en⟩;obtain⟨ck,cl,cQ⟩:=aW em ep (b9.trans en);clear em ep en b7 b' b9;go_wp2_with fail;go_roundw
      case rel=>exact⟨k1+1,e9,J,by go_num,by rw[nA.out,length_append,DU,<-append_assoc];have bi:=ck.out;rw[show LL.length+1+(P.length+(x.size+1))=LL.length+1+P.length+(x.size+1) by omega];exact bi,cl,cQ⟩
      case measure=>simp[intOf];omega
     ·have co:decide ((k1:Int)<(b.rn:Int))=false:=aP J;have cU:decide (k1<b.rn)=false:=aP j3;have bo:b.roles.take k1=b.roles:=take_of_length_le (by rw[bh.out];omega);rw[bo]at am;rw[show(LL++[oc])++(b.roles.map kU).flatten=fG (aa.take k) b.p++jo 2 b.p from by
       rw[a1.out,<-HOC.out,P_,<-bh.out];show _=LL++Bj b.roles;unfold Bj;simp]at am
      have R:=a2.out _ _ (ag.next (i:=2) a3 a4 ai aE a0 bd am (Nat.le_trans (Qe az bh) aX));have ad:=O R;clear am bd a0 bo R d4;go_wp2_with fail
      go_roundg ao
      case measure=>omega
      case rel=>exact ad
   ·rw[show(jZ 3).toNat=108 from F]at ar;have fh:=af.cell' (ay.zH bt);have fd:=az.l;go_wp2_with fail;refine(UE LL b.label _ LL.length (gi+1) gb wX OWN VAR hbB hle J).mono ?_;rintro e wC ⟨v4,rfl,ownC,bC,htc⟩;rw[show LL++kU b.label=fG (aa.take k) b.p++jo 3 b.p from by rw[a1.out];rfl]at ownC;have R:=a2.out _ _ (ag.next (i:=3) a3 a4 ai aE htc bC ownC (by show(kU b.label).length<=_;rw[DU];omega));have ad:=O R;clear bC htc ownC R;go_wp2_with fail
    go_roundg ao
    case measure=>omega
    case rel=>exact ad
   ·rw[show(jZ 4).toNat=99 from F]at ar;obtain⟨C,iB,aJ,bP⟩:=kZ (I:=fun w'=>ah w' gb [.slice av LL.length cv] ST/\ah w' w.heap.size b.v 101) (fun _ _ h1 h2=>⟨h1.1.ext h2,h1.2.ext h2⟩) (w:=wX) (⟨VAR,af⟩);clear a7;have b6:=O ab.hcm;go_upto_region 24 with(fail);refine jQ (W:=[4]) fun Z=> ?_;refine eY 0 (fun w1 h=>((iB w1).1 h).1.cell' (i:=0) (v:= .slice av LL.length cv) F) ?_;refine bK 1 ?_;refine fC 2 ?_;intro Q' hQ;go_wp2_with fail;refine hQ _ _ Z ?_;clear hQ Q';refine aH ?_;refine fC 3 ?_;intro Q' hQ;go_wp2_with (at_builtin;refine uj F _ _ F (gi+1) (ys:=b.commit) F F (OWN.ext (X.refl wX).drew) b6 ((ay.comm bt af).ext (X.refl wX).drew) J hle ?_);intro v4 w4 own4 g4;have BEL:Below (gi+1) wX w4:=((Below.refl (gi+1) wX).drew).grown g4 hle OWN.pK;have al:C w4:=(iB _).2 ⟨Below.lF BEL hbB VAR,Below.lF BEL ai af⟩;obtain⟨E4,O4⟩:=aB (show dO (gi+1) gb wX w4 from(dO.below BEL)) own4;have hb4:ah w4 gb [.slice av LL.length cv] ST:=Below.lF (BEL) hbB VAR;have kb:=hb4.cell' (i:=0) (v:= .slice av LL.length cv) F;have fb:=hb4.frozen 0;obtain⟨a6,c6,rfl, -, -, -, -⟩:=O4.slice;have HB4:=O hb4;clear hb4 own4 g4;go_wp2_with fail;refine hQ _ _ al ?_;clear hQ Q' Z;refine aH ?_;refine iU 4 ?_;intro Q' hQ;go_wp2_with fail;generalize hwC:World.setCell w4 _ _=wC;have bC:ah wC gb [.slice a6 (LL.length+32) c6] ST:=by rw[<-hwC];exact HB4.set 0 (.slice a6 (LL.length+32) c6)
    have uC:aU w4 gb wC:=by rw[<-hwC];exact aU.setCell _
    have htc:dO (gi+1) gb wX wC:=E4.trans (dO.upd uC);have ownC:=O4.turn (w':=wC) fun i hi _=>uC.block i J;refine hQ _ _ trivial ?_;refine aH ?_;refine jR ?_;rw[show LL++b.commit=fG (aa.take k) b.p++jo 4 b.p from by rw[a1.out];exact congrArg _ (rfl)]at ownC;have R:=a2.out _ _ (ag.next (i:=4) a3 a4 ai aE htc bC ownC (by show b.commit.length<=_;rw[b6.out];decide));have ad:=O R;clear hwC bC uC htc ownC R kb fb;go_wp2_with fail
    go_roundg ao
    case measure=>omega
    case rel=>exact ad
   ·rw[show(jZ 5).toNat=101 from F]at ar;obtain⟨C,iB,aJ,bP⟩:=kZ (I:=fun w'=>ah w' gb [.slice av LL.length cv] ST/\ah w' w.heap.size b.v 101) (fun _ _ h1 h2=>⟨h1.1.ext h2,h1.2.ext h2⟩) (w:=wX) (⟨VAR,af⟩);clear a7;go_upto_region 26 with(fail);refine jQ (W:=[5]) fun Z=> ?_;refine eY 0 (fun w1 h=>((iB w1).1 h).1.cell' (i:=0) (v:= .slice av LL.length cv) F) ?_;refine bK 1 ?_;refine eY 2 (fun w1 h=>((iB w1).1 h).2.cell' (ay.mD ab)) ?_;obtain⟨an,bv⟩:∃an:Nat,b.epoch=(an:Int):=⟨b.epoch.toNat,by have:=az.e;omega⟩;have eV:an<=4294967295:=by have:=az.e;omega
    have cI:=O bv;rw[bv];clear bv;refine fC 3 ?_;intro Q' hQ;go_wp2_with fail;refine(O9 an wX.drew J).mono ?_;rintro e be ⟨rfl,cd,a_⟩;have ax:X wX be:=(X.refl wX).drew.ext a_;have ce:dP be ⟨wX.heap.size,4,none⟩ ((gq (UInt32.ofNat an)).map Y):=dP.of cd;have b5:=O ce;have al:=aJ _ _ bP ax;obtain⟨cL,b8⟩:=aB ax (OWN.ext ax);have cg:=Nat.le_trans hle ax.size;obtain⟨eL,ex⟩:=aB (VAR.ext ax) (af.ext ax);obtain⟨ys,bk⟩:=aC (gq (UInt32.ofNat an));have GA:ys.length=4:=by rw[<-bk];rfl
    rw[bk]at b5;obtain⟨cN,cM⟩:=aB bk GA;clear cd ce a_ bk GA ax;go_wp2_with fail;refine hQ _ _ al ?_;clear hQ Q' Z;have Z:=al;clear al;refine aH ?_;refine fC 4 ?_;intro Q' hQ;go_wp2_with (at_builtin;refine uj F _ _ F (gi+1) (ys:=ys) F F b8 cM b5 J cg ?_);intro v4 w4 own4 g4;have BE3:Below (gi+1) be w4:=(Below.refl (gi+1) be).grown g4 cg b8.pK;have BEL:Below (gi+1) wX w4:=Below.trans (cL.mono hle) BE3;have al:C w4:=(iB _).2 ⟨Below.lF BEL hbB VAR,Below.lF BEL ai af⟩;obtain⟨E4,O4⟩:=aB (show dO (gi+1) gb wX w4 from(dO.below BEL)) own4;have hb4:ah w4 gb [.slice av LL.length cv] ST:=Below.lF (BEL) hbB VAR;have kb:=hb4.cell' (i:=0) (v:= .slice av LL.length cv) F;have fb:=hb4.frozen 0;obtain⟨a6,c6,rfl, -, -, -, -⟩:=O4.slice;have HB4:=O hb4;clear hb4 own4 g4;go_wp2_with fail;refine hQ _ _ al ?_;clear hQ Q' Z;refine aH ?_;refine iU 5 ?_;intro Q' hQ;go_wp2_with fail;generalize hwC:World.setCell w4 _ _=wC;have bC:ah wC gb [.slice a6 (LL.length+4) c6] ST:=by rw[<-hwC];exact HB4.set 0 (.slice a6 (LL.length+4) c6)
    have uC:aU w4 gb wC:=by rw[<-hwC];exact aU.setCell _
    have htc:dO (gi+1) gb wX wC:=E4.trans (dO.upd uC);have ownC:=O4.turn (w':=wC) fun i hi _=>uC.block i J;refine hQ _ _ trivial ?_;refine aH ?_;refine jR ?_;rw[show LL++ys=fG (aa.take k) b.p++jo 5 b.p from by rw[a1.out];exact congrArg _ (by rw[<-cN.out];show gq (UInt32.ofNat an)=gq (UInt32.ofNat b.epoch.toNat);rw[cI.out];rfl)]at ownC;have R:=a2.out _ _ (ag.next (i:=5) a3 a4 ai aE htc bC ownC (by show(gq _).length<=_;simp[gq]));have ad:=O R;clear hwC bC uC htc ownC R kb fb;go_wp2_with fail
    go_roundg ao
    case measure=>omega
    case rel=>exact ad
   ·rw[show(jZ 6).toNat=112 from F]at ar;have ap:0<=b.purpose/\b.purpose<=255:=by
     have aw:=a9.range;have a5:dK (K:Int) 6=true:=IY a9.uZ (by rw[b2.out];exact a8);unfold pJ dR at aw;simp only[Bool.or_eq_false_iff,Bool.and_eq_false_imp,decide_eq_false_iff_not]at aw;obtain⟨⟨⟨⟨⟨bx,r2⟩,di⟩,bz⟩,dj⟩,dk⟩:=aw;first|(have:=bx a5;omega)|(have:=bz a5;omega)|omega
    have br:=HZ.a (b1.1 a8);have ac:dP wX ⟨w.heap.size,52,none⟩ [.int .i64 b.purpose,.int .i64 b.reason,.int .i64 b.need,.int .i64 b.version]:=by
     intro j u ae;have cf:j<4:=(List.getElem?_eq_some_iff.1 ae).1;rw[dn];refine af.cell' ?_;rcases(by omega:j=0∨j=1∨j=2∨j=3)with rfl|rfl|rfl|rfl
     ·rw[ay.nV ab.out];exact ae
     ·rw[ay.oQ ab.out];exact ae
     ·rw[ay.xw ab.out];exact ae
     ·rw[ay.GQ ab.out];exact ae
    rw[br]at ac;obtain⟨Xi1,aq⟩:=aC b.purpose;rw[aq]at ac ap;generalize b.need=er at ac;generalize b.version=et at ac;clear br;obtain⟨bu,HXB,HCB⟩:=aW aq ap ac;clear aq ac ap a7;refine aeF ?_;intro oc HOC a6 c6 wC bC htc ownC;rw[show LL++[oc]=fG (aa.take k) b.p++jo 6 b.p from by rw[a1.out];exact congrArg _ (by rw[<-HOC.out,<-bu.out];rfl)]at ownC;have R:=a2.out _ _ (ag.next (i:=6) a3 a4 ai aE htc bC ownC (Nat.le_of_ble_eq_true F));have ad:=O R;clear bC htc ownC R;go_wp2_with fail
    go_roundg ao
    case measure=>omega
    case rel=>exact ad
   ·rw[show(jZ 7).toNat=97 from F]at ar;have ap:0<=b.reason/\b.reason<=255:=by
     have aw:=a9.range;have a5:dK (K:Int) 7=true:=IY a9.uZ (by rw[b2.out];exact a8);unfold pJ dR at aw;simp only[Bool.or_eq_false_iff,Bool.and_eq_false_imp,decide_eq_false_iff_not]at aw;obtain⟨⟨⟨⟨⟨bx,r2⟩,di⟩,bz⟩,dj⟩,dk⟩:=aw;first|(have:=bx a5;omega)|(have:=bz a5;omega)|omega
    have bp:=HZ.p (b1.2.1 a8);have ac:dP wX ⟨w.heap.size,52,none⟩ [.int .i64 b.purpose,.int .i64 b.reason,.int .i64 b.need,.int .i64 b.version]:=by
     intro j u ae;have cf:j<4:=(List.getElem?_eq_some_iff.1 ae).1;rw[dn];refine af.cell' ?_;rcases(by omega:j=0∨j=1∨j=2∨j=3)with rfl|rfl|rfl|rfl
     ·rw[ay.nV ab.out];exact ae
     ·rw[ay.oQ ab.out];exact ae
     ·rw[ay.xw ab.out];exact ae
     ·rw[ay.GQ ab.out];exact ae
    rw[bp]at ac;obtain⟨Xi1,aq⟩:=aC b.reason;rw[aq]at ac ap;generalize b.need=er at ac;generalize b.version=et at ac;clear bp;obtain⟨bu,HXB,HCB⟩:=aW aq ap ac;clear aq ac ap a7;refine aeF ?_;intro oc HOC a6 c6 wC bC htc ownC;rw[show LL++[oc]=fG (aa.take k) b.p++jo 7 b.p from by rw[a1.out];exact congrArg _ (by rw[<-HOC.out,<-bu.out];rfl)]at ownC;have R:=a2.out _ _ (ag.next (i:=7) a3 a4 ai aE htc bC ownC (Nat.le_of_ble_eq_true F));have ad:=O R;clear bC htc ownC R;go_wp2_with fail
    go_roundg ao
    case measure=>omega
    case rel=>exact ad
   ·rw[show(jZ 8).toNat=110 from F]at ar;have ap:0<=b.need/\b.need<=255:=by
     have aw:=a9.range;have a5:dK (K:Int) 8=true:=IY a9.uZ (by rw[b2.out];exact a8);unfold pJ dR at aw;simp only[Bool.or_eq_false_iff,Bool.and_eq_false_imp,decide_eq_false_iff_not]at aw;obtain⟨⟨⟨⟨⟨bx,r2⟩,di⟩,bz⟩,dj⟩,dk⟩:=aw;first|(have:=bx a5;omega)|(have:=bz a5;omega)|omega
    have bp:=HZ.p (b1.2.2.1 a8).1;have br:=HZ.a (b1.2.2.1 a8).2;have ac:dP wX ⟨w.heap.size,52,none⟩ [.int .i64 b.purpose,.int .i64 b.reason,.int .i64 b.need,.int .i64 b.version]:=by
     intro j u ae;have cf:j<4:=(List.getElem?_eq_some_iff.1 ae).1;rw[dn];refine af.cell' ?_;rcases(by omega:j=0∨j=1∨j=2∨j=3)with rfl|rfl|rfl|rfl
     ·rw[ay.nV ab.out];exact ae
     ·rw[ay.oQ ab.out];exact ae
     ·rw[ay.xw ab.out];exact ae
     ·rw[ay.GQ ab.out];exact ae
    rw[bp,br]at ac;obtain⟨Xi1,aq⟩:=aC b.need;rw[aq]at ac ap;generalize b.version=et at ac;clear bp br;obtain⟨bu,HXB,HCB⟩:=aW aq ap ac;clear aq ac ap a7;refine aeF ?_;intro oc HOC a6 c6 wC bC htc ownC;rw[show LL++[oc]=fG (aa.take k) b.p++jo 8 b.p from by rw[a1.out];exact congrArg _ (by rw[<-HOC.out,<-bu.out];rfl)]at ownC;have R:=a2.out _ _ (ag.next (i:=8) a3 a4 ai aE htc bC ownC (Nat.le_of_ble_eq_true F));have ad:=O R;clear bC htc ownC R;go_wp2_with fail
    go_roundg ao
    case measure=>omega
    case rel=>exact ad
   ·rw[show(jZ 9).toNat=104 from F]at ar;have eN:=af.cell' (ay.xB bt);have e8:=az.hn;have ci:IntKind.u8.wrap (b.hn:Int)=((kL (b.hn:Int)).toNat:Int):=BA _;obtain⟨oc,hoc⟩:=aC (kL (b.hn:Int));rw[hoc]at ci;have HOC:=O hoc;have bh:=O ab.hl;clear hoc;go_upto_region 34 with(at_builtin;refine uj F _ _ F (gi+1) (ys:=[oc]) F F (OWN.ext ((X.refl _).alloc _)) F (tJ (ah.aI F F)) J (Nat.le_trans hle (by rw[uO];exact Nat.le_succ _)) ?_);intro v4 w4 own4 g4;have BEL:Below (gi+1) wX w4:=((Below.refl (gi+1) wX).alloc hle _).grown g4 (Nat.le_trans hle (by rw[uO];exact Nat.le_succ _)) OWN.pK;obtain⟨E4,O4⟩:=aB (show dO (gi+1) gb wX w4 from(dO.below BEL)) own4;have hb4:ah w4 gb [.slice av LL.length cv] ST:=Below.lF (BEL) hbB VAR;have kb:=hb4.cell' (i:=0) (v:= .slice av LL.length cv) F;have fb:=hb4.frozen 0;obtain⟨a6,c6,rfl, -, -, -, -⟩:=O4.slice;have HB4:=O hb4;clear hb4 own4 g4;clear a7 ci eN;go_upto_region 34 with(fail);generalize hwC:World.setCell w4 _ _=wC;have bC:ah wC gb [.slice a6 (LL.length+1) c6] ST:=by rw[<-hwC];exact HB4.set 0 (.slice a6 (LL.length+1) c6)
    have uC:aU w4 gb wC:=by rw[<-hwC];exact aU.setCell _
    have htc:dO (gi+1) gb wX wC:=E4.trans (dO.upd uC);have ownC:=O4.turn (w':=wC) fun i hi _=>uC.block i J;have cC:=O (htc.blk ai J af);have d5:=cC.cell' (ay.xB bt);obtain⟨cR,cP,cT⟩:=aW htc ownC bC;clear hwC bC uC htc ownC kb fb E4 O4 HB4;go_wp2_with fail;go_loopw [120] (fun i wr=>∃(k1:Nat) (v':Value),k1<=b.hn/\i= .int .i64 (k1:Int)/\h_ wr (gi+1) v' (LL.length+1+(b.mK.take k1).flatten.length) ((LL++[oc])++(b.mK.take k1).flatten)/\ah wr gb [v'] ST/\dO (gi+1) gb wX wr) (fun i _=>b.hn - (intOf i).toNat)
    case atStart=>exact⟨0,_,J,F,by simpa using cP.out,cT,cR⟩
    case round=>
     obtain⟨k1,v',Co,rfl,am,bd,a0⟩:=hrel;have cW:X w wr:=dO.UF ag.ext a0 J J;have c4:=XY ab.h16 k1 J;by_cases j3:k1<b.hn
     ·have co:decide ((k1:Int)<(b.hn:Int))=true:=aQ J;have cU:decide (k1<b.hn)=true:=aQ j3;have cJ:=bh.out;obtain⟨x,pQ⟩:∃x,b.mK[k1]? =some x:=⟨b.mK[k1]'J,List.getElem?_eq_getElem _⟩;obtain⟨A,ca,ei⟩:=Gm (ab.hcell.ext cW) ab.h16 pQ;obtain⟨cF,cE⟩:=aB (ei k1 x pQ) ca;have de:=ab.h16 x (mem_of_getElem? pQ);obtain⟨dv,dy,nA⟩:=aW de (show(x.map Y).length=16 by rw[length_map];exact de) (XZ pQ);obtain⟨P,cb⟩:=aC ((b.mK.take k1).flatten);rw[cb]at am c4 nA;obtain⟨cm,cn,rfl, -, -, -, -⟩:=am.slice;have Gr:∃bc,LL.length+1+P.length=bc:=⟨_,F⟩;obtain⟨bc,Gr⟩:=Gr;rw[Gr]at am bd;have ez:=O Gr;have fc:bc<=500000:=J;obtain⟨b7,b',b9⟩:=aW am bd a0;have ct:gi+1<=wr.heap.size:=Nat.le_trans hle a0.size;clear ei ca pQ cb am bd a0 cJ d5 de Gr;have el:((List.replicate 16 (0:UInt8)).map Y).length=16:=aF;have eE:=O el;clear el;go_wp2_with (first|(refine jU F (fP (p:=A) (i:=k1) F (by show Value.slice b.ha b.hn b.hc=_;rw[cE.out]) F underlying99 zO j3 _) ?_)|(refine bF F (bQ F F cF dh dy) ?_)|(refine bg F _ _ _ F F F (ah.aI (vs:=(List.replicate 16 (0:UInt8)).map Y) F F) dh eE (xs:=x.map Y) dy (b_ x) ?_));intro b4 d2 b0;have d7:Below (gi+1) wr b4:=((Below.refl (gi+1) wr).alloc ct _).trans ⟨b0.os,b0.tape,b0.output,by rw[b0.size];exact Nat.le_refl _,fun i hi=>b0.block i J⟩;have cx:X wr b4:=b0.ext ((X.refl wr).alloc _) l5;obtain⟨ck,cl,ev⟩:=aW (b7.ext cx) (b'.ext cx) d2;have ee:=Nat.le_trans ct cx.size;have cQ:=O (b9.trans (dO.below d7));clear d2 b0 d7 cx b7 b' b9;obtain⟨C,iB,aJ,bP⟩:=kZ (I:=fun w'=>ah w' gb [.slice cm bc cn] ST) (fun _ _ h1 h2=>(h1.ext h2)) (w:=b4) (cl)
      go_upto_region 37 with(fail);refine jQ (W:=[3]) fun Z=> ?_;refine eY 0 (fun w1 h=>((iB w1).1 h).cell' (i:=0) (v:= .slice cm bc cn) F) ?_;refine fC 1 ?_;intro Q' hQ;go_wp2_with fail;refine hQ _ _ Z ?_;clear hQ Q';refine aH ?_;refine fC 2 ?_;intro Q' hQ;go_wp2_with (at_builtin;refine uj F _ _ F (gi+1) (ys:=x) F F (ck.ext (X.refl b4).drew) dv (tJ ev.drew) J ee ?_);intro fj cj dg d';have cA:Below (gi+1) b4 cj:=((Below.refl (gi+1) b4).drew).grown d' ee ck.pK;have cc:ah cj gb [.slice cm bc cn] ST:=Below.lF cA hbB cl;have al:C cj:=(iB _).2 cc;have kb:=cc.cell' (i:=0) (v:= .slice cm bc cn) F;have fb:=cc.frozen 0;obtain⟨d1,d6,rfl, -, -, -, -⟩:=dg.slice;obtain⟨dE,ew,dT⟩:=aW dg cc (cQ.trans (dO.below cA));clear dg d' cA cc;go_wp2_with fail;refine hQ _ _ al ?_;clear hQ Q' Z;refine aH ?_;refine iU 3 ?_;intro Q' hQ;go_wp2_with fail;generalize hwC:World.setCell cj _ _=wC;have bC:ah wC gb [.slice d1 (bc+16) d6] ST:=by rw[<-hwC];exact ew.set 0 (.slice d1 (bc+16) d6)
      have uC:aU cj gb wC:=by rw[<-hwC];exact aU.setCell _
      obtain⟨eI,eJ,eK⟩:=aW (dE.turn (w':=wC) fun i hi _=>uC.block i J) (dT.trans (dO.upd uC)) bC;clear hwC kb fb bC uC dE dT;refine hQ _ _ trivial ?_;refine aH ?_;refine jR ?_;go_wp2_with fail;go_roundw
      case rel=>exact⟨k1+1,_,J,by go_num,by rw[nA.out,length_append,dv.out,<-append_assoc];have bi:=eI.out;rw[show LL.length+1+(P.length+16)=bc+16 by rw[<-ez.out];omega];simpa using bi,eK,eJ⟩
      case measure=>simp[intOf];omega
     ·have co:decide ((k1:Int)<(b.hn:Int))=false:=aP J;have cU:decide (k1<b.hn)=false:=aP j3;have bo:b.mK.take k1=b.mK:=take_of_length_le (by rw[bh.out];omega);rw[bo]at am;rw[show(LL++[oc])++b.mK.flatten=fG (aa.take k) b.p++jo 9 b.p from by
       rw[a1.out,<-HOC.out,P_,<-bh.out];show _=LL++Bl b.mK;unfold Bl;simp]at am
      have R:=a2.out _ _ (ag.next (i:=9) a3 a4 ai aE a0 bd am (Nat.le_trans (Qg az bh ab.h16) aX));have ad:=O R;clear am bd a0 bo R d5;go_wp2_with fail
      go_roundg ao
      case measure=>omega
      case rel=>exact ad
   ·rw[show(jZ 10).toNat=118 from F]at ar;have ap:0<=b.version/\b.version<=255:=by
     have aw:=a9.range;have a5:dK (K:Int) 10=true:=IY a9.uZ (by rw[b2.out];exact a8);unfold pJ dR at aw;simp only[Bool.or_eq_false_iff,Bool.and_eq_false_imp,decide_eq_false_iff_not]at aw;obtain⟨⟨⟨⟨⟨bx,r2⟩,di⟩,bz⟩,dj⟩,dk⟩:=aw;first|(have:=bx a5;omega)|(have:=bz a5;omega)|omega
    have bp:=HZ.p (b1.2.2.2 a8).1;have br:=HZ.a (b1.2.2.2 a8).2;have ac:dP wX ⟨w.heap.size,52,none⟩ [.int .i64 b.purpose,.int .i64 b.reason,.int .i64 b.need,.int .i64 b.version]:=by
     intro j u ae;have cf:j<4:=(List.getElem?_eq_some_iff.1 ae).1;rw[dn];refine af.cell' ?_;rcases(by omega:j=0∨j=1∨j=2∨j=3)with rfl|rfl|rfl|rfl
     ·rw[ay.nV ab.out];exact ae
     ·rw[ay.oQ ab.out];exact ae
     ·rw[ay.xw ab.out];exact ae
     ·rw[ay.GQ ab.out];exact ae
    rw[bp,br]at ac;obtain⟨Xi1,aq⟩:=aC b.version;rw[aq]at ac ap;generalize b.need=er at ac;clear bp br;obtain⟨bu,HXB,HCB⟩:=aW aq ap ac;clear aq ac ap a7;refine aeF ?_;intro oc HOC a6 c6 wC bC htc ownC;rw[show LL++[oc]=fG (aa.take k) b.p++jo 10 b.p from by rw[a1.out];exact congrArg _ (by rw[<-HOC.out,<-bu.out];rfl)]at ownC;have R:=a2.out _ _ (ag.next (i:=10) a3 a4 ai aE htc bC ownC (Nat.le_of_ble_eq_true F));have ad:=O R;clear bC htc ownC R;go_wp2_with fail
    go_roundg ao
    case measure=>omega
    case rel=>exact ad
   ·rw[show(jZ 11).toNat=107 from F]at ar;obtain⟨C,iB,aJ,bP⟩:=kZ (I:=fun w'=>ah w' gb [.slice av LL.length cv] ST/\ah w' w.heap.size b.v 101) (fun _ _ h1 h2=>⟨h1.1.ext h2,h1.2.ext h2⟩) (w:=wX) (⟨VAR,af⟩);clear a7;go_upto_region 40 with(fail);refine jQ (W:=[5]) fun Z=> ?_;refine eY 0 (fun w1 h=>((iB w1).1 h).1.cell' (i:=0) (v:= .slice av LL.length cv) F) ?_;refine bK 1 ?_;refine eY 2 (fun w1 h=>((iB w1).1 h).2.cell' (ay.Bh ab)) ?_;obtain⟨an,bv⟩:∃an:Nat,b.count=(an:Int):=⟨b.count.toNat,by have:=az.c;omega⟩;have eV:an<=4294967295:=by have:=az.c;omega
    have cI:=O bv;rw[bv];clear bv;refine fC 3 ?_;intro Q' hQ;go_wp2_with fail;refine(DN an wX.drew J).mono ?_;rintro e be ⟨rfl,ec,a_⟩;have cd:aK be (some ⟨wX.heap.size,0,none⟩) ((dG (UInt64.ofNat an)).map Y):=aK.tO ec;have ax:X wX be:=(X.refl wX).drew.ext a_;have ce:dP be ⟨wX.heap.size,0,none⟩ ((dG (UInt64.ofNat an)).map Y):=dP.of cd;have b5:=O ce;have al:=aJ _ _ bP ax;obtain⟨cL,b8⟩:=aB ax (OWN.ext ax);have cg:=Nat.le_trans hle ax.size;obtain⟨eL,ex⟩:=aB (VAR.ext ax) (af.ext ax);obtain⟨ys,bk⟩:=aC (dG (UInt64.ofNat an));have GA:ys.length=8:=by rw[<-bk];rfl
    rw[bk]at b5;obtain⟨cN,cM⟩:=aB bk GA;clear ec cd ce a_ bk GA ax;go_wp2_with fail;refine hQ _ _ al ?_;clear hQ Q' Z;have Z:=al;clear al;refine aH ?_;refine fC 4 ?_;intro Q' hQ;go_wp2_with (at_builtin;refine uj F _ _ F (gi+1) (ys:=ys) F F b8 cM b5 J cg ?_);intro v4 w4 own4 g4;have BE3:Below (gi+1) be w4:=(Below.refl (gi+1) be).grown g4 cg b8.pK;have BEL:Below (gi+1) wX w4:=Below.trans (cL.mono hle) BE3;have al:C w4:=(iB _).2 ⟨Below.lF BEL hbB VAR,Below.lF BEL ai af⟩;obtain⟨E4,O4⟩:=aB (show dO (gi+1) gb wX w4 from(dO.below BEL)) own4;have hb4:ah w4 gb [.slice av LL.length cv] ST:=Below.lF (BEL) hbB VAR;have kb:=hb4.cell' (i:=0) (v:= .slice av LL.length cv) F;have fb:=hb4.frozen 0;obtain⟨a6,c6,rfl, -, -, -, -⟩:=O4.slice;have HB4:=O hb4;clear hb4 own4 g4;go_wp2_with fail;refine hQ _ _ al ?_;clear hQ Q' Z;refine aH ?_;refine iU 5 ?_;intro Q' hQ;go_wp2_with fail;generalize hwC:World.setCell w4 _ _=wC;have bC:ah wC gb [.slice a6 (LL.length+8) c6] ST:=by rw[<-hwC];exact HB4.set 0 (.slice a6 (LL.length+8) c6)
    have uC:aU w4 gb wC:=by rw[<-hwC];exact aU.setCell _
    have htc:dO (gi+1) gb wX wC:=E4.trans (dO.upd uC);have ownC:=O4.turn (w':=wC) fun i hi _=>uC.block i J;refine hQ _ _ trivial ?_;refine aH ?_;refine jR ?_;rw[show LL++ys=fG (aa.take k) b.p++jo 11 b.p from by rw[a1.out];exact congrArg _ (by rw[<-cN.out];show dG (UInt64.ofNat an)=dG (UInt64.ofNat b.count.toNat);rw[cI.out];rfl)]at ownC;have R:=a2.out _ _ (ag.next (i:=11) a3 a4 ai aE htc bC ownC (by show(dG _).length<=_;rw[Bc];decide));have ad:=O R;clear hwC bC uC htc ownC R kb fb;go_wp2_with fail
    go_roundg ao
    case measure=>omega
    case rel=>exact ad
  ·have b3:¬k<us.size:=by rw[du.out];exact c8
   have bm:=ba.it;rw[ch]at bm;have ar:∀ty,(Instr.next (.pointer (some ⟨gi,0,none⟩)) true ty).run prog wr=_:=fun ty=>Lib.run_next_end_at wr gi us k ty bm b3;have ed:aa.take k=aa:=take_of_length_le J;rw[ed]at ba;obtain⟨av,cv,dc, -, -, -, -⟩:=ba.own.slice;subst dc;have c7:=ba.own;rw[<-b2.out]at c7;have cH:=O (show X w wr/\h_ wr w.heap.size _ (fG (gy (K:Int)) b.p).length (fG (gy (K:Int)) b.p)from⟨ba.ext,c7.lower J⟩);have kv:=ba.var.cell' (i:=0) F;rw[<-b2.out]at kv;obtain⟨e_,cY⟩:=aC (fG (gy (K:Int)) b.p);have eA:=O cY;rw[cY]at kv cH;clear bm ed ba ch c7 cY;go_wp2_with fail
   go_ret2
   exact⟨cH.1,.inl ⟨cG,_,F,by rw[eA.out];exact cH.2⟩⟩
end
end Go.Proofs.YtjlhhnkhcbpnjaaGreatDoor
