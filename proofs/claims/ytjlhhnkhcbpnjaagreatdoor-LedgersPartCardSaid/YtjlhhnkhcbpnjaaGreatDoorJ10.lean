/- Laws that the row leans on; no condition. -/
import Derived.Test.YtjlhhnkhcbpnjaaGreatDoorJ9
namespace Go.Proofs.YtjlhhnkhcbpnjaaGreatDoor
open Go Go.RowKit List Tryz
set_option linter.unusedVariables false
set_option linter.unusedSectionVars false
set_option linter.unusedSimpArgs false
set_option maxHeartbeats 40000000
set_option maxRecDepth 100000
section
open Go Go.RowKit
section
variable {w0:World} {g gi B:Nat} {us:ByteArray} {l0:aj} {sq:List Nat} {w:World} {r:ay} {l:aj} {s:Bool}
structure Ku(w0:World)(g gi B n1:Nat)(us:ByteArray)(r:ay)(l1:aj)(s1:Bool)(k:Nat)(w:World)(a:aN)(c:Nat)(ls:aT)(lk:aj)(sk:Bool):Prop where
 body:ah w (w0.heap.size+1) {r with ra:=a,rn:=k,rc:=c,roles:=ls}.v 101
 res:ah w w0.heap.size dI.v 101
 rd:gI OT w0.heap.size w g lk sk
 took:fA (kW rD k []) l1 s1 ls lk sk
 ext:X w0 w
 len:ls.length=k
 D_:∀s∈ls,s.size<=140737488355328
 own:w.ownsRow B 9 1 (.slice a k c) k (ls.map bM)
 it:w.heap[gi]? =some (.stringIter us n1)
structure Kv(w0:World)(g gi B n1:Nat)(us:ByteArray)(r:ay)(l1:aj)(s1:Bool)(k:Nat)(w:World)(a:aN)(c:Nat)(ls:List (aj))(lk:aj)(sk:Bool):Prop where
 body:ah w (w0.heap.size+1) {r with ha:=a,hn:=k,hc:=c,bH:=ls}.v 101
 res:ah w w0.heap.size dI.v 101
 rd:gI OT w0.heap.size w g lk sk
 took:fA (kW (fK 16) k []) l1 s1 ls lk sk
 ext:X w0 w
 len:ls.length=k
 h16:oP ls
 own:w.ownsRow B 29 16 (.slice a k c) k (dB ls)
 it:w.heap[gi]? =some (.stringIter us n1)
end
theorem X_{act:Int}(h:iI act=true):¬(2∈gy act/\9∈gy act):=by
 rcases wo h with rfl|rfl|rfl|rfl|rfl|rfl|rfl|rfl|rfl|rfl|rfl|rfl<;>decide
theorem Ya{j:bZ}{l u x:aj}{s E:Bool}(h:fA (fK 8) l s x u E):fA (iP kF 11 j) l s {j with count:=kK (jM x)} u E:=(h.map fun x=>({j with count:=kK (jM x)}:bZ)).congr (by show _=((fK 8 l).map fun p=>(kF p.1,p.2)).map _;cases fK 8 l<;>rfl)
theorem Yb{j:bZ}{l u x:aj}{s E:Bool}(h:fA (fK 4) l s x u E):fA (iP kF 5 j) l s {j with epoch:=(jM x:Int)} u E:=(h.map fun x=>({j with epoch:=(jM x:Int)}:bZ)).congr F
theorem Yc{j:bZ}{n:Nat}{l u x:aj}{s E:Bool}(hn:l.length=n)(h:fA (fK n) l s x u E):fA (iP kF 0 j) l s {j with text:=aY x} u E:=(PE hn h).congr (by unfold iP;rw[if_pos F,if_pos F])
theorem Qo{l m j x:aj}{n:Nat}{s t u:Bool}(h:fA kV l s n m t)(k:fA (fK n) m t x j u):fA rD l s (aY x) j u:=
 (h.bind (q:=fun n l=>(fK n l).map fun q=>(aY q.1,q.2)) (k.map aY)).congr (by unfold rD aY;rfl)
theorem GH(act:Int)(l:aj)(a:aN)(n c:Nat)(w:World)(hl:l.length=n)(hnc:n<=c)(hn:n<=140737488355328)(fg:aK w a (l.map Y)):
 Calls prog 84 #[.int .i64 act,.slice a n c] w fun e w'=>∃r:ay,e= .returned (.tuple #[.agg r.v.toArray,.int .i64 (kE kF act l).2])/\r.Fit/\bJ w' w.heap.size r.ra (r.roles.map bM)/\bJ w' w.heap.size r.ha (dB r.bH)/\r.p=(kE kF act l).1/\X w w':=by
 obtain⟨eM,eL⟩:=aB hl fg;obtain⟨gC,bw⟩:=aC (kE kF act l);rw[bw];unfold kE at bw;clear fg;by_cases b9:act<1∨12<act
 ·have fm:iI act=false:=by
   unfold iI;rcases b9 with h|h
   ·rw[aP J];rfl
   ·rw[aP (show¬act<=12 by omega),Bool.and_false]
  rw[fm,if_pos F]at bw;subst bw;clear hl fm;go_enter func84,ntmps84;go_upto_region 2 with(fail);generalize cb:World.alloc (World.alloc w _) _=b0;have dd:ah b0 w.heap.size dI.v 101:=by rw[<-cb];exact(ah.aI F F).alloc _
  have dc:ah b0 (w.heap.size+1) dI.v 101:=by rw[<-cb];exact ah.aI (uO _ _).symm rfl
  have cY:X w b0:=by rw[<-cb];exact((X.refl w).alloc _).alloc _
  obtain⟨cw,ck,cd⟩:=aW dd dc cY;clear cb dd dc cY;by_cases bk:act<1
  ·have e_:decide (act<1)=true:=aQ bk;clear b9 bk;go_wp2_with (first|(refine bV F 101 (.tmp 6) F F ck eP fM ?_)|(refine bg F _ _ _ F F F cw eP fM (xs:=dI.v) fM (lD dI) ?_));intro ad al an;go_wp2_with fail;exact iy F F al eP fM F ⟨dI,F,rE,.inl F,.inl F,F,an.ext cd bG⟩
  ·have e_:decide (act<1)=false:=aP bk;have f5:decide (12<act)=true:=aQ (b9.resolve_left bk);clear b9 bk;go_wp2_with (first|(refine bV F 101 (.tmp 6) F F ck eP fM ?_)|(refine bg F _ _ _ F F F cw eP fM (xs:=dI.v) fM (lD dI) ?_));intro ad al an;go_wp2_with fail;exact iy F F al eP fM F ⟨dI,F,rE,.inl F,.inl F,F,an.ext cd bG⟩
 have c5:iI act=true:=by unfold iI;rw[aQ (show 1<=act by omega),aQ (show act<=12 by omega)];rfl
 rw[c5,if_neg aF]at bw;have e_:decide (act<1)=false:=aP J;have f5:decide (12<act)=false:=aP J;have fc:=O (fun r w' h=>Qn act r w' h);obtain⟨K,rfl⟩:∃K:Nat,act=(K:Int):=⟨act.toNat,J⟩;have ej:=O (fun w=>Gy K w J);have dm:=Qi c5;rw[show(K:Int).toNat=K from F]at dm;have ef:=Qh c5;have en:=X_ c5;obtain⟨ae,fa⟩:=aC (gy (K:Int));rw[fa]at dm ef en bw;have eW:=O en;obtain⟨us,el⟩:=aC ((⟨(rF K).toArray⟩:ByteArray):ByteArray);rw[el]at ej;have ek:us.data.toList=ae.map jZ:=by rw[<-el,<-dm]
 have fx:us.size=ae.length:=by
  have ao:=congrArg List.length ek;rw[Array.length_toList,length_map]at ao;exact ao
 obtain⟨fX,eV,eQ⟩:=aW ek fx ef;clear dm el ek fx ef en fa b9 c5;go_enter func84,ntmps84;go_upto_region 2 with(fail);generalize cb:World.alloc (World.alloc w _) _=b0;have dd:ah b0 w.heap.size dI.v 101:=by rw[<-cb];exact(ah.aI F F).alloc _
 have dc:ah b0 (w.heap.size+1) dI.v 101:=by rw[<-cb];exact ah.aI (uO _ _).symm rfl
 have cY:X w b0:=by rw[<-cb];exact((X.refl w).alloc _).alloc _
 obtain⟨cw,ck,cd⟩:=aW dd dc cY;clear cb dd dc cY;by_cases cD:32768<n
 ·rw[hl,if_pos cD]at bw;subst bw;have f6:decide (32768<n)=true:=aQ cD;have gR:decide ((32768:Int)<(n:Int))=true:=aQ J;clear hl cD;go_wp2_with (first|(refine bV F 101 (.tmp 6) F F ck eP fM ?_)|(refine bg F _ _ _ F F F cw eP fM (xs:=dI.v) fM (lD dI) ?_));intro ad al an;go_wp2_with fail;exact iy F F al eP fM F ⟨dI,F,rE,.inl F,.inl F,F,an.ext cd bG⟩
 rw[hl,if_neg cD]at bw;have b7:=O bw;have f6:decide (32768<n)=false:=aP cD;have gO:decide ((32768:Int)<(n:Int))=false:=aP J;clear hl bw cD;go_upto_region 7 with(fail);generalize ab:World.alloc b0 _=bj;obtain⟨g,dk⟩:=aC b0.heap.size;have fL:ah bj g [.slice a n c,.bool false] OT:=by rw[<-ab,<-dk];exact ah.aI F F
 have am:X b0 bj:=by rw[<-ab];exact(X.refl b0).alloc _
 rw[dk];have aq:w.heap.size+1<g:=by rw[<-dk];exact ck.lt
 have fN:gI OT w.heap.size bj g l false:=by
  refine⟨a,n,c,fL,eM,hnc,hn,(cd.ext am).size,?_⟩;rcases eL.out with di|⟨b,off,ha,di⟩
  ·exact .inl di
  ·by_cases fh:l.map Y=[]
   ·exact .inl fh
   ·obtain⟨u,gn⟩:∃u,(l.map Y)[0]? =some u:=⟨_,List.getElem?_eq_getElem (length_pos_iff.2 fh)⟩;have hb:b<w.heap.size:=block_lt_of_cell (di 0 u gn);exact .inr ⟨b,off,ha,hb,J,fun j v gp=>wu (di j v gp) ((cd.ext am).block b hb)⟩
 obtain⟨e1,e5,e3,eI⟩:=bU fN (cw.ext am) (ck.ext am) (cd.ext am);clear ab fL fN am cw ck cd dk eM eL;go_wp2_with fail;refine(ej bj).mono ?_;rintro e ad ⟨rfl,cX⟩;obtain⟨e6,e4,eJ,dT⟩:=bU (e5.ext cX) (e3.ext cX) (eI.ext cX) (e1.ext cX);have ge:g<ad.heap.size:=dT.lt;clear cX e5 e3 eI e1 ej;go_wp2_with fail;obtain⟨gi,fk⟩:=aC ad.heap.size;have eb:=World.iter_heap ad us 0;have c0:X ad (ad.iter us 0):=(X.refl ad).alloc _;rw[fk]at eb ge⊢;have az:w.heap.size+1<gi:=J;have bc:gi≠g:=J;have b1:w.heap.size+1<gi+1:=J;have b2:g<gi+1:=J;have gd:gi<gi+1:=J;have e0:AQ w g gi (gi+1) us l [] (ad.iter us 0) dI l false:=
  ⟨e4.ext c0,e6.ext c0,dT.ext c0,⟨fun h=>⟨h,F⟩,fun h=> .inl h⟩,eJ.ext c0,rE,.inl F,.inl F,fun _=>⟨F,F,F,F⟩,fun _=>⟨F,F,F,F⟩,eb⟩
 clear eb c0 e6 e4 eJ dT fk
 go_loopg [] ae.length (fun f9 wx=>∃(k:Nat) (r:ay) (aE:aj) (ar:Bool),k<=ae.length/\AQ w g gi (gi+1) us l (ae.take k) wx r aE ar/\ae.length<=k+f9)
 case atStart=>exact⟨0,dI,l,false,J,by simpa using e0,J⟩
 case round=>
  obtain⟨k,r,aE,ar,hk,bl,g7⟩:=hrel;clear e0;have dl:(ae.take k).length=k:=by rw[length_take];omega
  by_cases eh:k<ae.length
  ·obtain⟨ba,rfl⟩:∃ba,gk=ba+1:=⟨gk - 1,J⟩;obtain⟨i,b3⟩:∃i,ae[k]? =some i:=⟨_,List.getElem?_eq_getElem eh⟩;have fw:ae.take (k+1)=ae.take k++[i]:=by rw[take_add_one,b3];rfl
   have g8:i<12:=eQ.2 i (mem_of_getElem? b3);have fn:i∉ae.take k:=by
    intro hm;have ao:=eQ.1;have ga:ae=ae.take k++ae.drop k:=(take_append_drop k ae).symm;rw[ga]at ao;refine(nodup_append.1 ao).2.2 i hm i ?_ F;exact mem_of_getElem? (i:=0) (by rw[List.getElem?_drop];exact b3)
   have eN:=O (mem_of_getElem? b3);have cA:k<us.size:=by rw[eV.out];exact eh
   have ch:=bl.it;rw[dl]at ch;have eg:∀ty,(Instr.next (.pointer (some ⟨gi,0,none⟩)) true ty).run prog wr=_:=fun ty=>Lib.run_next_any_at wr gi us k ty ch cA;have ei:us[k]'cA=jZ i:=by
    have ao:us.data.toList[k]? =some (jZ i):=by rw[fX.out,List.getElem?_map,b3];rfl
    rw[Array.getElem?_toList]at ao;exact(Array.getElem?_eq_some_iff.1 ao).2
   have fb:(us[k]'cA).toNat<128:=by
    rw[ei];rcases(by omega:i=0∨i=1∨i=2∨i=3∨i=4∨i=5∨i=6∨i=7∨i=8∨i=9∨i=10∨i=11)with rfl|rfl|rfl|rfl|rfl|rfl|rfl|rfl|rfl|rfl|rfl|rfl<;>decide
   have d':=decode_ascii us k cA fb;rw[ei]at d';rw[d']at eg;have R:BF w g gi (gi+1) us l (ae.take k) (wr.iterAt gi us (k+1)) r aE ar:=
    bl.next aq az bc gd (fun j gf=>Lib.iterAt_other wr gi j us (k+1) gf) (Lib.iterAt_size ..) ⟨F,F,F⟩ (by rw[dl];exact Lib.iterAt_heap wr gi us k (k+1) ch)
   obtain⟨eS,eR⟩:=aB fw fn;clear bl ch d' ei fb fw fn b3;simp only at eg;generalize wr.iterAt gi us (k+1)=bp at*;obtain⟨hg,gr⟩:=aC bp;have fs:∀wz ev be bh,AQ w g gi (gi+1) us l (ae.take k++[i]) wz ev be bh->∃(k:Nat) (r:ay) (aE:aj) (ar:Bool),k<=ae.length/\AQ w g gi (gi+1) us l (ae.take k) wz r aE ar/\ae.length<=k+ba:=
    fun wz ev be bh h=>⟨k+1,ev,be,bh,J,by rw[eS.out];exact h,J⟩
   have br:=O fs;clear fs gr eS;rcases(by omega:i=0∨i=1∨i=2∨i=3∨i=4∨i=5∨i=6∨i=7∨i=8∨i=9∨i=10∨i=11)with rfl|rfl|rfl|rfl|rfl|rfl|rfl|rfl|rfl|rfl|rfl|rfl
   ·skip
    obtain⟨d1,cc,d4,hb,fp,hd,g2,g1,gc⟩:=R.rd;have er:=hb.cell' (i:=0) (v:= .slice d1 cc d4) F;have cP:=O fp;clear hb fp gc;go_wp2_with fail;refine(xG aE ar w.heap.size g cc bp J R.rd).mono ?_;rintro e w2 ⟨cx,cy,x,be,bh,rfl,dj,hx,bd,a0,ai,ca,ag⟩;obtain⟨aw,bt,a1⟩:=aW hx bd ai;have fy:x.length<=140737488355328:=by rw[hx];omega
    have fY:=O fy;clear hx bd ai fy er;have ac:=O (R.aM aq ag);have a7:=ac.cell' (ay.aL r);have a4:=ac.frozen 0;go_wp2_with (refine bF F (DY F F aw bt.cells) ?_);generalize ab:World.setCell w2 _ _=ad;have al:ah ad (w.heap.size+1) {r with text:=aY x}.v 101:=by rw[<-ab];exact ac.set 0 (.string (aY x))
    have an:aU w2 (w.heap.size+1) ad:=by rw[<-ab];exact aU.setCell _
    clear ab a7 a4;have a5:ay.Fit {r with text:=aY x}:={R.fit with ts:=by show x.toArray.size<=_;rw[size_toArray];exact fY};have ap:=br.out _ _ _ _ (R.store (i:=0) aq az bc b1 b2 ag a0 an al (oW (i:=0) R.took (Yc cP a1)) a5 F F F F F F F F)
    go_roundg ba
    case measure=>omega
    case rel=>exact ap
   ·skip
    go_wp2_with fail;refine(xG aE ar w.heap.size g 16 bp J R.rd).mono ?_;rintro e w2 ⟨cx,cy,x,be,bh,rfl,dj,hx,bd,a0,ai,ca,ag⟩;obtain⟨aw,bt,a1⟩:=aW hx bd ai;clear hx bd ai;obtain⟨b,off,rfl,bk⟩:=bt.cells.gQ (by rw[length_map,aw.out];omega);obtain⟨cJ,b8,ac,cf⟩:=bU (dP.of bt.cells) (show(x.map Y).length=16 by rw[length_map];exact aw) (R.aM aq ag) (show r.v.length=58 by unfold ay.v ay.t;simp[R.fit.hm,R.fit.hcm]);clear bk;go_wp2_with (first|(refine bF F (rC F F underlying29 bG _) ?_)|(refine bF F (bQ F F cJ dh b8) ?_)|(refine kR F _ _ _ F F F ac (by rw[b8.out];exact dh) (by rw[b8.out,cf.out];decide) (b_ x) ?_));intro ad al an;rw[ay.JX _ _ R.fit.hm aw.out]at al;have a5:ay.Fit {r with member:=x}:={R.fit with hm:=aw.out};have ap:=br.out _ _ _ _ (R.store (i:=1) aq az bc b1 b2 ag a0 an al (oW (i:=1) R.took ((a1.map fun x=>({r.p with member:=x}:bZ)).congr F)) a5 F F F F F F F F);go_wp2_with fail
    go_roundg ba
    case measure=>omega
    case rel=>exact ap
   ·skip
    have c1:=R.nr eR;have d6:=R.nh (fun h=>eW ⟨eN,mem_of_mem_take h⟩);go_wp2_with fail;refine(yH aE ar w.heap.size g bp R.rd).mono ?_;rintro e eA ⟨a9,rfl,ee,bx,bz,c6,c8,gg,az⟩;have dE:=O c8;have b5:=O R.fit;have c3:=R.aM aq az;have cT:Ku w g gi (gi+1) ((ae.take k).length+1) us r bx bz 0 eA none 0 [] bx bz:=⟨by rw[c1.eq];exact c3,R.res.grown az (by simp;omega),c6,⟨fun h=>⟨h,F⟩,fun h=> .inl h⟩,R.ext.Ef az J,F,(fun _ h=>by cases h),⟨F,.inl ⟨F,F⟩⟩,by rw[az.block gi (Array.getElem?_eq_some_iff.1 R.it).1 (by simpa using bc)];exact R.it⟩;clear c6 c8 c3;go_wp2_with fail;go_loopw [54] (fun i wr=>∃(k1:Nat) (a:aN) (c:Nat) (ls:aT) (aE:aj) (ar:Bool),k1<=a9/\i= .int .i64 (k1:Int)/\Ku w g gi (gi+1) ((ae.take k).length+1) us r bx bz k1 wr a c ls aE ar) (fun i _=>a9 - (intOf i).toNat)
    case atStart=>exact⟨0,none,0,[],bx,bz,J,F,cT⟩
    case round=>
     obtain⟨k1,a2,a3,ls,c9,da,ec,rfl,aa⟩:=hrel;clear cT;by_cases co:k1<a9
     ·have ew:decide ((k1:Int)<(a9:Int))=true:=aQ J;have ex:decide (k1<a9)=true:=aQ co;obtain⟨C,ce,aJ,bP⟩:=kZ (I:=fun w'=>ah w' (w.heap.size+1) ({r with ra:=a2,rn:=k1,rc:=a3,roles:=ls}:ay).v 101) (fun _ _ b9 bk=>(b9.ext bk)) (w:=wr) (aa.body);have fd:({r with ra:=a2,rn:=k1,rc:=a3,roles:=ls}:ay).v[17]? =some (.slice a2 k1 a3):=by
       unfold ay.v;exact lC (n:=16) (i:=0) (by rw[length_map];exact b5.hm)
      have eC:=O fd;clear fd;go_upto_region 18 with(fail);refine jQ (W:=[10]) fun Z=> ?_;refine bK 0 ?_;refine eY 1 (fun ez h=>((ce ez).1 h).cell' eC) ?_;refine bK 2 ?_;refine bK 3 ?_;refine fC 4 ?_;intro ax af;go_wp2_with fail;refine(yH c9 da w.heap.size g wr.drew (aa.rd.ext (X.refl wr).drew)).mono ?_;rintro e dp ⟨gw,rfl,gh,gv,gx,fr,fv,g9,fj⟩;have ea:wr.grownBy dp (some g):=l9 (yC (sG wr _) (X.refl wr).drew) fj;have e':ah dp (w.heap.size+1) ({r with ra:=a2,rn:=k1,rc:=a3,roles:=ls}:ay).v 101:=aa.body.grown ea (by simp;omega);replace Z:=(ce dp).2 e';have fW:=O fv;go_wp2_with fail;refine af _ _ Z ?_;clear af ax e' fj fv;refine aH ?_;refine fC 5 ?_;intro ax af;go_wp2_with fail;refine(xG gv gx w.heap.size g gw dp J fr).mono ?_;rintro e a_ ⟨e8,e9,x,cC,cF,rfl,fe,hx,b',cr,ci,fl,cg⟩;have a8:wr.grownBy a_ (some g):=l9 ea cg;have cm:ah a_ (w.heap.size+1) ({r with ra:=a2,rn:=k1,rc:=a3,roles:=ls}:ay).v 101:=aa.body.grown a8 (by simp;omega);replace Z:=(ce a_).2 cm;obtain⟨aw,ds,cS⟩:=aW hx b' ci;have gt:(aY x).size<256:=by show x.toArray.size<256;rw[size_toArray,hx];exact gh
      have OT:=O (yG aa.own fun i b3 em=>a8.block i em (by simp;omega));have gm:=a8.size;go_wp2_with fail;refine af _ _ Z ?_;clear af ax fr ea cg hx b' ci;refine aH ?_;refine fC 6 ?_;intro ax af;go_wp2_with (refine bF F (DY F F aw ds.cells) ?_);refine af _ _ Z ?_;clear af ax;obtain⟨xs,eo⟩:=aC (aY x);have f0:=O eo;rw[eo]at gt⊢;clear eo;refine aH ?_;refine fC 7 ?_;intro ax af;go_wp2_with fail;refine af _ _ (aJ _ _ Z ((X.refl a_).alloc _)) ?_;clear af ax;generalize ab:World.alloc a_ _=bj;have c_:ah bj a_.heap.size [.string xs] 9:=by rw[<-ab];exact ah.aI F F
      have am:X a_ bj:=by rw[<-ab];exact(X.refl a_).alloc _
      have c2:=aJ _ _ Z am;clear Z;have Z:=c2;obtain⟨cU,cj,cV,ac,cH,cI⟩:=iq c_ (dQ OT am) (cr.ext am) (cm.ext am) ((aa.res.grown a8 (by simp;omega)).ext am) ((aa.ext.Ef a8 J).ext am);have c4:=(Array.getElem?_eq_some_iff.1 aa.it).1;have cG:Hid (bj.heap[gi]? =some (.stringIter us ((ae.take k).length+1))):=O (by rw[am.block gi J,a8.block gi c4 (by simpa using bc)];exact aa.it);have d5:gi+1<=bj.heap.size:=by have:=am.size;omega
      have dt:=O aa.took;have du:=O aa.len;have dv:=O aa.D_;clear c2 ab c_ am OT cm cr a8 aa c4;refine aH ?_;refine fC 8 ?_;intro ax af;go_wp2_with (at_builtin;refine PG F _ _ F (gi+1) F F cj cU J d5 ?_);intro gz bi ct g6;obtain⟨bu,bv,rfl⟩:=Gu ct;have bm:∀q,(Value.slice a2 k1 a3).ownBlock=some q->gi+1<=q:=pG cj;have cl:ah bi (w.heap.size+1) ({r with ra:=a2,rn:=k1,rc:=a3,roles:=ls}:ay).v 101:=ac.grown g6 (fun e=>by have:=bm _ e.symm;omega);replace Z:=(ce bi).2 cl;obtain⟨cR,cL,cM⟩:=aW (cH.grown g6 (fun e=>by have:=bm _ e.symm;omega)) (cV.Gl g6 (fun q cq=>by have:=bm _ cq;exact⟨J,J⟩)) (cI.grown g6 (fun q cq=>by have:=bm _ cq;omega));have cN:Hid (bi.heap[gi]? =some (.stringIter us ((ae.take k).length+1))):=O (by rw[g6.block gi J (fun e=>by have:=bm _ e.symm;omega)];exact cG);obtain⟨cQ,b4⟩:=aB ct cl;clear ct g6 bm ac cH cV cI cG cj cU cl;go_wp2_with fail;refine af _ _ Z ?_;clear af ax;refine aH ?_;refine bK 9 ?_;refine iU 10 ?_;intro ax af;have a7:=b4.cell' eC;have a4:=b4.frozen 17;go_wp2_with fail;generalize cs:World.setCell bi _ _=cv;have cW:ah cv (w.heap.size+1) ({r with ra:=bu,rn:=k1+1,rc:=bv,roles:=ls++[xs]}:ay).v 101:=by
       rw[<-cs];have ao:=b4.set 17 (.slice bu (k1+1) bv);rw[ay.DZ {r with ra:=a2,rn:=k1,rc:=a3,roles:=ls} bu (k1+1) bv (ls++[xs]) b5.hm]at ao;exact ao
      have bo:aU bi (w.heap.size+1) cv:=by rw[<-cs];exact aU.setCell _
      clear cs a7 a4;refine af _ _ trivial ?_;refine aH ?_;refine jR ?_;have c7:Ku w g gi (gi+1) ((ae.take k).length+1) us r bx bz (k1+1) cv bu bv (ls++[xs]) cC cF:=
       ⟨cW,cR.upd bo J,cL.upd bo J J,Gp dt (by rw[<-f0.out];exact Qo fW cS),bo.ext cM J,by rw[length_append,du.out];rfl,
       fun s hs=>by
        rcases mem_append.1 hs with h|h
        ·exact dv s h
        ·rw[mem_singleton.1 h];omega,
       by rw[map_append];exact yG cQ fun i b3 _=>bo.block i J,by rw[bo.block gi J];exact cN⟩
      have dC:=O c7;clear c7 bo cW cR cL cM cN cQ b4;go_wp2_with fail;go_roundw
      case rel=>exact⟨k1+1,bu,bv,ls++[xs],cC,cF,J,by go_num,dC⟩
      case measure=>simp[intOf];omega
     ·have ew:decide ((k1:Int)<(a9:Int))=false:=aP J;have ex:decide (k1<a9)=false:=aP co;have ed:k1=a9:=J;subst ed;have ap:=br.out wr {r with ra:=a2,rn:=k1,rc:=a3,roles:=ls} c9 da
       ⟨aa.body,aa.res,aa.rd,Gq (i:=2) (b:=true) (fun d0 ys=>{d0 with roles:=ys}) c1.D9 (fun _ _=>rfl) R.took dE aa.took,aa.ext,
        {b5 with rl:=aa.len,qZ:=(bJ.xC aX aa.own).2.2,rm:=Nat.le_of_lt ee,rs:=aa.D_},(bJ.xC aX aa.own).1,(.inl (by rw[d6.l];rfl)),fun h=>absurd aF h,fun h=>by
         have ao:=R.nh (fun hm=>h (by simp[hm]));exact⟨ao.a,ao.n,ao.c,ao.l⟩,by rw[aa.it,length_append];rfl⟩
      clear aa co ec;go_wp2_with fail
      go_roundg ba
      case measure=>omega
      case rel=>exact ap
   ·skip
    go_wp2_with fail;refine(yH aE ar w.heap.size g bp R.rd).mono ?_;rintro e w2 ⟨x,rfl,hx,be,bh,a0,ai,ca,ag⟩;have a1:=O ai;clear ai;go_wp2_with fail;refine(xG be bh w.heap.size g x w2 J a0).mono ?_;rintro e fR ⟨e8,e9,y,cC,cF,rfl,fe,ep,b',cr,ci,fl,cg⟩;obtain⟨f1,ds,cS⟩:=aW ep b' ci;have a8:=l9 ag cg;have fz:y.length<=140737488355328:=by rw[ep];omega
    have f2:=O fz;clear ep b' ci ag cg a0 fz;have ac:=O (R.aM aq a8);have a7:=ac.cell' (ay.Gt R.fit);have a4:=ac.frozen 18;go_wp2_with (refine bF F (DY F F f1 ds.cells) ?_);generalize ab:World.setCell fR _ _=ad;have al:ah ad (w.heap.size+1) {r with label:=aY y}.v 101:=by rw[<-ab,<-ay.D5 r _ R.fit.hm];exact ac.set 18 (.string (aY y))
    have an:aU fR (w.heap.size+1) ad:=by rw[<-ab];exact aU.setCell _
    clear ab a7 a4;have a5:ay.Fit {r with label:=aY y}:={R.fit with ls:=by show y.toArray.size<=_;rw[size_toArray];exact f2};have ap:=br.out _ _ _ _ (R.store (i:=3) aq az bc b1 b2 a8 cr an al (oW (i:=3) R.took (((Qo a1 cS).map fun x=>({r.p with label:=x}:bZ)).congr F)) a5 F F F F F F F F)
    go_roundg ba
    case measure=>omega
    case rel=>exact ap
   ·skip
    go_wp2_with fail;refine(xG aE ar w.heap.size g 32 bp J R.rd).mono ?_;rintro e w2 ⟨cx,cy,x,be,bh,rfl,dj,hx,bd,a0,ai,ca,ag⟩;obtain⟨aw,bt,a1⟩:=aW hx bd ai;clear hx bd ai;obtain⟨b,off,rfl,bk⟩:=bt.cells.gQ (by rw[length_map,aw.out];omega);obtain⟨cJ,b8,ac,cf⟩:=bU (dP.of bt.cells) (show(x.map Y).length=32 by rw[length_map];exact aw) (R.aM aq ag) (show r.v.length=58 by unfold ay.v ay.t;simp[R.fit.hm,R.fit.hcm]);clear bk;go_wp2_with (first|(refine bF F (rC F F underlying31 bG _) ?_)|(refine bF F (bQ F F cJ bY b8) ?_)|(refine kR F _ _ _ F F F ac (by rw[b8.out];exact bY) (by rw[b8.out,cf.out];decide) (b_ x) ?_));intro ad al an;rw[ay.Gn _ _ R.fit.hm R.fit.hcm aw.out]at al;have a5:ay.Fit {r with commit:=x}:={R.fit with hcm:=aw.out};have ap:=br.out _ _ _ _ (R.store (i:=4) aq az bc b1 b2 ag a0 an al (oW (i:=4) R.took ((a1.map fun x=>({r.p with commit:=x}:bZ)).congr F)) a5 F F F F F F F F);go_wp2_with fail
    go_roundg ba
    case measure=>omega
    case rel=>exact ap
   ·skip
    go_wp2_with fail;refine(xG aE ar w.heap.size g 4 bp J R.rd).mono ?_;rintro e w2 ⟨cx,cy,x,be,bh,rfl,dj,hx,bd,a0,ai,ca,ag⟩;obtain⟨aw,bt,a1⟩:=aW hx bd ai;clear hx bd ai;have cp:=DV x cx 4 cy w2 aw J bt.cells;obtain⟨N,cn⟩:=aC (kK (jM x));rw[cn]at cp;obtain⟨cP,dy⟩:=aB cn cp;clear cn cp;go_wp2_with fail;refine dy.mono ?_;rintro e w2 ⟨rfl,rfl⟩;have ac:=O (R.aM aq ag);have a7:=ac.cell' (ay.Bv R.fit.hm R.fit.hcm);have a4:=ac.frozen 51;go_wp2_with fail;generalize ab:World.setCell w2 _ _=ad;have al:ah ad (w.heap.size+1) {r with epoch:=N}.v 101:=by rw[<-ab,<-ay.D6 r _ R.fit.hm R.fit.hcm];exact ac.set 51 (.int .i64 N)
    have an:aU w2 (w.heap.size+1) ad:=by rw[<-ab];exact aU.setCell _
    clear ab a7 a4;have a5:ay.Fit {r with epoch:=N}:={R.fit with};have ap:=br.out _ _ _ _ (R.store (i:=5) aq az bc b1 b2 ag a0 an al (oW (i:=5) R.took (by rw[<-cP.out,DW (by rw[Gs aw.out];have:=(iW x 0).toNat_lt;omega)];exact Yb a1)) a5 F F F F F F F F)
    go_roundg ba
    case measure=>omega
    case rel=>exact ap
   ·skip
    go_wp2_with fail;refine(yH aE ar w.heap.size g bp R.rd).mono ?_;rintro e w2 ⟨x,rfl,hx,be,bh,a0,ai,ca,ag⟩;have a1:=O ai;clear ai;have ac:=O (R.aM aq ag);have a7:=ac.cell' (ay.J8 R.fit.hm R.fit.hcm);have a4:=ac.frozen 52;go_wp2_with fail;generalize ab:World.setCell w2 _ _=ad;have al:ah ad (w.heap.size+1) {r with purpose:=(x:Int)}.v 101:=by rw[<-ab,<-ay.JY r _ R.fit.hm R.fit.hcm];exact ac.set 52 (.int .i64 (x:Int))
    have an:aU w2 (w.heap.size+1) ad:=by rw[<-ab];exact aU.setCell _
    clear ab a7 a4;have a5:ay.Fit {r with purpose:=(x:Int)}:={R.fit with};have ap:=br.out _ _ _ _ (R.store (i:=6) aq az bc b1 b2 ag a0 an al (oW (i:=6) R.took ((a1.map fun(x:Nat)=>({r.p with purpose:=(x:Int)}:bZ)).congr F)) a5 F F F F F F F F)
    go_roundg ba
    case measure=>omega
    case rel=>exact ap
   ·skip
    go_wp2_with fail;refine(yH aE ar w.heap.size g bp R.rd).mono ?_;rintro e w2 ⟨x,rfl,hx,be,bh,a0,ai,ca,ag⟩;have a1:=O ai;clear ai;have ac:=O (R.aM aq ag);have a7:=ac.cell' (ay.PL R.fit.hm R.fit.hcm);have a4:=ac.frozen 53;go_wp2_with fail;generalize ab:World.setCell w2 _ _=ad;have al:ah ad (w.heap.size+1) {r with reason:=(x:Int)}.v 101:=by rw[<-ab,<-ay.JZ r _ R.fit.hm R.fit.hcm];exact ac.set 53 (.int .i64 (x:Int))
    have an:aU w2 (w.heap.size+1) ad:=by rw[<-ab];exact aU.setCell _
    clear ab a7 a4;have a5:ay.Fit {r with reason:=(x:Int)}:={R.fit with};have ap:=br.out _ _ _ _ (R.store (i:=7) aq az bc b1 b2 ag a0 an al (oW (i:=7) R.took ((a1.map fun(x:Nat)=>({r.p with reason:=(x:Int)}:bZ)).congr F)) a5 F F F F F F F F)
    go_roundg ba
    case measure=>omega
    case rel=>exact ap
   ·skip
    go_wp2_with fail;refine(yH aE ar w.heap.size g bp R.rd).mono ?_;rintro e w2 ⟨x,rfl,hx,be,bh,a0,ai,ca,ag⟩;have a1:=O ai;clear ai;have ac:=O (R.aM aq ag);have a7:=ac.cell' (ay.J9 R.fit.hm R.fit.hcm);have a4:=ac.frozen 54;go_wp2_with fail;generalize ab:World.setCell w2 _ _=ad;have al:ah ad (w.heap.size+1) {r with need:=(x:Int)}.v 101:=by rw[<-ab,<-ay.J3 r _ R.fit.hm R.fit.hcm];exact ac.set 54 (.int .i64 (x:Int))
    have an:aU w2 (w.heap.size+1) ad:=by rw[<-ab];exact aU.setCell _
    clear ab a7 a4;have a5:ay.Fit {r with need:=(x:Int)}:={R.fit with};have ap:=br.out _ _ _ _ (R.store (i:=8) aq az bc b1 b2 ag a0 an al (oW (i:=8) R.took ((a1.map fun(x:Nat)=>({r.p with need:=(x:Int)}:bZ)).congr F)) a5 F F F F F F F F)
    go_roundg ba
    case measure=>omega
    case rel=>exact ap
   ·skip
    have c1:=R.nh eR;have d6:=R.nr (fun h=>eW ⟨mem_of_mem_take h,eN⟩);go_wp2_with fail;refine(yH aE ar w.heap.size g bp R.rd).mono ?_;rintro e eA ⟨a9,rfl,ee,bx,bz,c6,c8,gg,az⟩;have dE:=O c8;have b5:=O R.fit;have c3:=R.aM aq az;have cT:Kv w g gi (gi+1) ((ae.take k).length+1) us r bx bz 0 eA none 0 [] bx bz:=⟨by rw[c1.eq];exact c3,R.res.grown az (by simp;omega),c6,⟨fun h=>⟨h,F⟩,fun h=> .inl h⟩,R.ext.Ef az J,F,(fun _ h=>by cases h),⟨F,.inl ⟨F,F⟩⟩,by rw[az.block gi (Array.getElem?_eq_some_iff.1 R.it).1 (by simpa using bc)];exact R.it⟩;clear c6 c8 c3;go_wp2_with fail;go_loopw [112] (fun i wr=>∃(k1:Nat) (a:aN) (c:Nat) (ls:List (aj)) (aE:aj) (ar:Bool),k1<=a9/\i= .int .i64 (k1:Int)/\Kv w g gi (gi+1) ((ae.take k).length+1) us r bx bz k1 wr a c ls aE ar) (fun i _=>a9 - (intOf i).toNat)
    case atStart=>exact⟨0,none,0,[],bx,bz,J,F,cT⟩
    case round=>
     obtain⟨k1,a2,a3,ls,c9,da,ec,rfl,aa⟩:=hrel;clear cT;by_cases co:k1<a9
     ·have ew:decide ((k1:Int)<(a9:Int))=true:=aQ J;have ex:decide (k1<a9)=true:=aQ co;obtain⟨C,ce,aJ,bP⟩:=kZ (I:=fun w'=>ah w' (w.heap.size+1) ({r with ha:=a2,hn:=k1,hc:=a3,bH:=ls}:ay).v 101) (fun _ _ b9 bk=>(b9.ext bk)) (w:=wr) (aa.body);have ff:({r with ha:=a2,hn:=k1,hc:=a3,bH:=ls}:ay).v[57]? =some (.slice a2 k1 a3):=ay.Ko (b:=({r with ha:=a2,hn:=k1,hc:=a3,bH:=ls}:ay)) b5.hm b5.hcm;have eE:=O ff;clear ff;go_upto_region 37 with(fail);refine jQ (W:=[9]) fun Z=> ?_;refine bK 0 ?_;refine eY 1 (fun ez h=>((ce ez).1 h).cell' eE) ?_;refine bK 2 ?_;refine fC 3 ?_;intro ax af;go_wp2_with fail;refine(xG c9 da w.heap.size g 16 wr.drew J (aa.rd.ext (X.refl wr).drew)).mono ?_;rintro e a_ ⟨e8,e9,x,cC,cF,rfl,fe,hx,b',cr,ci,fl,cg⟩;have a8:wr.grownBy a_ (some g):=l9 (yC (sG wr _) (X.refl wr).drew) cg;have cm:ah a_ (w.heap.size+1) ({r with ha:=a2,hn:=k1,hc:=a3,bH:=ls}:ay).v 101:=aa.body.grown a8 (by simp;omega);replace Z:=(ce a_).2 cm;obtain⟨gE,he,rfl,f'⟩:=b'.cells.gQ (by rw[length_map,hx];omega);obtain⟨cJ,aw,b8,cS,OT⟩:=dM (dP.of b'.cells) hx (show(x.map Y).length=16 by rw[length_map];exact hx) ci (yG aa.own fun i b3 em=>a8.block i em (by simp;omega));have gm:=a8.size;go_wp2_with fail;refine af _ _ Z ?_;clear af ax cg hx b' ci f';refine aH ?_;refine fC 4 ?_;intro ax af;go_wp2_with (refine bF F (rC F F underlying29 bG _) ?_);refine af _ _ Z ?_;clear af ax;refine aH ?_;refine fC 5 ?_;intro ax af;go_wp2_with (refine bF F (bQ F F cJ dh b8) ?_);refine af _ _ Z ?_;clear af ax;refine aH ?_;refine fC 6 ?_
      intro ax af;go_wp2_with (refine PK F F F aw ?_);refine af _ _ (aJ _ _ Z ((X.refl a_).alloc _)) ?_;clear af ax;generalize ab:World.alloc a_ _=bj;have c_:ah bj a_.heap.size (x.map Y) 29:=by rw[<-ab];exact ah.aI F F
      have am:X a_ bj:=by rw[<-ab];exact(X.refl a_).alloc _
      have c2:=aJ _ _ Z am;clear Z;have Z:=c2;obtain⟨cU,cj,cV,ac,cH,cI⟩:=iq c_ (dQ OT am) (cr.ext am) (cm.ext am) ((aa.res.grown a8 (by simp;omega)).ext am) ((aa.ext.Ef a8 J).ext am);have c4:=(Array.getElem?_eq_some_iff.1 aa.it).1;have cG:Hid (bj.heap[gi]? =some (.stringIter us ((ae.take k).length+1))):=O (by rw[am.block gi J,a8.block gi c4 (by simpa using bc)];exact aa.it);have d5:gi+1<=bj.heap.size:=by have:=am.size;omega
      have dt:=O aa.took;have du:=O aa.len;have dv:=O aa.h16;clear c2 ab c_ am OT cm cr a8 aa c4;refine aH ?_;refine fC 7 ?_;intro ax af;go_wp2_with (at_builtin;refine PI F _ _ F (gi+1) F F cj aw cU J d5 ?_);intro gz bi ct g6;obtain⟨bu,bv,rfl⟩:=Gu ct;have bm:∀q,(Value.slice a2 k1 a3).ownBlock=some q->gi+1<=q:=pG cj;have cl:ah bi (w.heap.size+1) ({r with ha:=a2,hn:=k1,hc:=a3,bH:=ls}:ay).v 101:=ac.grown g6 (fun e=>by have:=bm _ e.symm;omega);replace Z:=(ce bi).2 cl;obtain⟨cR,cL,cM⟩:=aW (cH.grown g6 (fun e=>by have:=bm _ e.symm;omega)) (cV.Gl g6 (fun q cq=>by have:=bm _ cq;exact⟨J,J⟩)) (cI.grown g6 (fun q cq=>by have:=bm _ cq;omega));have cN:Hid (bi.heap[gi]? =some (.stringIter us ((ae.take k).length+1))):=O (by rw[g6.block gi J (fun e=>by have:=bm _ e.symm;omega)];exact cG);obtain⟨cQ,b4⟩:=aB ct cl;clear ct g6 bm ac cH cV cI cG cj cU cl;go_wp2_with fail;refine af _ _ Z ?_;clear af ax;refine aH ?_;refine bK 8 ?_;refine iU 9 ?_;intro ax af;have a7:=b4.cell' eE;have a4:=b4.frozen 57;go_wp2_with fail;generalize cs:World.setCell bi _ _=cv;have cW:ah cv (w.heap.size+1) ({r with ha:=bu,hn:=k1+1,hc:=bv,bH:=ls++[x]}:ay).v 101:=by
       rw[<-cs];have ao:=b4.set 57 (.slice bu (k1+1) bv);rw[ay.J6 {r with ha:=a2,hn:=k1,hc:=a3,bH:=ls} bu (k1+1) bv (ls++[x]) b5.hm b5.hcm]at ao;exact ao
      have bo:aU bi (w.heap.size+1) cv:=by rw[<-cs];exact aU.setCell _
      clear cs a7 a4;refine af _ _ trivial ?_;refine aH ?_;refine jR ?_;have c7:Kv w g gi (gi+1) ((ae.take k).length+1) us r bx bz (k1+1) cv bu bv (ls++[x]) cC cF:=
       ⟨cW,cR.upd bo J,cL.upd bo J J,Gp dt cS,bo.ext cM J,by rw[length_append,du.out];rfl,
       fun s hs=>by
        rcases mem_append.1 hs with h|h
        ·exact dv s h
        ·rw[mem_singleton.1 h];exact aw,
       yG cQ fun i b3 _=>bo.block i J,by rw[bo.block gi J];exact cN⟩
      have dC:=O c7;clear c7 bo cW cR cL cM cN cQ b4;go_wp2_with fail;go_roundw
      case rel=>exact⟨k1+1,bu,bv,ls++[x],cC,cF,J,by go_num,dC⟩
      case measure=>simp[intOf];omega
     ·have ew:decide ((k1:Int)<(a9:Int))=false:=aP J;have ex:decide (k1<a9)=false:=aP co;have ed:k1=a9:=J;subst ed;have ap:=br.out wr {r with ha:=a2,hn:=k1,hc:=a3,bH:=ls} c9 da
       ⟨aa.body,aa.res,aa.rd,Gq (i:=9) (b:=true) (fun d0 ys=>{d0 with bH:=ys}) c1.D9 (fun _ _=>rfl) R.took dE aa.took,aa.ext,
        {b5 with hl:=aa.len,hnc:=(bJ.xC aX aa.own).2.2,vZ:=Nat.le_of_lt ee,h16:=aa.h16},(.inl (by rw[d6.l];rfl)),(bJ.xC aX aa.own).1,fun h=>by
         have ao:=R.nr (fun hm=>h (by simp[hm]));exact⟨ao.a,ao.n,ao.c,ao.l⟩,fun h=>absurd aF h,by rw[aa.it,length_append];rfl⟩
      clear aa co ec;go_wp2_with fail
      go_roundg ba
      case measure=>omega
      case rel=>exact ap
   ·skip
    go_wp2_with fail;refine(yH aE ar w.heap.size g bp R.rd).mono ?_;rintro e w2 ⟨x,rfl,hx,be,bh,a0,ai,ca,ag⟩;have a1:=O ai;clear ai;have ac:=O (R.aM aq ag);have a7:=ac.cell' (ay.PN R.fit.hm R.fit.hcm);have a4:=ac.frozen 55;go_wp2_with fail;generalize ab:World.setCell w2 _ _=ad;have al:ah ad (w.heap.size+1) {r with version:=(x:Int)}.v 101:=by rw[<-ab,<-ay.J4 r _ R.fit.hm R.fit.hcm];exact ac.set 55 (.int .i64 (x:Int))
    have an:aU w2 (w.heap.size+1) ad:=by rw[<-ab];exact aU.setCell _
    clear ab a7 a4;have a5:ay.Fit {r with version:=(x:Int)}:={R.fit with};have ap:=br.out _ _ _ _ (R.store (i:=10) aq az bc b1 b2 ag a0 an al (oW (i:=10) R.took ((a1.map fun(x:Nat)=>({r.p with version:=(x:Int)}:bZ)).congr F)) a5 F F F F F F F F)
    go_roundg ba
    case measure=>omega
    case rel=>exact ap
   ·skip
    go_wp2_with fail;refine(xG aE ar w.heap.size g 8 bp J R.rd).mono ?_;rintro e w2 ⟨cx,cy,x,be,bh,rfl,dj,hx,bd,a0,ai,ca,ag⟩;obtain⟨aw,bt,a1⟩:=aW hx bd ai;clear hx bd ai;have cp:=DV x cx 8 cy w2 aw J bt.cells;obtain⟨N,cn⟩:=aC (kK (jM x));rw[cn]at cp;obtain⟨cP,dy⟩:=aB cn cp;clear cn cp;go_wp2_with fail;refine dy.mono ?_;rintro e w2 ⟨rfl,rfl⟩;have ac:=O (R.aM aq ag);have a7:=ac.cell' (ay.J_ R.fit.hm R.fit.hcm);have a4:=ac.frozen 56;go_wp2_with fail;generalize ab:World.setCell w2 _ _=ad;have al:ah ad (w.heap.size+1) {r with count:=N}.v 101:=by rw[<-ab,<-ay.J5 r _ R.fit.hm R.fit.hcm];exact ac.set 56 (.int .i64 N)
    have an:aU w2 (w.heap.size+1) ad:=by rw[<-ab];exact aU.setCell _
    clear ab a7 a4;have a5:ay.Fit {r with count:=N}:={R.fit with};have ap:=br.out _ _ _ _ (R.store (i:=11) aq az bc b1 b2 ag a0 an al (oW (i:=11) R.took (by rw[<-cP.out];exact Ya a1)) a5 F F F F F F F F)
    go_roundg ba
    case measure=>omega
    case rel=>exact ap
  ·have cA:¬k<us.size:=by rw[eV.out];exact eh
   have ch:=bl.it;rw[dl]at ch;have eg:∀ty,(Instr.next (.pointer (some ⟨gi,0,none⟩)) true ty).run prog wr=_:=fun ty=>Lib.run_next_end_at wr gi us k ty ch cA;have fi:ae.take k=ae:=take_of_length_le J;rw[fi]at bl;have b6:=O bl;obtain⟨d1,cc,d4,d7,gl, -,g', -, -⟩:=bl.rd;have er:=d7.cell' (i:=0) (v:= .slice d1 cc d4) F;have k1:=d7.cell' (i:=1) (v:= .bool ar) F;have df:=O bl.took;have dg:=O bl.res;have de:=O bl.ext;have cf:=O (show r.v.length=58 by unfold ay.v ay.t;simp[bl.fit.hm,bl.fit.hcm]);clear ch fi bl dl d7;cases ar with
   |true=>
    have fo:jC kF ae kD l=none:=(df.2 F).resolve_left aF;have a6:=b7.out;rw[fo]at a6;simp only at a6;subst a6;clear b7 df fo;go_wp2_with (refine bg F _ _ _ F F F dg eP fM (xs:=dI.v) fM (lD dI) ?_);intro bi d2 ey;go_wp2_with fail;exact iy F F d2 eP fM F ⟨dI,F,rE,.inl F,.inl F,F,ey.ext de bG⟩
   |false=>
   have ft:=(df.1 F).2;have a6:=b7.out;rw[ft]at a6;simp only at a6;rw[gl]at a6;clear b7 df ft;by_cases cE:0<cc
   ·rw[if_pos cE]at a6;subst a6;have f7:decide (0<cc)=true:=aQ cE;have f8:decide ((0:Int)<(cc:Int))=true:=aQ J;clear cE;go_wp2_with (refine bg F _ _ _ F F F dg eP fM (xs:=dI.v) fM (lD dI) ?_);intro bi d2 ey;go_wp2_with fail;exact iy F F d2 eP fM F ⟨dI,F,rE,.inl F,.inl F,F,ey.ext de bG⟩
   rw[if_neg cE]at a6;have f7:decide (0<cc)=false:=aP cE;have f8:decide ((0:Int)<(cc:Int))=false:=aP J;have d8:=fc.out r;rw[Gv b6.fit.rl b6.fit.hl]at d8;have dr:=O d8;generalize uh (K:Int) r.p=E at a6 dr;have b7:=O a6;have dq:=O b6.body;clear d8 a6 cE fc;go_wp2_with (refine bV F 101 (.tmp 6) F F dq eP cf ?_);refine(dr wr (b6.fit.ok b6.jF b6.hhi)).mono ?_;rintro e bi ⟨rfl,cz⟩;obtain⟨e7,eK,fS,f3,f4⟩:=dM (dg.ext cz) (de.ext cz) (dq.ext cz) (b6.jF.ext cz) (b6.hhi.ext cz);clear cz dg de dq dr er k1;by_cases et:E=0
   ·subst et;have a6:=b7.out;rw[if_pos F]at a6;subst a6;clear b7;go_wp2_with (first|(refine bV F 101 (.tmp 6) F F fS eP cf ?_)|(refine bg F _ _ _ F F F e7 eP fM (xs:=r.v) cf (lD r) ?_));intro gA d3 db;go_wp2_with fail;exact iy F F d3 eP cf F ⟨r,F,b6.fit,(f3.upd db J).lower J,(f4.upd db J).lower J,F,db.ext eK bG⟩
   ·have a6:=b7.out;rw[if_neg et]at a6;subst a6;have gS:(E != 0)=true:=by simpa using et
    clear b7;go_wp2_with (refine bg F _ _ _ F F F e7 eP fM (xs:=dI.v) fM (lD dI) ?_);intro gA d3 db;go_wp2_with fail;exact iy F F d3 eP fM F ⟨dI,F,rE,.inl F,.inl F,F,db.ext eK bG⟩
end
end Go.Proofs.YtjlhhnkhcbpnjaaGreatDoor
