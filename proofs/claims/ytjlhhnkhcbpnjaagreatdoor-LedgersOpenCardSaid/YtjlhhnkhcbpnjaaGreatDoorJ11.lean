/- Laws that the row leans on; no condition. -/
import Derived.Test.YtjlhhnkhcbpnjaaGreatDoorJ10
namespace Go.Proofs.YtjlhhnkhcbpnjaaGreatDoor
open Go Go.RowKit List Tryz
set_option linter.unusedVariables false
set_option linter.unusedSimpArgs false
set_option maxHeartbeats 40000000
set_option maxRecDepth 100000
section
open Go Go.RowKit
section
variable {w0:World} {g gi B:Nat} {us:ByteArray} {l0:aj} {sq:List Nat} {w:World} {r:ay} {l:aj} {s:Bool}
structure Ku(w0:World)(g gi B n1:Nat)(us:ByteArray)(r:ay)(l1:aj)(s1:Bool)(k:Nat)(w:World)(a:aN)(c:Nat)(ls:aT)(lk:aj)(sk:Bool):Prop where
 body:ah w (w0.heap.size+1) {r with ra:=a,rn:=k,rc:=c,roles:=ls}.v 101
 res:ah w w0.heap.size dI.v 101
 rd:gI OT w0.heap.size w g lk sk
 took:fA (kW rD k []) l1 s1 ls lk sk
 ext:X w0 w
 len:ls.length=k
 D_:∀s∈ls,s.size<=140737488355328
 own:w.ownsRow B 9 1 (.slice a k c) k (ls.map bM)
 it:w.heap[gi]? =some (.stringIter us n1)
structure Kv(w0:World)(g gi B n1:Nat)(us:ByteArray)(r:ay)(l1:aj)(s1:Bool)(k:Nat)(w:World)(a:aN)(c:Nat)(ls:List (aj))(lk:aj)(sk:Bool):Prop where
 body:ah w (w0.heap.size+1) {r with ha:=a,hn:=k,hc:=c,bH:=ls}.v 101
 res:ah w w0.heap.size dI.v 101
 rd:gI OT w0.heap.size w g lk sk
 took:fA (kW (fK 16) k []) l1 s1 ls lk sk
 ext:X w0 w
 len:ls.length=k
 h16:oP ls
 own:w.ownsRow B 29 16 (.slice a k c) k (dB ls)
 it:w.heap[gi]? =some (.stringIter us n1)
end
theorem X_{act:Int}(h:iI act=true):¬(2∈gy act/\9∈gy act):=by
 rcases wo h with rfl|rfl|rfl|rfl|rfl|rfl|rfl|rfl|rfl|rfl|rfl|rfl<;>decide
theorem Ya{j:bZ}{l u x:aj}{s E:Bool}(h:fA (fK 8) l s x u E):fA (iP kF 11 j) l s {j with count:=kK (jM x)} u E:=(h.map fun x=>({j with count:=kK (jM x)}:bZ)).congr (by show _=((fK 8 l).map fun p=>(kF p.1,p.2)).map _;cases fK 8 l<;>rfl)
theorem Yb{j:bZ}{l u x:aj}{s E:Bool}(h:fA (fK 4) l s x u E):fA (iP kF 5 j) l s {j with epoch:=(jM x:Int)} u E:=(h.map fun x=>({j with epoch:=(jM x:Int)}:bZ)).congr F
theorem Yc{j:bZ}{n:Nat}{l u x:aj}{s E:Bool}(hn:l.length=n)(h:fA (fK n) l s x u E):fA (iP kF 0 j) l s {j with text:=aY x} u E:=(PE hn h).congr (by unfold iP;rw[if_pos F,if_pos F])
theorem Qo{l m j x:aj}{n:Nat}{s t u:Bool}(h:fA kV l s n m t)(k:fA (fK n) m t x j u):fA rD l s (aY x) j u:=
 (h.bind (q:=fun n l=>(fK n l).map fun q=>(aY q.1,q.2)) (k.map aY)).congr (by unfold rD aY;rfl)
theorem GH(act:Int)(l:aj)(a:aN)(n c:Nat)(w:World)(hl:l.length=n)(hnc:n<=c)(hn:n<=140737488355328)(eN:aK w a (l.map Y)):
 Calls prog 84 #[.int .i64 act,.slice a n c] w fun e w'=>∃r:ay,e= .returned (.tuple #[.agg r.v.toArray,.int .i64 (kE kF act l).2])/\r.Fit/\bJ w' w.heap.size r.ra (r.roles.map bM)/\bJ w' w.heap.size r.ha (dB r.bH)/\r.p=(kE kF act l).1/\X w w':=by
 obtain⟨ej,ei⟩:=aB hl eN;obtain⟨fY,bp⟩:=aC (kE kF act l);rw[bp];unfold kE at bp;clear eN;by_cases bL:act<1∨12<act
 ·have eV:iI act=false:=by
   unfold iI;rcases bL with h|h
   ·rw[aP J];rfl
   ·rw[aP (show¬act<=12 by omega),Bool.and_false]
  rw[eV,if_pos F]at bp;subst bp;clear hl eV;go_enter func84,ntmps84;go_upto_region 2 with(fail);generalize bR:World.alloc (World.alloc w _) _=bt;have cW:ah bt w.heap.size dI.v 101:=by rw[<-bR];exact(ah.aI F F).alloc _
  have cV:ah bt (w.heap.size+1) dI.v 101:=by rw[<-bR];exact ah.aI (uO _ _).symm rfl
  have cG:X w bt:=by rw[<-bR];exact((X.refl w).alloc _).alloc _
  obtain⟨cg,b6,bX⟩:=aW cW cV cG;clear bR cW cV cG;by_cases bd:act<1
  ·have eC:decide (act<1)=true:=aQ bd;clear bL bd;go_wp2_with (first|(refine bV F 101 (.tmp 6) F F b6 eP fM ?_)|(refine bg F _ _ _ F F F cg eP fM (xs:=dI.v) fM (lD dI) ?_));intro ad al an;go_wp2_with fail;exact iy F F al eP fM F ⟨dI,F,rE,.inl F,.inl F,F,an.ext bX bG⟩
  ·have eC:decide (act<1)=false:=aP bd;have fk:decide (12<act)=true:=aQ (bL.resolve_left bd);clear bL bd;go_wp2_with (first|(refine bV F 101 (.tmp 6) F F b6 eP fM ?_)|(refine bg F _ _ _ F F F cg eP fM (xs:=dI.v) fM (lD dI) ?_));intro ad al an;go_wp2_with fail;exact iy F F al eP fM F ⟨dI,F,rE,.inl F,.inl F,F,an.ext bX bG⟩
 have cM:iI act=true:=by unfold iI;rw[aQ (show 1<=act by omega),aQ (show act<=12 by omega)];rfl
 rw[cM,if_neg aF]at bp;have eC:decide (act<1)=false:=aP J;have fk:decide (12<act)=false:=aP J;have eJ:=O (fun r w' h=>Qn act r w' h);obtain⟨K,rfl⟩:∃K:Nat,act=(K:Int):=⟨act.toNat,J⟩;have d0:=O (fun w=>Gy K w J);have c5:=Qi cM;rw[show(K:Int).toNat=K from F]at c5;have dz:=Qh cM;have d4:=X_ cM;obtain⟨ae,eE⟩:=aC (gy (K:Int));rw[eE]at c5 dz d4 bp;have ep:=O d4;obtain⟨us,d2⟩:=aC ((⟨(rF K).toArray⟩:ByteArray):ByteArray);rw[d2]at d0;have d1:us.data.toList=ae.map jZ:=by rw[<-d2,<-c5]
 have e7:us.size=ae.length:=by
  have ao:=congrArg List.length d1;rw[Array.length_toList,length_map]at ao;exact ao
 obtain⟨fd,eo,el⟩:=aW d1 e7 dz;clear c5 d2 d1 e7 dz d4 eE bL cM;go_enter func84,ntmps84;go_upto_region 2 with(fail);generalize bR:World.alloc (World.alloc w _) _=bt;have cW:ah bt w.heap.size dI.v 101:=by rw[<-bR];exact(ah.aI F F).alloc _
 have cV:ah bt (w.heap.size+1) dI.v 101:=by rw[<-bR];exact ah.aI (uO _ _).symm rfl
 have cG:X w bt:=by rw[<-bR];exact((X.refl w).alloc _).alloc _
 obtain⟨cg,b6,bX⟩:=aW cW cV cG;clear bR cW cV cG;by_cases cm:32768<n
 ·rw[hl,if_pos cm]at bp;subst bp;have fl:decide (32768<n)=true:=aQ cm;have f2:decide ((32768:Int)<(n:Int))=true:=aQ J;clear hl cm;go_wp2_with (first|(refine bV F 101 (.tmp 6) F F b6 eP fM ?_)|(refine bg F _ _ _ F F F cg eP fM (xs:=dI.v) fM (lD dI) ?_));intro ad al an;go_wp2_with fail;exact iy F F al eP fM F ⟨dI,F,rE,.inl F,.inl F,F,an.ext bX bG⟩
 rw[hl,if_neg cm]at bp;have bB:=O bp;have fl:decide (32768<n)=false:=aP cm;have f1:decide ((32768:Int)<(n:Int))=false:=aP J;clear hl bp cm;go_upto_region 7 with(fail);generalize ab:World.alloc bt _=bc;obtain⟨g,c3⟩:=aC bt.heap.size;have e_:ah bc g [.slice a n c,.bool false] OT:=by rw[<-ab,<-c3];exact ah.aI F F
 have am:X bt bc:=by rw[<-ab];exact(X.refl bt).alloc _
 rw[c3];have aq:w.heap.size+1<g:=by rw[<-c3];exact b6.lt
 have e':gI OT w.heap.size bc g l false:=by
  refine⟨a,n,c,e_,ej,hnc,hn,(bX.ext am).size,?_⟩;rcases ei with c1|⟨b,off,ha,c1⟩
  ·exact .inl c1
  ·by_cases eO:l.map Y=[]
   ·exact .inl eO
   ·obtain⟨u,fz⟩:∃u,(l.map Y)[0]? =some u:=⟨_,List.getElem?_eq_getElem (length_pos_iff.2 eO)⟩;have hb:b<w.heap.size:=block_lt_of_cell (c1 0 u fz);exact .inr ⟨b,off,ha,hb,J,fun j v fI=>wu (c1 j v fI) ((bX.ext am).block b hb)⟩
 obtain⟨et,ex,ev,ef⟩:=bU e' (cg.ext am) (b6.ext am) (bX.ext am);clear ab e_ e' am cg b6 bX c3 ej ei;go_wp2_with fail;refine(d0 bc).mono ?_;rintro e ad ⟨rfl,cF⟩;obtain⟨ey,ew,eg,df⟩:=bU (ex.ext cF) (ev.ext cF) (ef.ext cF) (et.ext cF);have ft:g<ad.heap.size:=df.lt;clear cF ex ev ef et d0;go_wp2_with fail;obtain⟨gi,eS⟩:=aC ad.heap.size;have du:=World.iter_heap ad us 0;have cH:X ad (ad.iter us 0):=(X.refl ad).alloc _;rw[eS]at du ft⊢;have ax:w.heap.size+1<gi:=J;have a7:gi≠g:=J;have bu:w.heap.size+1<gi+1:=J;have bv:g<gi+1:=J;have fs:gi<gi+1:=J;have er:AQ w g gi (gi+1) us l [] (ad.iter us 0) dI l false:=
  ⟨ew.ext cH,ey.ext cH,df.ext cH,⟨fun h=>⟨h,F⟩,fun h=> .inl h⟩,eg.ext cH,rE,.inl F,.inl F,fun _=>⟨F,F,F,F⟩,fun _=>⟨F,F,F,F⟩,du⟩
 clear du cH ey ew eg df eS
 go_loopg [] ae.length (fun fo wx=>∃(k:Nat) (r:ay) (az:aj) (ar:Bool),k<=ae.length/\AQ w g gi (gi+1) us l (ae.take k) wx r az ar/\ae.length<=k+fo)
 case atStart=>exact⟨0,dI,l,false,J,by simpa using er,J⟩
 case round=>
  obtain⟨k,r,az,ar,hk,be,f6⟩:=hrel;clear er;have c4:(ae.take k).length=k:=by rw[length_take];omega
  by_cases dE:k<ae.length
  ·obtain⟨a6,rfl⟩:∃a6,gk=a6+1:=⟨gk - 1,J⟩;obtain⟨i,bw⟩:∃i,ae[k]? =some i:=⟨_,List.getElem?_eq_getElem dE⟩;have e6:ae.take (k+1)=ae.take k++[i]:=by rw[take_add_one,bw];rfl
   have f7:i<12:=el.2 i (mem_of_getElem? bw);have eW:i∉ae.take k:=by
    intro hm;have ao:=el.1;have fq:ae=ae.take k++ae.drop k:=(take_append_drop k ae).symm;rw[fq]at ao;refine(nodup_append.1 ao).2.2 i hm i ?_ F;exact mem_of_getElem? (i:=0) (by rw[List.getElem?_drop];exact bw)
   have ek:=O (mem_of_getElem? bw);have ck:k<us.size:=by rw[eo.out];exact dE
   have b3:=be.it;rw[c4]at b3;have dC:∀ty,(Instr.next (.pointer (some ⟨gi,0,none⟩)) true ty).run prog wr=_:=fun ty=>Lib.run_next_any_at wr gi us k ty b3 ck;have dT:us[k]'ck=jZ i:=by
    have ao:us.data.toList[k]? =some (jZ i):=by rw[fd.out,List.getElem?_map,bw];rfl
    rw[Array.getElem?_toList]at ao;exact(Array.getElem?_eq_some_iff.1 ao).2
   have eI:(us[k]'ck).toNat<128:=by
    rw[dT];rcases(by omega:i=0∨i=1∨i=2∨i=3∨i=4∨i=5∨i=6∨i=7∨i=8∨i=9∨i=10∨i=11)with rfl|rfl|rfl|rfl|rfl|rfl|rfl|rfl|rfl|rfl|rfl|rfl<;>decide
   have ds:=decode_ascii us k ck eI;rw[dT]at ds;rw[ds]at dC;have R:BF w g gi (gi+1) us l (ae.take k) (wr.iterAt gi us (k+1)) r az ar:=
    be.next aq ax a7 fs (fun j fu=>Lib.iterAt_other wr gi j us (k+1) fu) (Lib.iterAt_size ..) ⟨F,F,F⟩ (by rw[c4];exact Lib.iterAt_heap wr gi us k (k+1) b3)
   obtain⟨en,em⟩:=aB e6 eW;clear be b3 ds dT eI e6 eW bw;simp only at dC;generalize wr.iterAt gi us (k+1)=bj at*;obtain⟨gc,fL⟩:=aC bj;have e3:∀wz r2 a9 a_,AQ w g gi (gi+1) us l (ae.take k++[i]) wz r2 a9 a_->∃(k:Nat) (r:ay) (az:aj) (ar:Bool),k<=ae.length/\AQ w g gi (gi+1) us l (ae.take k) wz r az ar/\ae.length<=k+a6:=
    fun wz r2 a9 a_ h=>⟨k+1,r2,a9,a_,J,by rw[en.out];exact h,J⟩
   have bk:=O e3;clear e3 fL en;rcases(by omega:i=0∨i=1∨i=2∨i=3∨i=4∨i=5∨i=6∨i=7∨i=8∨i=9∨i=10∨i=11)with rfl|rfl|rfl|rfl|rfl|rfl|rfl|rfl|rfl|rfl|rfl|rfl
   ·skip
    obtain⟨di,bS,dl,hb,e0,f',f5,f4,fr⟩:=R.rd;have d7:=hb.cell' (i:=0) (v:= .slice di bS dl) F;have cx:=O e0;clear hb e0 fr;go_wp2_with fail;refine(xG az ar w.heap.size g bS bj J R.rd).mono ?_;rintro e w2 ⟨ch,ci,x,a9,a_,rfl,c2,hx,a8,aD,ai,bO,ag⟩;obtain⟨av,bl,aE⟩:=aW hx a8 ai;have e8:x.length<=140737488355328:=by rw[hx];omega
    have fe:=O e8;clear hx a8 ai e8 d7;have ac:=O (R.body2 aq ag);have a2:=ac.cell' (ay.at0 r);have aR:=ac.frozen 0;go_wp2_with (refine bF F (DY F F av bl.cells) ?_);generalize ab:World.setCell w2 _ _=ad;have al:ah ad (w.heap.size+1) {r with text:=aY x}.v 101:=by rw[<-ab];exact ac.set 0 (.string (aY x))
    have an:aU w2 (w.heap.size+1) ad:=by rw[<-ab];exact aU.setCell _
    clear ab a2 aR;have a0:ay.Fit {r with text:=aY x}:={R.fit with ts:=by show x.toArray.size<=_;rw[size_toArray];exact fe};have ap:=bk.out _ _ _ _ (R.store (i:=0) aq ax a7 bu bv ag aD an al (oW (i:=0) R.took (Yc cx aE)) a0 F F F F F F F F)
    go_roundg a6
    case measure=>omega
    case rel=>exact ap
   ·skip
    go_wp2_with fail;refine(xG az ar w.heap.size g 16 bj J R.rd).mono ?_;rintro e w2 ⟨ch,ci,x,a9,a_,rfl,c2,hx,a8,aD,ai,bO,ag⟩;obtain⟨av,bl,aE⟩:=aW hx a8 ai;clear hx a8 ai;obtain⟨b,off,rfl,bd⟩:=bl.cells.gQ (by rw[length_map,av.out];omega);obtain⟨cs,bE,ac,b1⟩:=bU (dP.of bl.cells) (show(x.map Y).length=16 by rw[length_map];exact av) (R.body2 aq ag) (show r.v.length=58 by unfold ay.v ay.t;simp[R.fit.hm,R.fit.hcm]);clear bd;go_wp2_with (first|(refine bF F (rC F F underlying29 bG _) ?_)|(refine bF F (bQ F F cs dh bE) ?_)|(refine kR F _ _ _ F F F ac (by rw[bE.out];exact dh) (by rw[bE.out,b1.out];decide) (b_ x) ?_));intro ad al an;rw[ay.JX _ _ R.fit.hm av.out]at al;have a0:ay.Fit {r with member:=x}:={R.fit with hm:=av.out};have ap:=bk.out _ _ _ _ (R.store (i:=1) aq ax a7 bu bv ag aD an al (oW (i:=1) R.took ((aE.map fun x=>({r.p with member:=x}:bZ)).congr F)) a0 F F F F F F F F);go_wp2_with fail
    go_roundg a6
    case measure=>omega
    case rel=>exact ap
   ·skip
    have cI:=R.nr em;have dp:=R.nh (fun h=>ep ⟨ek,mem_of_mem_take h⟩);go_wp2_with fail;refine(yH az ar w.heap.size g bj R.rd).mono ?_;rintro e ec ⟨a4,rfl,dy,bq,br,cN,cQ,fv,ax⟩;have de:=O cQ;have bz:=O R.fit;have cK:=R.body2 aq ax;have cB:Ku w g gi (gi+1) ((ae.take k).length+1) us r bq br 0 ec none 0 [] bq br:=⟨by rw[cI.eq];exact cK,R.res.grown ax (by simp;omega),cN,⟨fun h=>⟨h,F⟩,fun h=> .inl h⟩,R.ext.Ef ax J,F,(fun _ h=>by cases h),⟨F,.inl ⟨F,F⟩⟩,by rw[ax.block gi (Array.getElem?_eq_some_iff.1 R.it).1 (by simpa using a7)];exact R.it⟩;clear cN cQ cK;go_wp2_with fail;go_loopw [54] (fun i wr=>∃(k1:Nat) (a:aN) (c:Nat) (ls:aT) (az:aj) (ar:Bool),k1<=a4/\i= .int .i64 (k1:Int)/\Ku w g gi (gi+1) ((ae.take k).length+1) us r bq br k1 wr a c ls az ar) (fun i _=>a4 - (intOf i).toNat)
    case atStart=>exact⟨0,none,0,[],bq,br,J,F,cB⟩
    case round=>
     obtain⟨k1,aL,aM,ls,cR,cT,dv,rfl,aa⟩:=hrel;clear cB;by_cases b':k1<a4
     ·have d9:decide ((k1:Int)<(a4:Int))=true:=aQ J;have d':decide (k1<a4)=true:=aQ b';obtain⟨C,b0,aJ,bP⟩:=kZ (I:=fun w'=>ah w' (w.heap.size+1) ({r with ra:=aL,rn:=k1,rc:=aM,roles:=ls}:ay).v 101) (fun _ _ bL bd=>(bL.ext bd)) (w:=wr) (aa.body);have eK:({r with ra:=aL,rn:=k1,rc:=aM,roles:=ls}:ay).v[17]? =some (.slice aL k1 aM):=by
       unfold ay.v;exact lC (n:=16) (i:=0) (by rw[length_map];exact bz.hm)
      have ed:=O eK;clear eK;go_upto_region 18 with(fail);refine jQ (W:=[10]) fun Z=> ?_;refine bK 0 ?_;refine eY 1 (fun eb h=>((b0 eb).1 h).cell' ed) ?_;refine bK 2 ?_;refine bK 3 ?_;refine fC 4 ?_;intro aw af;go_wp2_with fail;refine(yH cR cT w.heap.size g wr.drew (aa.rd.ext (X.refl wr).drew)).mono ?_;rintro e c6 ⟨fS,rfl,fw,fR,fT,e1,e5,f8,eR⟩;have dt:wr.grownBy c6 (some g):=l9 (yC (sG wr _) (X.refl wr).drew) eR;have eD:ah c6 (w.heap.size+1) ({r with ra:=aL,rn:=k1,rc:=aM,roles:=ls}:ay).v 101:=aa.body.grown dt (by simp;omega);replace Z:=(b0 c6).2 eD;have fc:=O e5;go_wp2_with fail;refine af _ _ Z ?_;clear af aw eD eR e5;refine aH ?_;refine fC 5 ?_;intro aw af;go_wp2_with fail;refine(xG fR fT w.heap.size g fS c6 J e1).mono ?_;rintro e a5 ⟨eA,eB,x,cl,co,rfl,eL,hx,bN,cc,b4,eT,b2⟩;have a3:wr.grownBy a5 (some g):=l9 dt b2;have b8:ah a5 (w.heap.size+1) ({r with ra:=aL,rn:=k1,rc:=aM,roles:=ls}:ay).v 101:=aa.body.grown a3 (by simp;omega);replace Z:=(b0 a5).2 b8;obtain⟨av,c9,cA⟩:=aW hx bN b4;have fN:(aY x).size<256:=by show x.toArray.size<256;rw[size_toArray,hx];exact fw
      have OT:=O (yG aa.own fun i bw d3=>a3.block i d3 (by simp;omega));have fy:=a3.size;go_wp2_with fail;refine af _ _ Z ?_;clear af aw e1 dt b2 hx bN b4;refine aH ?_;refine fC 6 ?_;intro aw af;go_wp2_with (refine bF F (DY F F av c9.cells) ?_);refine af _ _ Z ?_;clear af aw;obtain⟨xs,d5⟩:=aC (aY x);have ff:=O d5;rw[d5]at fN⊢;clear d5;refine aH ?_;refine fC 7 ?_;intro aw af;go_wp2_with fail;refine af _ _ (aJ _ _ Z ((X.refl a5).alloc _)) ?_;clear af aw;generalize ab:World.alloc a5 _=bc;have cS:ah bc a5.heap.size [.string xs] 9:=by rw[<-ab];exact ah.aI F F
      have am:X a5 bc:=by rw[<-ab];exact(X.refl a5).alloc _
      have cJ:=aJ _ _ Z am;clear Z;have Z:=cJ;obtain⟨cC,b5,cD,ac,cq,cr⟩:=iq cS (dQ OT am) (cc.ext am) (b8.ext am) ((aa.res.grown a3 (by simp;omega)).ext am) ((aa.ext.Ef a3 J).ext am);have cL:=(Array.getElem?_eq_some_iff.1 aa.it).1;have cp:Hid (bc.heap[gi]? =some (.stringIter us ((ae.take k).length+1))):=O (by rw[am.block gi J,a3.block gi cL (by simpa using a7)];exact aa.it);have dm:gi+1<=bc.heap.size:=by have:=am.size;omega
      have c_:=O aa.took;have da:=O aa.len;have db:=O aa.D_;clear cJ ab cS am OT b8 cc a3 aa cL;refine aH ?_;refine fC 8 ?_;intro aw af;go_wp2_with (at_builtin;refine PG F _ _ F (gi+1) F F b5 cC J dm ?_);intro fW ba ce g6;obtain⟨bm,bo,rfl⟩:=Gu ce;have bh:∀q,(Value.slice aL k1 aM).ownBlock=some q->gi+1<=q:=pG b5;have b7:ah ba (w.heap.size+1) ({r with ra:=aL,rn:=k1,rc:=aM,roles:=ls}:ay).v 101:=ac.grown g6 (fun e=>by have:=bh _ e.symm;omega);replace Z:=(b0 ba).2 b7;obtain⟨cz,ct,cv⟩:=aW (cq.grown g6 (fun e=>by have:=bh _ e.symm;omega)) (cD.Gl g6 (fun q cb=>by have:=bh _ cb;exact⟨J,J⟩)) (cr.grown g6 (fun q cb=>by have:=bh _ cb;omega));have cw:Hid (ba.heap[gi]? =some (.stringIter us ((ae.take k).length+1))):=O (by rw[g6.block gi J (fun e=>by have:=bh _ e.symm;omega)];exact cp);obtain⟨cy,bx⟩:=aB ce b7;clear ce g6 bh ac cq cD cr cp b5 cC b7;go_wp2_with fail;refine af _ _ Z ?_;clear af aw;refine aH ?_;refine bK 9 ?_;refine iU 10 ?_;intro aw af;have a2:=bx.cell' ed;have aR:=bx.frozen 17;go_wp2_with fail;generalize cd:World.setCell ba _ _=cf;have cE:ah cf (w.heap.size+1) ({r with ra:=bm,rn:=k1+1,rc:=bo,roles:=ls++[xs]}:ay).v 101:=by
       rw[<-cd];have ao:=bx.set 17 (.slice bm (k1+1) bo);rw[ay.DZ {r with ra:=aL,rn:=k1,rc:=aM,roles:=ls} bm (k1+1) bo (ls++[xs]) bz.hm]at ao;exact ao
      have bi:aU ba (w.heap.size+1) cf:=by rw[<-cd];exact aU.setCell _
      clear cd a2 aR;refine af _ _ trivial ?_;refine aH ?_;refine jR ?_;have cP:Ku w g gi (gi+1) ((ae.take k).length+1) us r bq br (k1+1) cf bm bo (ls++[xs]) cl co:=
       ⟨cE,cz.upd bi J,ct.upd bi J J,Gp c_ (by rw[<-ff.out];exact Qo fc cA),bi.ext cv J,by rw[length_append,da.out];rfl,
       fun s hs=>by
        rcases mem_append.1 hs with h|h
        ·exact db s h
        ·rw[mem_singleton.1 h];omega,
       by rw[map_append];exact yG cy fun i bw _=>bi.block i J,by rw[bi.block gi J];exact cw⟩
      have dd:=O cP;clear cP bi cE cz ct cv cw cy bx;go_wp2_with fail;go_roundw
      case rel=>exact⟨k1+1,bm,bo,ls++[xs],cl,co,J,by go_num,dd⟩
      case measure=>simp[intOf];omega
     ·have d9:decide ((k1:Int)<(a4:Int))=false:=aP J;have d':decide (k1<a4)=false:=aP b';have dx:k1=a4:=J;subst dx;have ap:=bk.out wr {r with ra:=aL,rn:=k1,rc:=aM,roles:=ls} cR cT
       ⟨aa.body,aa.res,aa.rd,Gq (i:=2) (b:=true) (fun dg ys=>{dg with roles:=ys}) cI.D9 (fun _ _=>rfl) R.took de aa.took,aa.ext,
        {bz with rl:=aa.len,qZ:=(bJ.xC aX aa.own).2.2,rm:=Nat.le_of_lt dy,rs:=aa.D_},(bJ.xC aX aa.own).1,(.inl (by rw[dp.l];rfl)),fun h=>absurd aF h,fun h=>by
         have ao:=R.nh (fun hm=>h (by simp[hm]));exact⟨ao.a,ao.n,ao.c,ao.l⟩,by rw[aa.it,length_append];rfl⟩
      clear aa b' dv;go_wp2_with fail
      go_roundg a6
      case measure=>omega
      case rel=>exact ap
   ·skip
    go_wp2_with fail;refine(yH az ar w.heap.size g bj R.rd).mono ?_;rintro e w2 ⟨x,rfl,hx,a9,a_,aD,ai,bO,ag⟩;have aE:=O ai;clear ai;go_wp2_with fail;refine(xG a9 a_ w.heap.size g x w2 J aD).mono ?_;rintro e fa ⟨eA,eB,y,cl,co,rfl,eL,d6,bN,cc,b4,eT,b2⟩;obtain⟨fg,c9,cA⟩:=aW d6 bN b4;have a3:=l9 ag b2;have e9:y.length<=140737488355328:=by rw[d6];omega
    have fh:=O e9;clear d6 bN b4 ag b2 aD e9;have ac:=O (R.body2 aq a3);have a2:=ac.cell' (ay.Gt R.fit);have aR:=ac.frozen 18;go_wp2_with (refine bF F (DY F F fg c9.cells) ?_);generalize ab:World.setCell fa _ _=ad;have al:ah ad (w.heap.size+1) {r with label:=aY y}.v 101:=by rw[<-ab,<-ay.D5 r _ R.fit.hm];exact ac.set 18 (.string (aY y))
    have an:aU fa (w.heap.size+1) ad:=by rw[<-ab];exact aU.setCell _
    clear ab a2 aR;have a0:ay.Fit {r with label:=aY y}:={R.fit with ls:=by show y.toArray.size<=_;rw[size_toArray];exact fh};have ap:=bk.out _ _ _ _ (R.store (i:=3) aq ax a7 bu bv a3 cc an al (oW (i:=3) R.took (((Qo aE cA).map fun x=>({r.p with label:=x}:bZ)).congr F)) a0 F F F F F F F F)
    go_roundg a6
    case measure=>omega
    case rel=>exact ap
   ·skip
    go_wp2_with fail;refine(xG az ar w.heap.size g 32 bj J R.rd).mono ?_;rintro e w2 ⟨ch,ci,x,a9,a_,rfl,c2,hx,a8,aD,ai,bO,ag⟩;obtain⟨av,bl,aE⟩:=aW hx a8 ai;clear hx a8 ai;obtain⟨b,off,rfl,bd⟩:=bl.cells.gQ (by rw[length_map,av.out];omega);obtain⟨cs,bE,ac,b1⟩:=bU (dP.of bl.cells) (show(x.map Y).length=32 by rw[length_map];exact av) (R.body2 aq ag) (show r.v.length=58 by unfold ay.v ay.t;simp[R.fit.hm,R.fit.hcm]);clear bd;go_wp2_with (first|(refine bF F (rC F F underlying31 bG _) ?_)|(refine bF F (bQ F F cs bY bE) ?_)|(refine kR F _ _ _ F F F ac (by rw[bE.out];exact bY) (by rw[bE.out,b1.out];decide) (b_ x) ?_));intro ad al an;rw[ay.Gn _ _ R.fit.hm R.fit.hcm av.out]at al;have a0:ay.Fit {r with commit:=x}:={R.fit with hcm:=av.out};have ap:=bk.out _ _ _ _ (R.store (i:=4) aq ax a7 bu bv ag aD an al (oW (i:=4) R.took ((aE.map fun x=>({r.p with commit:=x}:bZ)).congr F)) a0 F F F F F F F F);go_wp2_with fail
    go_roundg a6
    case measure=>omega
    case rel=>exact ap
   ·skip
    go_wp2_with fail;refine(xG az ar w.heap.size g 4 bj J R.rd).mono ?_;rintro e w2 ⟨ch,ci,x,a9,a_,rfl,c2,hx,a8,aD,ai,bO,ag⟩;obtain⟨av,bl,aE⟩:=aW hx a8 ai;clear hx a8 ai;have ca:=DV x ch 4 ci w2 av J bl.cells;obtain⟨N,b9⟩:=aC (kK (jM x));rw[b9]at ca;obtain⟨cx,dc⟩:=aB b9 ca;clear b9 ca;go_wp2_with fail;refine dc.mono ?_;rintro e w2 ⟨rfl,rfl⟩;have ac:=O (R.body2 aq ag);have a2:=ac.cell' (ay.Bv R.fit.hm R.fit.hcm);have aR:=ac.frozen 51;go_wp2_with fail;generalize ab:World.setCell w2 _ _=ad;have al:ah ad (w.heap.size+1) {r with epoch:=N}.v 101:=by rw[<-ab,<-ay.D6 r _ R.fit.hm R.fit.hcm];exact ac.set 51 (.int .i64 N)
    have an:aU w2 (w.heap.size+1) ad:=by rw[<-ab];exact aU.setCell _
    clear ab a2 aR;have a0:ay.Fit {r with epoch:=N}:={R.fit with};have ap:=bk.out _ _ _ _ (R.store (i:=5) aq ax a7 bu bv ag aD an al (oW (i:=5) R.took (by rw[<-cx.out,DW (by rw[Gs av.out];have:=(iW x 0).toNat_lt;omega)];exact Yb aE)) a0 F F F F F F F F)
    go_roundg a6
    case measure=>omega
    case rel=>exact ap
   ·skip
    go_wp2_with fail;refine(yH az ar w.heap.size g bj R.rd).mono ?_;rintro e w2 ⟨x,rfl,hx,a9,a_,aD,ai,bO,ag⟩;have aE:=O ai;clear ai;have ac:=O (R.body2 aq ag);have a2:=ac.cell' (ay.J8 R.fit.hm R.fit.hcm);have aR:=ac.frozen 52;go_wp2_with fail;generalize ab:World.setCell w2 _ _=ad;have al:ah ad (w.heap.size+1) {r with purpose:=(x:Int)}.v 101:=by rw[<-ab,<-ay.JY r _ R.fit.hm R.fit.hcm];exact ac.set 52 (.int .i64 (x:Int))
    have an:aU w2 (w.heap.size+1) ad:=by rw[<-ab];exact aU.setCell _
    clear ab a2 aR;have a0:ay.Fit {r with purpose:=(x:Int)}:={R.fit with};have ap:=bk.out _ _ _ _ (R.store (i:=6) aq ax a7 bu bv ag aD an al (oW (i:=6) R.took ((aE.map fun(x:Nat)=>({r.p with purpose:=(x:Int)}:bZ)).congr F)) a0 F F F F F F F F)
    go_roundg a6
    case measure=>omega
    case rel=>exact ap
   ·skip
    go_wp2_with fail;refine(yH az ar w.heap.size g bj R.rd).mono ?_;rintro e w2 ⟨x,rfl,hx,a9,a_,aD,ai,bO,ag⟩;have aE:=O ai;clear ai;have ac:=O (R.body2 aq ag);have a2:=ac.cell' (ay.PL R.fit.hm R.fit.hcm);have aR:=ac.frozen 53;go_wp2_with fail;generalize ab:World.setCell w2 _ _=ad;have al:ah ad (w.heap.size+1) {r with reason:=(x:Int)}.v 101:=by rw[<-ab,<-ay.JZ r _ R.fit.hm R.fit.hcm];exact ac.set 53 (.int .i64 (x:Int))
    have an:aU w2 (w.heap.size+1) ad:=by rw[<-ab];exact aU.setCell _
    clear ab a2 aR;have a0:ay.Fit {r with reason:=(x:Int)}:={R.fit with};have ap:=bk.out _ _ _ _ (R.store (i:=7) aq ax a7 bu bv ag aD an al (oW (i:=7) R.took ((aE.map fun(x:Nat)=>({r.p with reason:=(x:Int)}:bZ)).congr F)) a0 F F F F F F F F)
    go_roundg a6
    case measure=>omega
    case rel=>exact ap
   ·skip
    go_wp2_with fail;refine(yH az ar w.heap.size g bj R.rd).mono ?_;rintro e w2 ⟨x,rfl,hx,a9,a_,aD,ai,bO,ag⟩;have aE:=O ai;clear ai;have ac:=O (R.body2 aq ag);have a2:=ac.cell' (ay.J9 R.fit.hm R.fit.hcm);have aR:=ac.frozen 54;go_wp2_with fail;generalize ab:World.setCell w2 _ _=ad;have al:ah ad (w.heap.size+1) {r with need:=(x:Int)}.v 101:=by rw[<-ab,<-ay.J3 r _ R.fit.hm R.fit.hcm];exact ac.set 54 (.int .i64 (x:Int))
    have an:aU w2 (w.heap.size+1) ad:=by rw[<-ab];exact aU.setCell _
    clear ab a2 aR;have a0:ay.Fit {r with need:=(x:Int)}:={R.fit with};have ap:=bk.out _ _ _ _ (R.store (i:=8) aq ax a7 bu bv ag aD an al (oW (i:=8) R.took ((aE.map fun(x:Nat)=>({r.p with need:=(x:Int)}:bZ)).congr F)) a0 F F F F F F F F)
    go_roundg a6
    case measure=>omega
    case rel=>exact ap
   ·skip
    have cI:=R.nh em;have dp:=R.nr (fun h=>ep ⟨mem_of_mem_take h,ek⟩);go_wp2_with fail;refine(yH az ar w.heap.size g bj R.rd).mono ?_;rintro e ec ⟨a4,rfl,dy,bq,br,cN,cQ,fv,ax⟩;have de:=O cQ;have bz:=O R.fit;have cK:=R.body2 aq ax;have cB:Kv w g gi (gi+1) ((ae.take k).length+1) us r bq br 0 ec none 0 [] bq br:=⟨by rw[cI.eq];exact cK,R.res.grown ax (by simp;omega),cN,⟨fun h=>⟨h,F⟩,fun h=> .inl h⟩,R.ext.Ef ax J,F,(fun _ h=>by cases h),⟨F,.inl ⟨F,F⟩⟩,by rw[ax.block gi (Array.getElem?_eq_some_iff.1 R.it).1 (by simpa using a7)];exact R.it⟩;clear cN cQ cK;go_wp2_with fail;go_loopw [112] (fun i wr=>∃(k1:Nat) (a:aN) (c:Nat) (ls:List (aj)) (az:aj) (ar:Bool),k1<=a4/\i= .int .i64 (k1:Int)/\Kv w g gi (gi+1) ((ae.take k).length+1) us r bq br k1 wr a c ls az ar) (fun i _=>a4 - (intOf i).toNat)
    case atStart=>exact⟨0,none,0,[],bq,br,J,F,cB⟩
    case round=>
     obtain⟨k1,aL,aM,ls,cR,cT,dv,rfl,aa⟩:=hrel;clear cB;by_cases b':k1<a4
     ·have d9:decide ((k1:Int)<(a4:Int))=true:=aQ J;have d':decide (k1<a4)=true:=aQ b';obtain⟨C,b0,aJ,bP⟩:=kZ (I:=fun w'=>ah w' (w.heap.size+1) ({r with ha:=aL,hn:=k1,hc:=aM,bH:=ls}:ay).v 101) (fun _ _ bL bd=>(bL.ext bd)) (w:=wr) (aa.body);have eM:({r with ha:=aL,hn:=k1,hc:=aM,bH:=ls}:ay).v[57]? =some (.slice aL k1 aM):=ay.Ko (b:=({r with ha:=aL,hn:=k1,hc:=aM,bH:=ls}:ay)) bz.hm bz.hcm;have ee:=O eM;clear eM;go_upto_region 37 with(fail);refine jQ (W:=[9]) fun Z=> ?_;refine bK 0 ?_;refine eY 1 (fun eb h=>((b0 eb).1 h).cell' ee) ?_;refine bK 2 ?_;refine fC 3 ?_;intro aw af;go_wp2_with fail;refine(xG cR cT w.heap.size g 16 wr.drew J (aa.rd.ext (X.refl wr).drew)).mono ?_;rintro e a5 ⟨eA,eB,x,cl,co,rfl,eL,hx,bN,cc,b4,eT,b2⟩;have a3:wr.grownBy a5 (some g):=l9 (yC (sG wr _) (X.refl wr).drew) b2;have b8:ah a5 (w.heap.size+1) ({r with ha:=aL,hn:=k1,hc:=aM,bH:=ls}:ay).v 101:=aa.body.grown a3 (by simp;omega);replace Z:=(b0 a5).2 b8;obtain⟨f0,ga,rfl,fp⟩:=bN.cells.gQ (by rw[length_map,hx];omega);obtain⟨cs,av,bE,cA,OT⟩:=dM (dP.of bN.cells) hx (show(x.map Y).length=16 by rw[length_map];exact hx) b4 (yG aa.own fun i bw d3=>a3.block i d3 (by simp;omega));have fy:=a3.size;go_wp2_with fail;refine af _ _ Z ?_;clear af aw b2 hx bN b4 fp;refine aH ?_;refine fC 4 ?_;intro aw af;go_wp2_with (refine bF F (rC F F underlying29 bG _) ?_);refine af _ _ Z ?_;clear af aw;refine aH ?_;refine fC 5 ?_;intro aw af;go_wp2_with (refine bF F (bQ F F cs dh bE) ?_);refine af _ _ Z ?_;clear af aw;refine aH ?_;refine fC 6 ?_
      intro aw af;go_wp2_with (refine PK F F F av ?_);refine af _ _ (aJ _ _ Z ((X.refl a5).alloc _)) ?_;clear af aw;generalize ab:World.alloc a5 _=bc;have cS:ah bc a5.heap.size (x.map Y) 29:=by rw[<-ab];exact ah.aI F F
      have am:X a5 bc:=by rw[<-ab];exact(X.refl a5).alloc _
      have cJ:=aJ _ _ Z am;clear Z;have Z:=cJ;obtain⟨cC,b5,cD,ac,cq,cr⟩:=iq cS (dQ OT am) (cc.ext am) (b8.ext am) ((aa.res.grown a3 (by simp;omega)).ext am) ((aa.ext.Ef a3 J).ext am);have cL:=(Array.getElem?_eq_some_iff.1 aa.it).1;have cp:Hid (bc.heap[gi]? =some (.stringIter us ((ae.take k).length+1))):=O (by rw[am.block gi J,a3.block gi cL (by simpa using a7)];exact aa.it);have dm:gi+1<=bc.heap.size:=by have:=am.size;omega
      have c_:=O aa.took;have da:=O aa.len;have db:=O aa.h16;clear cJ ab cS am OT b8 cc a3 aa cL;refine aH ?_;refine fC 7 ?_;intro aw af;go_wp2_with (at_builtin;refine PI F _ _ F (gi+1) F F b5 av cC J dm ?_);intro fW ba ce g6;obtain⟨bm,bo,rfl⟩:=Gu ce;have bh:∀q,(Value.slice aL k1 aM).ownBlock=some q->gi+1<=q:=pG b5;have b7:ah ba (w.heap.size+1) ({r with ha:=aL,hn:=k1,hc:=aM,bH:=ls}:ay).v 101:=ac.grown g6 (fun e=>by have:=bh _ e.symm;omega);replace Z:=(b0 ba).2 b7;obtain⟨cz,ct,cv⟩:=aW (cq.grown g6 (fun e=>by have:=bh _ e.symm;omega)) (cD.Gl g6 (fun q cb=>by have:=bh _ cb;exact⟨J,J⟩)) (cr.grown g6 (fun q cb=>by have:=bh _ cb;omega));have cw:Hid (ba.heap[gi]? =some (.stringIter us ((ae.take k).length+1))):=O (by rw[g6.block gi J (fun e=>by have:=bh _ e.symm;omega)];exact cp);obtain⟨cy,bx⟩:=aB ce b7;clear ce g6 bh ac cq cD cr cp b5 cC b7;go_wp2_with fail;refine af _ _ Z ?_;clear af aw;refine aH ?_;refine bK 8 ?_;refine iU 9 ?_;intro aw af;have a2:=bx.cell' ee;have aR:=bx.frozen 57;go_wp2_with fail;generalize cd:World.setCell ba _ _=cf;have cE:ah cf (w.heap.size+1) ({r with ha:=bm,hn:=k1+1,hc:=bo,bH:=ls++[x]}:ay).v 101:=by
       rw[<-cd];have ao:=bx.set 57 (.slice bm (k1+1) bo);rw[ay.J6 {r with ha:=aL,hn:=k1,hc:=aM,bH:=ls} bm (k1+1) bo (ls++[x]) bz.hm bz.hcm]at ao;exact ao
      have bi:aU ba (w.heap.size+1) cf:=by rw[<-cd];exact aU.setCell _
      clear cd a2 aR;refine af _ _ trivial ?_;refine aH ?_;refine jR ?_;have cP:Kv w g gi (gi+1) ((ae.take k).length+1) us r bq br (k1+1) cf bm bo (ls++[x]) cl co:=
       ⟨cE,cz.upd bi J,ct.upd bi J J,Gp c_ cA,bi.ext cv J,by rw[length_append,da.out];rfl,
       fun s hs=>by
        rcases mem_append.1 hs with h|h
        ·exact db s h
        ·rw[mem_singleton.1 h];exact av,
       yG cy fun i bw _=>bi.block i J,by rw[bi.block gi J];exact cw⟩
      have dd:=O cP;clear cP bi cE cz ct cv cw cy bx;go_wp2_with fail;go_roundw
      case rel=>exact⟨k1+1,bm,bo,ls++[x],cl,co,J,by go_num,dd⟩
      case measure=>simp[intOf];omega
     ·have d9:decide ((k1:Int)<(a4:Int))=false:=aP J;have d':decide (k1<a4)=false:=aP b';have dx:k1=a4:=J;subst dx;have ap:=bk.out wr {r with ha:=aL,hn:=k1,hc:=aM,bH:=ls} cR cT
       ⟨aa.body,aa.res,aa.rd,Gq (i:=9) (b:=true) (fun dg ys=>{dg with bH:=ys}) cI.D9 (fun _ _=>rfl) R.took de aa.took,aa.ext,
        {bz with hl:=aa.len,hnc:=(bJ.xC aX aa.own).2.2,vZ:=Nat.le_of_lt dy,h16:=aa.h16},(.inl (by rw[dp.l];rfl)),(bJ.xC aX aa.own).1,fun h=>by
         have ao:=R.nr (fun hm=>h (by simp[hm]));exact⟨ao.a,ao.n,ao.c,ao.l⟩,fun h=>absurd aF h,by rw[aa.it,length_append];rfl⟩
      clear aa b' dv;go_wp2_with fail
      go_roundg a6
      case measure=>omega
      case rel=>exact ap
   ·skip
    go_wp2_with fail;refine(yH az ar w.heap.size g bj R.rd).mono ?_;rintro e w2 ⟨x,rfl,hx,a9,a_,aD,ai,bO,ag⟩;have aE:=O ai;clear ai;have ac:=O (R.body2 aq ag);have a2:=ac.cell' (ay.PN R.fit.hm R.fit.hcm);have aR:=ac.frozen 55;go_wp2_with fail;generalize ab:World.setCell w2 _ _=ad;have al:ah ad (w.heap.size+1) {r with version:=(x:Int)}.v 101:=by rw[<-ab,<-ay.J4 r _ R.fit.hm R.fit.hcm];exact ac.set 55 (.int .i64 (x:Int))
    have an:aU w2 (w.heap.size+1) ad:=by rw[<-ab];exact aU.setCell _
    clear ab a2 aR;have a0:ay.Fit {r with version:=(x:Int)}:={R.fit with};have ap:=bk.out _ _ _ _ (R.store (i:=10) aq ax a7 bu bv ag aD an al (oW (i:=10) R.took ((aE.map fun(x:Nat)=>({r.p with version:=(x:Int)}:bZ)).congr F)) a0 F F F F F F F F)
    go_roundg a6
    case measure=>omega
    case rel=>exact ap
   ·skip
    go_wp2_with fail;refine(xG az ar w.heap.size g 8 bj J R.rd).mono ?_;rintro e w2 ⟨ch,ci,x,a9,a_,rfl,c2,hx,a8,aD,ai,bO,ag⟩;obtain⟨av,bl,aE⟩:=aW hx a8 ai;clear hx a8 ai;have ca:=DV x ch 8 ci w2 av J bl.cells;obtain⟨N,b9⟩:=aC (kK (jM x));rw[b9]at ca;obtain⟨cx,dc⟩:=aB b9 ca;clear b9 ca;go_wp2_with fail;refine dc.mono ?_;rintro e w2 ⟨rfl,rfl⟩;have ac:=O (R.body2 aq ag);have a2:=ac.cell' (ay.J_ R.fit.hm R.fit.hcm);have aR:=ac.frozen 56;go_wp2_with fail;generalize ab:World.setCell w2 _ _=ad;have al:ah ad (w.heap.size+1) {r with count:=N}.v 101:=by rw[<-ab,<-ay.J5 r _ R.fit.hm R.fit.hcm];exact ac.set 56 (.int .i64 N)
    have an:aU w2 (w.heap.size+1) ad:=by rw[<-ab];exact aU.setCell _
    clear ab a2 aR;have a0:ay.Fit {r with count:=N}:={R.fit with};have ap:=bk.out _ _ _ _ (R.store (i:=11) aq ax a7 bu bv ag aD an al (oW (i:=11) R.took (by rw[<-cx.out];exact Ya aE)) a0 F F F F F F F F)
    go_roundg a6
    case measure=>omega
    case rel=>exact ap
  ·have ck:¬k<us.size:=by rw[eo.out];exact dE
   have b3:=be.it;rw[c4]at b3;have dC:∀ty,(Instr.next (.pointer (some ⟨gi,0,none⟩)) true ty).run prog wr=_:=fun ty=>Lib.run_next_end_at wr gi us k ty b3 ck;have eQ:ae.take k=ae:=take_of_length_le J;rw[eQ]at be;have bA:=O be;obtain⟨di,bS,dl,dq,fx, -,f9, -, -⟩:=be.rd;have d7:=dq.cell' (i:=0) (v:= .slice di bS dl) F;have k1:=dq.cell' (i:=1) (v:= .bool ar) F;have cY:=O be.took;have c0:=O be.res;have cX:=O be.ext;have b1:=O (show r.v.length=58 by unfold ay.v ay.t;simp[be.fit.hm,be.fit.hcm]);clear b3 eQ be c4 dq;cases ar with
   |true=>
    have eZ:jC kF ae kD l=none:=(cY.2 F).resolve_left aF;have a1:=bB.out;rw[eZ]at a1;simp only at a1;subst a1;clear bB cY eZ;go_wp2_with (refine bg F _ _ _ F F F c0 eP fM (xs:=dI.v) fM (lD dI) ?_);intro ba dj ea;go_wp2_with fail;exact iy F F dj eP fM F ⟨dI,F,rE,.inl F,.inl F,F,ea.ext cX bG⟩
   |false=>
   have e4:=(cY.1 F).2;have a1:=bB.out;rw[e4]at a1;simp only at a1;rw[fx]at a1;clear bB cY e4;by_cases cn:0<bS
   ·rw[if_pos cn]at a1;subst a1;have fm:decide (0<bS)=true:=aQ cn;have fn:decide ((0:Int)<(bS:Int))=true:=aQ J;clear cn;go_wp2_with (refine bg F _ _ _ F F F c0 eP fM (xs:=dI.v) fM (lD dI) ?_);intro ba dj ea;go_wp2_with fail;exact iy F F dj eP fM F ⟨dI,F,rE,.inl F,.inl F,F,ea.ext cX bG⟩
   rw[if_neg cn]at a1;have fm:decide (0<bS)=false:=aP cn;have fn:decide ((0:Int)<(bS:Int))=false:=aP J;have dr:=eJ.out r;rw[Gv bA.fit.rl bA.fit.hl]at dr;have c8:=O dr;generalize uh (K:Int) r.p=E at a1 c8;have bB:=O a1;have c7:=O bA.body;clear dr a1 cn eJ;go_wp2_with (refine bV F 101 (.tmp 6) F F c7 eP b1 ?_);refine(c8 wr (bA.fit.ok bA.jF bA.hhi)).mono ?_;rintro e ba ⟨rfl,cj⟩;obtain⟨ez,eh,fb,fi,fj⟩:=dM (c0.ext cj) (cX.ext cj) (c7.ext cj) (bA.jF.ext cj) (bA.hhi.ext cj);clear cj c0 cX c7 c8 d7 k1;by_cases d8:E=0
   ·subst d8;have a1:=bB.out;rw[if_pos F]at a1;subst a1;clear bB;go_wp2_with (first|(refine bV F 101 (.tmp 6) F F fb eP b1 ?_)|(refine bg F _ _ _ F F F ez eP fM (xs:=r.v) b1 (lD r) ?_));intro fX dk cU;go_wp2_with fail;exact iy F F dk eP b1 F ⟨r,F,bA.fit,(fi.upd cU J).lower J,(fj.upd cU J).lower J,F,cU.ext eh bG⟩
   ·have a1:=bB.out;rw[if_neg d8]at a1;subst a1;have f3:(E != 0)=true:=by simpa using d8
    clear bB;go_wp2_with (refine bg F _ _ _ F F F ez eP fM (xs:=dI.v) fM (lD dI) ?_);intro fX dk cU;go_wp2_with fail;exact iy F F dk eP fM F ⟨dI,F,rE,.inl F,.inl F,F,cU.ext eh bG⟩
end
end Go.Proofs.YtjlhhnkhcbpnjaaGreatDoor
