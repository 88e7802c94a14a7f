/- Laws that the row leans on; no condition. -/
import Derived.Test.YtjlhhnkhcbpnjaaGreatDoorJM14
namespace Go.Proofs.YtjlhhnkhcbpnjaaGreatDoor
open Go Go.RowKit List Tryz
set_option linter.unusedVariables false
set_option linter.unusedSimpArgs false
set_option maxHeartbeats 40000000
set_option maxRecDepth 100000
theorem aaF{z:Int}(h:1<=z/\z<=12):∃j:Nat,z=(j:Int)/\j<13/\(((⟨#[]⟩:ByteArray)::pR))[j]? =some (qH z):=by
 obtain⟨j,rfl⟩:∃j:Nat,z=(j:Int):=⟨z.toNat,J⟩;obtain⟨i,rfl⟩:∃i,j=i+1:=⟨j - 1,J⟩;refine⟨i+1,F,J,?_⟩;rw[List.getElem?_cons_succ];unfold qH;have u:i<pR.length:=by show i<12;omega
 rw[show(((i+1:Nat):Int) - 1).toNat=i by omega,getD_eq_getElem?_getD,List.getElem?_eq_getElem u];rfl
theorem aaG{r:aS}(h:jd r=0):(r.fr≠0∨r.tt≠0)↔r.fr≠r.tt:=by grind [jd,k6]
theorem SV{w:World}{p:Option Nat}{a:aN}{n:Nat}{xs:aO}(hc:aK w a xs)(u:xs.length=n)(E:∀q,p=some q->w.heap.size<=q):wO p a n:=by
 by_cases h:xs=[]
 ·left;rw[<-u,h];rfl
 ·obtain⟨A,j,I⟩:=U6 hc h;exact .inr ⟨A,j,fun e=>by have:=E _ e;omega⟩
theorem aaH{w:World}{B n c:Nat}{e:TypeId}{a:aN}{xs:aO}{p:Option Nat}(h:w.ownsRow B e 1 (.slice a n c) n xs)(u:∀q,p=some q->q<B):wO p a n:=by
 rcases h.2 with⟨_,hn⟩|⟨g,cap,cu,E,hb,_⟩
 ·left
  exact hn
 ·right
  injection E with j e2 I;refine⟨_,j,fun e=> ?_⟩;have R:g<B:=u g e;have aa:B<=g:=hb;omega
theorem o8.yQ{w wx wy:World}{G5 G6 B B2:Nat}{r:aS}{ws:aT}{a:aN}{c:Nat}{p:Option Nat}(h:o8 w G5 G6 B r ws a c wx)(g:wx.grownBy wy p)(j:∀q,p=some q->B2<=q)(I:w.heap.size<=B2)(ab:G5<B2)(ac:G6<B2)(E:∀q,(Value.slice a ws.length c).ownBlock=some q->q<B2):
 o8 w G5 G6 B r ws a c wy:=
 ⟨h.e.grown g (fun q u=>Nat.le_trans I (j q u)),h.b5.grown g (fun e=>by have:=j _ e.symm;omega),h.b6.grown g (fun e=>by have:=j _ e.symm;omega),um h.own g (fun q u e=>by have R:=j _ e;have aa:=E q u;omega),Nat.le_trans h.sz g.size⟩
theorem SX{nm:ByteArray}{ls:aT}{n:Nat}(h:ls.length<=n):(pY nm ls).length<=n+1:=by grind [pY]
theorem aaI(r:aS):Ci r=pY qE (r.acts.map qH):=by simp_all [Ci,pY]
theorem o8.mid{w wx wy:World}{G5 G6 B:Nat}{r:aS}{ws:aT}{a:aN}{c:Nat}(h:o8 w G5 G6 B r ws a c wx)(u:w.heap.size<=B)(g:wx.grownBy wy (Value.slice a ws.length c).ownBlock):
 X w wy/\ah wy G5 r.v 192/\ah wy G6 [.slice a ws.length c] 98:=
 ⟨h.e.grown g (fun q j=>Nat.le_trans u (h.own.lt q j).1),h.b5.besides h.own g aX,h.b6.besides h.own g aX⟩
theorem o8.put{w wx wy:World}{G5 G6 B:Nat}{r:aS}{ws news:aT}{a a':aN}{c c' m:Nat}(h:o8 w G5 G6 B r ws a c wx)(ae:w.heap.size<=B)(aa:G5≠G6)(ad:w.heap.size<=G6)(ab:news.length=m)
 (ac:wy.ownsRow B 9 1 (.slice a' (ws.length+m) c') (ws.length+m) (ws.map bM++news.map bM))(g:wx.grownBy wy (Value.slice a ws.length c).ownBlock):
 o8 w G5 G6 B r (ws++news) a' c' (wy.setCell ⟨G6,0,none⟩ (.slice a' (ws.length+m) c')):=by
 obtain⟨I,R,j⟩:=h.mid ae g;have u:aU wy G6 (wy.setCell ⟨G6,0,none⟩ (.slice a' (ws.length+m) c')):=aU.setCell _;have E:(ws++news).length=ws.length+m:=by rw[length_append,ab]
 refine⟨u.ext I ad,R.upd u aa,?_,?_,by rw[u.size];exact Nat.le_trans h.sz g.size⟩
 ·rw[E];exact j.set 0 _
 ·rw[E,map_append];exact n_ ac u j aX
theorem aaJ(cT:aN)(aw cU:Nat)(rs:List aS)(w:World)(b7:lG w cT aw cU rs)(cP:∀r∈rs,jd r=0)(eM:aw<=100)(dt:mJ w):
 nW 178 #[.agg #[.slice cT aw cU]] w (.string (aY (iR rs))):=by
 obtain⟨a9,HV,ch,c2,ci⟩:=dM b7 cP dt Ag RQ;have du:∀k,(iR (rs.take k)).length<=400100:=by
  intro k;have aq:=Sr (rs:=rs.take k) (W:=w) (fun r cM=>b7.ok r (mem_of_mem_take cM)) (fun r cM=>cP r (mem_of_mem_take cM));have an:(rs.take k).length<=100:=by rw[length_take];have:=b7.hl;omega
  have:(rs.take k).length*4001<=100*4001:=Nat.mul_le_mul_right _ an;omega
 have d8:=O du;clear b7 cP dt du;go_enter func178,ntmps178;go_upto_region 2 with fail;generalize iX:World.alloc w _=d4;have db:ah d4 w.heap.size [.slice cT aw cU] 152:=by rw[<-iX];exact ah.aI F F
 have di:X w d4:=by rw[<-iX];exact(X.refl w).alloc _
 have eJ:=db.cell' (i:=0) F;have EA:=O di;clear iX db di;go_wp2;go_loopw [3,14] (fun v i wr=>∃k:Nat,k<=aw/\i= .int .i64 (k:Int)/\v= .string (aY (iR (rs.take k)))/\X w wr) (fun _ i _=>aw - (intOf i).toNat)
 case atStart=>exact⟨0,J,F,F,EA⟩
 case round=>
  obtain⟨k,hk,rfl,rfl,E⟩:=hrel;have a2:=O E;clear E;by_cases j3:k<aw
  ·obtain⟨r,a8⟩:∃r,rs[k]? =some r:=⟨rs[k]'(by rw[a9.hl];exact j3),aF⟩;obtain⟨A,rfl,nu⟩:=(a9.ext a2).at a8;obtain⟨rz,c5,aa,c6⟩:=bU nu ((a9.ext a2).ok r (mem_of_getElem? a8)) (a9.ok r (mem_of_getElem? a8)) (HV r (mem_of_getElem? a8));obtain⟨af,c7,nA⟩:=aW (RU c5 c6) (aS.len r) (aag a8);have er:=nD r;have yD:=d8.out k;have e9:=af.n1;have cJ:=af.n2;have ep:=af.n3;clear nu a8;go_wp2_with (first|(refine bF F (fP (i:=k) F F F underlying150 Hl j3 _) ?_)|(refine bF F (bQ F F rz c2 c7) ?_)|(refine bg F _ (.tmp 5) _ F F F (ah.aI (vs:=BX) F F) c2 F c7 er ?_));intro wB cw d3;have ap:X wr wB:=d3.ext ((X.refl wr).alloc _) l5;obtain⟨br,cf⟩:=aB cw (a2.ext ap);have dr:wr.heap.size<wB.heap.size:=cw.lt;have ew:=a2.size;clear cw d3 ap rz a2 c5;obtain⟨G5,dm⟩:=aC wr.heap.size;rw[dm]at br dr ew⊢;clear dm;have cR:=br.cell' (i:=0) F;go_upto_region 6 with fail;generalize bm:World.alloc (World.alloc wB _) _=cb;have cv:ah cb G5 r.v 192:=by rw[<-bm];exact(br.alloc _).alloc _
   have bs:ah cb wB.heap.size [bM (AL false)] 9:=by rw[<-bm];exact(ah.aI F F).alloc _
   have bw:ah cb (wB.heap.size+1) [.slice (some ⟨wB.heap.size,0,none⟩) 1 1] 98:=by rw[<-bm];exact ah.aI (rQ _ _).symm rfl
   have dj:X wB cb:=by rw[<-bm];exact((X.refl wB).alloc _).alloc _
   obtain⟨S,b4⟩:=aC wB.heap.size;obtain⟨G6,cD⟩:=aC (wB.heap.size+1);have al:w.heap.size<=S:=by have:=cf.size;omega
   have bd:G5≠G6:=J;have eN:G5<S:=J;have bl:w.heap.size<=G6:=J;have e4:S+1=G6:=J;have cg:=O (cf.ext dj);rw[cD,b4]at bw;rw[b4]at bs;rw[cD,b4];obtain⟨cc,ce,cd⟩:=aW cv bs bw;have cR:=cv.cell' (i:=0) F;have k6:=bw.cell' (i:=0) F;have ks:=bs.cell' (i:=0) F;have em:=bs.frozen 0;clear bm cv bs bw dj b4 cD dr cf br;obtain⟨d,cH⟩:=aC r.deny;have d7:=O cH;rw[cH]at cR;clear cH;go_upto_if 20 with fail;go_cut [] (fun wx=>X w wx/\ah wx G5 r.v 192/\ah wx S [bM (AL d)] 9/\ah wx G6 [.slice (some ⟨S,0,none⟩) 1 1] 98)
   case first=>
    cases d with
    |false=>
     go_wp2_with fail;go_meet;exact⟨cg,cc,ce,cd⟩
    |true=>
     go_wp2_with fail;go_meet;exact⟨cg.set _ al,cc.qm _ _ (by show G5≠S;omega),ce.set 0 _,cd.qm _ _ (by show G6≠S;omega)⟩
   case rest=>
   obtain⟨cV,b9,cW,b'⟩:=hcut;obtain⟨d2,ag⟩:=aC wc;rw[ag]at cV b9 cW b'⊢;have eS:=b'.lt;have eR:=b9.lt;have cl:o8 w G5 G6 S r [AL d] (some ⟨S,0,none⟩) 1 d2:=⟨cV,b9,b',Z5 (rest:=[]) (by simpa using cW) aF F l5 l5 (by unfold maxLen;omega),J⟩;have bt:=O cl;have k1:=cl.b5.cell' (i:=1) (v:= .slice r.ra r.rn r.rc) F;clear ag wc cV b9 cW b' cl cg cc ce cd cR k6 ks em;go_upto_region 9 with fail;go_wp2_with fail;refine(LK w G5 G6 S r [AL d] (some ⟨S,0,none⟩) 1 sQ r.ra r.rn r.rc r.roles d2 bt al bd bl aa.rl aa.qZ (aa.nU.ext bt.e) (SV aa.nU (by rw[length_map];exact aa.rl) (fun q aE=>Nat.le_trans al (bt.own.lt q aE).1)) (by simp;omega)).mono ?_;rintro e cX ⟨rfl,cr,cx,cE⟩;have ax:=O cE;have k2:=cE.b5.cell' (i:=2) (v:= .slice r.aa r.an r.ac) F;have za:(pY sQ r.roles).length<=17:=by
    unfold pY;split
    ·simp
    ·rw[length_cons,aa.rl];omega
   obtain⟨ba,bz⟩:=aC ([AL d]++pY sQ r.roles);have ea:=O bz;have eV:ba.length<=18:=by rw[<-bz,length_append];simp only[length_cons,length_nil];omega
   rw[bz]at ax;have dk:G5<cX.heap.size:=ax.b5.lt;have dl:G6<cX.heap.size:=ax.b6.lt;obtain⟨B2,be⟩:=aC cX.heap.size;have c4:Hid (∀q,(Value.slice cr ba.length cx).ownBlock=some q->q<B2):=O (fun q aE=>by rw[<-be];exact(ax.own.lt q aE).2);have ev:w.heap.size<=B2:=by rw[<-be];exact ax.e.size
   rw[be]at dk dl;have d6:=O be;clear cE bt k1 za bz be;go_wp2_with fail;go_loopw [8,31] (fun v i c1=>∃(j:Nat) (a:aN) (c:Nat),j<=r.an/\i= .int .i64 (j:Int)/\v= .slice a j c/\c1.ownsRow B2 9 1 (.slice a j c) j (((r.acts.take j).map qH).map bM)/\o8 w G5 G6 S r ba cr cx c1/\B2<=c1.heap.size) (fun _ i _=>r.an - (intOf i).toNat)
   case atStart=>exact⟨0,none,0,J,F,F,⟨F,.inl ⟨F,F⟩⟩,ax,by rw[d6.out];exact Nat.le_refl _⟩
   case round=>
    obtain⟨j,a,c,e7,rfl,rfl,dE,dp,eQ⟩:=hrel;obtain⟨P,OW⟩:=aB dp dE;clear dE dp ax k2;by_cases b6:j<r.an
    ·have df:decide ((j:Int)<(r.an:Int))=true:=aQ J;have dg:decide (j<r.an)=true:=aQ b6;obtain⟨z,b8⟩:∃z,r.acts[j]? =some z:=⟨r.acts[j]'(by rw[aa.al];exact b6),aF⟩;have d1:=af.a1 z (mem_of_getElem? b8);obtain⟨eC,eo,nu⟩:∃A,r.aa=some A/\wr.cell? (A.add j)=some (.int .i64 z):=by
      obtain⟨g,o,e,h⟩:=(aa.mF.ext P.e).gQ (by rw[length_map,aa.al];omega);exact⟨_,e,by rw[dn];exact h j _ (by rw[List.getElem?_map,b8];rfl)⟩
     have bk:r.acts.take (j+1)=r.acts.take j++[z]:=by rw[take_add_one,b8];rfl
     have ef:=O bk;obtain⟨m,cI,e8,dy⟩:=aaF d1;obtain⟨d',eE⟩:=aB dy cI;clear b8 bk d1 dy;rw[eo];rw[cI]at nu;clear cI;go_wp2_with fail;refine(Ry wr).mono ?_;rintro e ai ⟨rfl,dq,E⟩;obtain⟨ej,c8⟩:=aB (P.ext E) (uF OW E);have e_:=E.size;have de:ai.cell? ⟨wr.heap.size,m,none⟩=some (.string (qH z)):=by
      obtain⟨b,o,b5,h⟩:=dq.gQ aX;have e2:b=wr.heap.size:=by simp at b5;exact b5.1.symm
      have bc:o=0:=by simp at b5;exact b5.2.symm
      have:=h m (.string (qH z)) (by rw[List.getElem?_map,d'.out];rfl);rw[e2,bc,Nat.zero_add]at this;exact this
     clear dq E P OW;obtain⟨x,cQ⟩:=aC (qH z);have eh:=O cQ;rw[cQ]at de;clear cQ;go_wp2_with (refine qB (n:=j) (m:=1) (c:=1) (xs:=((r.acts.take j).map qH).map bM) (news:=[.string x]) ci F _ _ F B2 F F (uF c8 ((X.refl _).alloc _)) F l5 (fun h=>by cases h) (aK.tO (ah.aI F F)) (fun u ar=>by simp at ar;rw[ar];rfl) J J (by rw[rQ];omega) ?_);intro e' v2 cS a7 cJ;obtain⟨cs,cy,rfl,_,_,_⟩:=iJ cS;obtain⟨cn,ei⟩:=aB ((ej.ext ((X.refl _).alloc _)).yQ a7 (fun q aE=>(c8.lt q aE).1) ev dk dl c4) cS;have et:=a7.size;rw[rQ]at et;clear cS a7 cJ de;go_wp2_with fail;go_roundw
     case rel=>exact⟨j+1,cs,cy,J,by go_num,F,by rw[ef.out,map_append,map_append];simp only[map_cons,map_nil];rw[eh.out];simp only[map_take,map_map];exact ei,cn,J⟩
     case measure=>simp[intOf];omega
    ·obtain rfl:j=r.an:=J;have df:decide ((r.an:Int)<(r.an:Int))=false:=aP J;have dg:decide (r.an<r.an)=false:=aP J;have bk:r.acts.take r.an=r.acts:=take_of_length_le (by have:=aa.al;omega);rw[bk]at OW;have dC:=aaH OW c4;obtain⟨ek,eL,cN,bj,_,bi⟩:=iJ OW;injection cN with E e2 bc;subst E;subst bc;have dv:(r.acts.map qH).length=r.an:=by rw[length_map,aa.al]
     have dT:=O (LK w G5 G6 S r ba cr cx qE a r.an c (r.acts.map qH) wr P al bd bl dv bj bi dC J);clear bk dC bj bi dv;go_wp2_with fail;refine dT.mono ?_;rintro e ey ⟨rfl,cs,cy,bx⟩;have k3:=bx.b5.cell' (i:=3) (v:= .slice r.la r.ln r.lc) F;have za:(pY qE (r.acts.map qH)).length<=17:=SX (by rw[length_map,aa.al];exact cJ);obtain⟨cq,b0⟩:=aC (ba++pY qE (r.acts.map qH));have eb:=O b0;have eW:cq.length<=35:=by rw[<-b0,length_append];omega
     rw[b0]at bx;have bu:=O bx;have d0:=O (LK w G5 G6 S r cq cs cy sS r.la r.ln r.lc r.labels ey bu al bd bl aa.ll aa.Eu (aa.sN.ext bu.e) (SV aa.sN (by rw[length_map];exact aa.ll) (fun q aE=>Nat.le_trans al (bu.own.lt q aE).1)) J);clear bx za b0 dT P OW df dg;go_wp2_with fail;refine d0.mono ?_;rintro e ca ⟨rfl,c9,dc,bh⟩;have za:(pY sS r.labels).length<=17:=SX (by rw[aa.ll];exact ep);obtain⟨a4,b1⟩:=aC (cq++pY sS r.labels);have ec:=O b1;have e0:a4.length<=52:=by rw[<-b1,length_append];omega
     rw[b1]at bh;have a3:=O bh;have k4:=bh.b5.cell' (i:=4) (v:= .int .i64 r.fr) F;have k5:=bh.b5.cell' (i:=5) (v:= .int .i64 r.tt) F;have c3:=O (aaG c6);clear bh za b1 d0 bu k3;go_upto_region 18 with fail;go_cut [57] (fun v wx=>v= .bool (decide (r.fr≠r.tt))/\wx=ca)
     case first=>
      by_cases ae:r.fr=0
      ·have ex:(r.fr != 0)=false:=by simp[ae]
       have n2:decide (r.fr=0)=true:=aQ ae;have cp:=O (show decide (r.fr≠r.tt)=decide (r.tt≠0)from decide_eq_decide.2 (by rw[<-c3.out];exact⟨fun h=>h.resolve_left (fun h=>h ae),.inr⟩));go_wp2_with fail;go_meet;exact⟨by rw[cp.out];first|rfl|(simp[bne,BEq.beq];done)|(congr 1;by_cases en:r.tt=0<;>simp[en]),F⟩
      ·have ex:(r.fr != 0)=true:=by simp[ae]
       have n2:decide (r.fr=0)=false:=aP ae;have cp:=O (show decide (r.fr≠r.tt)=true from aQ (c3.1 (.inl ae)));go_wp2_with fail;go_meet;exact⟨by rw[cp.out],F⟩
     case rest=>
     obtain⟨rfl,ag⟩:=hcut;rw[ag];clear ag wc;clear k4 k5;go_upto_if 57 with fail;go_cut [] (fun wx=>∃a c,o8 w G5 G6 S r (a4++uG r) a c wx)
     case first=>
      by_cases ae:r.fr=r.tt
      ·have cj:=O (show uG r=[] by unfold uG;rw[if_pos ae]);have g1:decide (r.fr≠r.tt)=false:=aP (fun h=>h ae);rw[g1];go_wp2_with fail;go_meet;exact⟨c9,dc,by rw[cj.out,append_nil];exact a3⟩
      ·have ck:=O (show uG r=[qF,Ce r.fr r.tt] by unfold uG;rw[if_neg ae]);have g1:decide (r.fr≠r.tt)=true:=aQ ae;rw[g1];go_upto_region 19 with fail;clear g1;obtain⟨C,iB,aJ,bP⟩:=kZ (I:=fun w'=>X w w'/\ah w' G5 r.v 192/\ah w' G6 [.slice c9 a4.length dc] 98) (fun _ _ aq an=>⟨aq.1.ext an,aq.2.1.ext an,aq.2.2.ext an⟩) (w:=ca) (⟨a3.e,a3.b5,a3.b6⟩);have e5:=ED af.f1.1 af.f1.2;have e6:=ED af.t1.1 af.t1.2;refine jQ (W:=[11]) fun Z=> ?_;refine bK 1 ?_;refine bK 5 ?_;refine eY 0 (fun ab h=>((iB ab).1 h).2.2.cell' (i:=0) F) ?_;refine eY 2 (fun ab h=>((iB ab).1 h).2.1.cell' (i:=4) (v:= .int .i64 r.fr) F) ?_;refine eY 6 (fun ab h=>((iB ab).1 h).2.1.cell' (i:=5) (v:= .int .i64 r.tt) F) ?_;refine fC 3 ?_;intro ad R;go_wp2_with fail;refine(wL r.fr _ (by have:=af.f1;omega) (by have:=af.f1;omega) (ch.ext ((iB _).1 Z).1).lw.pw).mono ?_;rintro e ai ⟨rfl,E⟩;have cm:=O (a3.ext (show X ca ai from((X.refl ca).drew).ext E));replace Z:=aJ _ _ Z E;go_wp2_with fail;refine R _ _ Z ?_;clear R ad E;refine aH ?_;refine FW 4 F (bf F (fun ab _=>jf (u:=Lib.itoa r.fr) (v:=[45]) F F F F (by simp;omega) ab)) ?_;refine fC 7 ?_;intro ad R;go_wp2_with fail;refine(wL r.tt _ (by have:=af.t1;omega) (by have:=af.t1;omega) (ch.ext ((iB _).1 Z).1).lw.pw).mono ?_;rintro e v2 ⟨rfl,E⟩;have cn:=O (cm.ext (show X ai v2 from E));replace Z:=aJ _ _ Z E;go_wp2_with fail;refine R _ _ Z ?_;clear R ad E;refine aH ?_;refine FW 8 F (bf F (fun ab _=>jf (u:=Lib.itoa r.fr++[45]) (v:=Lib.itoa r.tt) F F F F (by simp;omega) ab)) ?_;refine fC 9 ?_;intro ad R
       go_wp2_with fail;refine R _ _ (aJ _ _ Z ((X.refl _).alloc _)) ?_;clear R ad;generalize a0:World.alloc v2 _=v3;have bp:ah v3 v2.heap.size [bM qF,bM (Ce r.fr r.tt)] 9:=by rw[<-a0];exact ah.aI F F
       have ap:X v2 v3:=by rw[<-a0];exact(X.refl v2).alloc _
       obtain⟨ac,a_⟩:=aB (cn.ext ap) bp;replace Z:C v3:=(iB _).2 ⟨ac.e,ac.b5,ac.b6⟩;clear a0 bp ap;refine aH ?_;refine fC 10 ?_;intro ad R;go_wp2_with (at_builtin;refine qB (n:=a4.length) (m:=2) (c:=2) (xs:=a4.map bM) (news:=[bM qF,bM (Ce r.fr r.tt)]) ci F _ _ F S F F ac.own F l5 (fun h=>by cases h) (aK.tO a_) (fun u ar=>by simp only[mem_cons,not_mem_nil,or_false]at ar;rcases ar with rfl|rfl<;>rfl) J J ac.sz ?_);intro eA c0 a1 az cL;obtain⟨ct,cA,rfl,_,_,_⟩:=iJ a1;obtain⟨am,co⟩:=aB (ac.mid al az) (ac.put al bd bl (news:=[qF,Ce r.fr r.tt]) F a1 az);have cz:=am.2.2.cell' (i:=0) F;have cC:=am.2.2.frozen 0;replace Z:C c0:=(iB _).2 am;clear a1 az cL;go_wp2_with fail;refine R _ _ Z ?_;clear R ad;refine aH ?_;refine iU 11 ?_;intro ad R;go_wp2_with fail;refine R _ _ trivial ?_;clear R ad;refine aH ?_;refine jR ?_;clear Z aJ bP iB ac a_ am cz cC;go_wp2_with fail;go_meet;exact⟨ct,cA,by rw[ck.out];exact co⟩
     case rest=>
     obtain⟨c_,dd,cF⟩:=hcut;obtain⟨a5,b2⟩:=aC (a4++uG r);have ed:=O b2;rw[b2]at cF;have e1:a5.length<=54:=by
      rw[<-b2,length_append];have:(uG r).length<=2:=by unfold uG;split<;>simp
      omega
     obtain⟨cY,ag⟩:=aC wc;have ao:=O cF;rw[ag]at ao⊢;clear ag wc cF b2 a3;have k6:=ao.b5.cell' (i:=6) (v:= .int .i64 r.nd) F;go_upto_if 71 with fail;go_cut [] (fun wx=>∃a c,o8 w G5 G6 S r (a5++FE r) a c wx)
     case first=>
      by_cases ae:0<r.nd
      ·have ck:=O (show FE r=[qG,aY (Lib.itoa r.nd),r.ow] by unfold FE;rw[if_pos ae]);have a7:decide (0<r.nd)=true:=aQ ae;go_upto_region 21 with fail;clear a7 k6;obtain⟨C,iB,aJ,bP⟩:=kZ (I:=fun w'=>X w w'/\ah w' G5 r.v 192/\ah w' G6 [.slice c_ a5.length dd] 98) (fun _ _ aq an=>⟨aq.1.ext an,aq.2.1.ext an,aq.2.2.ext an⟩) (w:=cY) (⟨ao.e,ao.b5,ao.b6⟩);refine jQ (W:=[8]) fun Z=> ?_;refine bK 1 ?_;refine bK 4 ?_;refine eY 0 (fun ab h=>((iB ab).1 h).2.2.cell' (i:=0) F) ?_;refine eY 2 (fun ab h=>((iB ab).1 h).2.1.cell' (i:=6) (v:= .int .i64 r.nd) F) ?_;refine eY 5 (fun ab h=>((iB ab).1 h).2.1.cell' (i:=7) (v:= .string r.ow) F) ?_;refine fC 3 ?_;intro ad R;go_wp2_with fail;refine(wL r.nd _ (by have:=af.d1;omega) (by have:=af.d1;omega) (ch.ext ((iB _).1 Z).1).lw.pw).mono ?_;rintro e ai ⟨rfl,E⟩;have cm:=O (ao.ext (show X cY ai from((X.refl cY).drew).ext E));replace Z:=aJ _ _ Z E;go_wp2_with fail;refine R _ _ Z ?_;clear R ad E;refine aH ?_;refine fC 6 ?_;intro ad R;go_wp2_with fail;refine R _ _ (aJ _ _ Z ((X.refl _).alloc _)) ?_;clear R ad;generalize a0:World.alloc ai _=v2;have bp:ah v2 ai.heap.size [bM qG,bM (aY (Lib.itoa r.nd)),bM r.ow] 9:=by rw[<-a0];exact ah.aI F F
       have ap:X ai v2:=by rw[<-a0];exact(X.refl ai).alloc _
       obtain⟨ac,a_⟩:=aB (cm.ext ap) bp;replace Z:C v2:=(iB _).2 ⟨ac.e,ac.b5,ac.b6⟩;clear a0 bp ap;refine aH ?_;refine fC 7 ?_;intro ad R;go_wp2_with (at_builtin;refine qB (n:=a5.length) (m:=3) (c:=3) (xs:=a5.map bM) (news:=[bM qG,bM (aY (Lib.itoa r.nd)),bM r.ow]) ci F _ _ F S F F ac.own F l5 (fun h=>by cases h) (aK.tO a_) (fun u ar=>by simp only[mem_cons,not_mem_nil,or_false]at ar;rcases ar with rfl|rfl|rfl<;>rfl) J J ac.sz ?_);intro eA c0 a1 az cL;obtain⟨ct,cA,rfl,_,_,_⟩:=iJ a1;obtain⟨am,co⟩:=aB (ac.mid al az) (ac.put al bd bl (news:=[qG,aY (Lib.itoa r.nd),r.ow]) F a1 az);have cz:=am.2.2.cell' (i:=0) F;have cC:=am.2.2.frozen 0;replace Z:C c0:=(iB _).2 am;clear a1 az cL;go_wp2_with fail;refine R _ _ Z ?_;clear R ad;refine aH ?_;refine iU 8 ?_;intro ad R;go_wp2_with fail;refine R _ _ trivial ?_;clear R ad;refine aH ?_;refine jR ?_;clear Z aJ bP iB ac a_ am cz cC;go_wp2_with fail;go_meet;exact⟨ct,cA,by rw[ck.out];exact co⟩
      ·have cj:=O (show FE r=[] by unfold FE;rw[if_neg ae]);have a7:decide (0<r.nd)=false:=aP ae;go_wp2_with fail;go_meet;exact⟨c_,dd,by rw[cj.out,append_nil];exact ao⟩
     case rest=>
     obtain⟨da,el,cG⟩:=hcut;obtain⟨a6,b3⟩:=aC (a5++FE r);have ee:=O b3;rw[b3]at cG;have e3:a6.length<=57:=by
      rw[<-b3,length_append];have:(FE r).length<=3:=by unfold FE;split<;>simp
      omega
     obtain⟨ez,ag⟩:=aC wc;have bv:=O cG;rw[ag]at bv⊢;clear ag wc cG b3 ao k6;have bo:a6=wP r:=by
      rw[<-ee.out,<-ed.out,<-ec.out,<-eb.out,<-ea.out,<-d7.out];unfold wP;rw[aaI];rfl
     have b6:=RX aa af;obtain⟨ek,eK,cN,bj,_,bi⟩:=iJ bv.own;injection cN with E e2 bc;subst E;subst bc;obtain⟨ds,eI,eg⟩:=aW (fun ab (h:aK ab da (a6.map bM))=>KZ da a6.length el a6 ab F bj (by rw[bo];simp[wP]) J h (by rw[bo];exact Nat.le_trans b6 J)) bo (show Lib.join (a6.map (·.data.toList)) [32]=Ap r by rw[bo];rfl);have k6:=bv.b6.cell' (i:=0) F;clear bo bj;go_wp2_with fail;refine(ds ez bi).mono ?_;rintro e ai ⟨rfl,E⟩;have d5:=O (bv.e.ext E);rw[eg.out];clear E bi k6 ds;go_wp2_with (first|(refine bF F (jf (u:=Ap r) (v:=[10]) F F F F (by simp;omega) _) ?_)|(refine bF F (jf (u:=iR (rs.take k)) (v:=Ap r++[10]) F F F F (by simp;omega) _) ?_));go_roundw
     case rel=>exact⟨k+1,J,by go_num,by rw[nA.out,append_assoc],d5⟩
     case measure=>simp[intOf];omega
  ·obtain rfl:k=aw:=J;have om:rs.take k=rs:=take_of_length_le (by rw[a9.hl];exact Nat.le_refl _);rw[om];go_wp2_with fail;go_ret;exact⟨F,a2⟩
end Go.Proofs.YtjlhhnkhcbpnjaaGreatDoor
