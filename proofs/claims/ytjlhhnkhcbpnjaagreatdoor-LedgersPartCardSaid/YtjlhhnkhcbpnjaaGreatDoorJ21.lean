/- Laws that the row leans on; no condition. -/
import Derived.Test.YtjlhhnkhcbpnjaaGreatDoorJ20
namespace Go.Proofs.YtjlhhnkhcbpnjaaGreatDoor
open Go Go.RowKit List Tryz
set_option linter.unusedVariables false
set_option linter.unusedSectionVars false
set_option linter.unusedSimpArgs false
set_option maxHeartbeats 40000000
set_option maxRecDepth 100000
theorem aaF{z:Int}(h:1<=z/\z<=12):∃j:Nat,z=(j:Int)/\j<13/\(((⟨#[]⟩:ByteArray)::pR))[j]? =some (qH z):=by
 obtain⟨j,rfl⟩:∃j:Nat,z=(j:Int):=⟨z.toNat,J⟩;obtain⟨i,rfl⟩:∃i,j=i+1:=⟨j - 1,J⟩;refine⟨i+1,F,J,?_⟩;rw[List.getElem?_cons_succ];unfold qH;have u:i<pR.length:=by show i<12;omega
 rw[show(((i+1:Nat):Int) - 1).toNat=i by omega,getD_eq_getElem?_getD,List.getElem?_eq_getElem u];rfl
theorem aaG{r:aS}(h:jd r=0):(r.fr≠0∨r.tt≠0)↔r.fr≠r.tt:=by
 constructor
 ·intro j E;have hk:k6 r=false:=by
   unfold jd at h
   repeat' split at h
   all_goals first|(cases h;done)|skip
   all_goals (rename_i a b c d e f g;revert f;cases k6 r<;>simp)
  unfold k6 at hk;simp only[Bool.or_eq_false_iff,Bool.and_eq_false_iff,decide_eq_false_iff_not]at hk;obtain⟨⟨_,u⟩,_⟩:=hk;rcases u with u|u
  ·exact u E
  ·have:r.fr=0:=Classical.not_not.1 (by simpa using u);rcases j with j|j
   ·exact j this
   ·exact j (by rw[<-E];exact this)
 ·intro j;by_cases E:r.fr=0
  ·exact .inr (fun u=>j (by rw[E,u]))
  ·exact .inl E
theorem SV{w:World}{p:Option Nat}{a:aN}{n:Nat}{xs:aO}(hc:aK w a xs)(u:xs.length=n)(E:∀q,p=some q->w.heap.size<=q):wO p a n:=by
 by_cases h:xs=[]
 ·left;rw[<-u,h];rfl
 ·obtain⟨A,j,I⟩:=U6 hc h;exact .inr ⟨A,j,fun e=>by have:=E _ e;omega⟩
theorem aaH{w:World}{B n c:Nat}{e:TypeId}{a:aN}{xs:aO}{p:Option Nat}(h:w.ownsRow B e 1 (.slice a n c) n xs)(u:∀q,p=some q->q<B):wO p a n:=by
 rcases h.2 with⟨_,hn⟩|⟨g,I,cu,E,hb,_⟩
 ·left
  exact hn
 ·right
  injection E with j e2 R;refine⟨_,j,fun e=> ?_⟩;have aa:g<B:=u g e;have ab:B<=g:=hb;omega
theorem o8.yQ{w wx wy:World}{G5 G6 B B2:Nat}{r:aS}{ws:aT}{a:aN}{c:Nat}{p:Option Nat}(h:o8 w G5 G6 B r ws a c wx)(g:wx.grownBy wy p)(j:∀q,p=some q->B2<=q)(I:w.heap.size<=B2)(ab:G5<B2)(ac:G6<B2)(E:∀q,(Value.slice a ws.length c).ownBlock=some q->q<B2):
 o8 w G5 G6 B r ws a c wy:=
 ⟨h.e.grown g (fun q u=>Nat.le_trans I (j q u)),h.b5.grown g (fun e=>by have:=j _ e.symm;omega),h.b6.grown g (fun e=>by have:=j _ e.symm;omega),um h.own g (fun q u e=>by have R:=j _ e;have aa:=E q u;omega),Nat.le_trans h.sz g.size⟩
theorem SX{nm:ByteArray}{j:aT}{n:Nat}(h:j.length<=n):(pY nm j).length<=n+1:=by
 unfold pY;split
 ·simp
 ·rw[length_cons];omega
theorem aaI(r:aS):Ci r=pY qE (r.acts.map qH):=by
 unfold Ci pY;by_cases h:r.acts=[]
 ·rw[if_pos h,h];rfl
 ·rw[if_neg h,if_neg (fun e=>h (map_eq_nil_iff.1 e))]
theorem o8.mid{w wx wy:World}{G5 G6 B:Nat}{r:aS}{ws:aT}{a:aN}{c:Nat}(h:o8 w G5 G6 B r ws a c wx)(u:w.heap.size<=B)(g:wx.grownBy wy (Value.slice a ws.length c).ownBlock):
 X w wy/\ah wy G5 r.v 192/\ah wy G6 [.slice a ws.length c] 98:=
 ⟨h.e.grown g (fun q j=>Nat.le_trans u (h.own.lt q j).1),h.b5.besides h.own g aX,h.b6.besides h.own g aX⟩
theorem o8.put{w wx wy:World}{G5 G6 B:Nat}{r:aS}{ws news:aT}{a a':aN}{c c' m:Nat}(h:o8 w G5 G6 B r ws a c wx)(ae:w.heap.size<=B)(aa:G5≠G6)(ad:w.heap.size<=G6)(ab:news.length=m)
 (ac:wy.ownsRow B 9 1 (.slice a' (ws.length+m) c') (ws.length+m) (ws.map bM++news.map bM))(g:wx.grownBy wy (Value.slice a ws.length c).ownBlock):
 o8 w G5 G6 B r (ws++news) a' c' (wy.setCell ⟨G6,0,none⟩ (.slice a' (ws.length+m) c')):=by
 obtain⟨I,R,j⟩:=h.mid ae g;have u:aU wy G6 (wy.setCell ⟨G6,0,none⟩ (.slice a' (ws.length+m) c')):=aU.setCell _;have E:(ws++news).length=ws.length+m:=by rw[length_append,ab]
 refine⟨u.ext I ad,R.upd u aa,?_,?_,by rw[u.size];exact Nat.le_trans h.sz g.size⟩
 ·rw[E];exact j.set 0 _
 ·rw[E,map_append];exact n_ ac u j aX
theorem aaJ(c0:aN)(az c1:Nat)(rs:List aS)(w:World)(cb:lG w c0 az c1 rs)(cU:∀r∈rs,jd r=0)(e6:az<=100)(d0:mJ w):
 Calls prog 178 #[.agg #[.slice c0 az c1]] w fun e w'=>e= .returned (.string (aY (iR rs)))/\X w w':=by
 obtain⟨bc,et,cm,c8,cn⟩:=dM cb cU d0 Ag RQ;have d1:∀k,(iR (rs.take k)).length<=400100:=by
  intro k;have aw:=Sr (rs:=rs.take k) (W:=w) (fun r cS=>cb.ok r (mem_of_mem_take cS)) (fun r cS=>cU r (mem_of_mem_take cS));have ap:(rs.take k).length<=100:=by rw[length_take];have:=cb.hl;omega
  have:(rs.take k).length*4001<=100*4001:=Nat.mul_le_mul_right _ ap;omega
 have eh:=O d1;clear cb cU d0 d1;go_enter func178,ntmps178;go_upto_region 2 with fail;generalize cV:World.alloc w _=ec;have dj:ah ec w.heap.size [.slice c0 az c1] 152:=by rw[<-cV];exact ah.aI F F
 have dr:X w ec:=by rw[<-cV];exact(X.refl w).alloc _
 have e3:=dj.cell' (i:=0) F;have ed:=O dr;clear cV dj dr;go_wp2;go_loopw [3,14] (fun v i wr=>∃k:Nat,k<=az/\i= .int .i64 (k:Int)/\v= .string (aY (iR (rs.take k)))/\X w wr) (fun _ i _=>az - (intOf i).toNat)
 case atStart=>exact⟨0,J,F,F,ed⟩
 case round=>
  obtain⟨k,hk,rfl,rfl,E⟩:=hrel;have a4:=O E;clear E;by_cases d2:k<az
  ·obtain⟨r,ba⟩:∃r,rs[k]? =some r:=⟨rs[k]'(by rw[bc.hl];exact d2),aF⟩;obtain⟨A,rfl,b9⟩:=(bc.ext a4).at ba;obtain⟨c9,db,aa,dc⟩:=bU b9 ((bc.ext a4).ok r (mem_of_getElem? ba)) (bc.ok r (mem_of_getElem? ba)) (et r (mem_of_getElem? ba));obtain⟨ag,dd,eo⟩:=aW (RU db dc) (aS.len r) (aag ba);have eK:=nD r;have fi:=eh.out k;have fk:=ag.n1;have cQ:=ag.n2;have eJ:=ag.n3;clear b9 ba;go_wp2_with (first|(refine bF F (fP (i:=k) F F F underlying150 Hl d2 _) ?_)|(refine bF F (bQ F F c9 c8 dd) ?_)|(refine bg F _ (.tmp 5) _ F F F (ah.aI (vs:=BX) F F) c8 F dd eK ?_));intro an cC eb;have ar:X wr an:=eb.ext ((X.refl wr).alloc _) bG;obtain⟨bw,ck⟩:=aB cC (a4.ext ar);have dE:wr.heap.size<an.heap.size:=cC.lt;have eN:=a4.size;clear cC eb ar c9 a4 db;obtain⟨G5,dv⟩:=aC wr.heap.size;rw[dv]at bw dE eN⊢;clear dv;have cX:=bw.cell' (i:=0) F;go_upto_region 6 with fail;generalize bt:World.alloc (World.alloc an _) _=cg;have cA:ah cg G5 r.v 192:=by rw[<-bt];exact(bw.alloc _).alloc _
   have bs:ah cg an.heap.size [bM (AL false)] 9:=by rw[<-bt];exact(ah.aI F F).alloc _
   have b1:ah cg (an.heap.size+1) [.slice (some ⟨an.heap.size,0,none⟩) 1 1] 98:=by rw[<-bt];exact ah.aI (rQ _ _).symm rfl
   have ds:X an cg:=by rw[<-bt];exact((X.refl an).alloc _).alloc _
   obtain⟨S,b8⟩:=aC an.heap.size;obtain⟨G6,cI⟩:=aC (an.heap.size+1);have am:w.heap.size<=S:=by have:=ck.size;omega
   have bi:G5≠G6:=J;have e7:G5<S:=J;have br:w.heap.size<=G6:=J;have fe:S+1=G6:=J;have cl:=O (ck.ext ds);rw[cI,b8]at b1;rw[b8]at bs;rw[cI,b8];obtain⟨ch,cj,ci⟩:=aW cA bs b1;have cX:=cA.cell' (i:=0) F;have k6:=b1.cell' (i:=0) F;have ks:=bs.cell' (i:=0) F;have eA:=bs.frozen 0;clear bt cA bs b1 ds b8 cI dE ck bw;obtain⟨d,cN⟩:=aC r.deny;have eg:=O cN;rw[cN]at cX;clear cN;go_upto_if 20 with fail;go_cut [] (fun wx=>X w wx/\ah wx G5 r.v 192/\ah wx S [bM (AL d)] 9/\ah wx G6 [.slice (some ⟨S,0,none⟩) 1 1] 98)
   case first=>
    cases d with
    |false=>
     go_wp2_with fail;go_meet;exact⟨cl,ch,cj,ci⟩
    |true=>
     go_wp2_with fail;go_meet;exact⟨cl.set _ am,ch.qm _ _ (by show G5≠S;omega),cj.set 0 _,ci.qm _ _ (by show G6≠S;omega)⟩
   case rest=>
   obtain⟨c2,cd,c3,ce⟩:=hcut;obtain⟨ea,ai⟩:=aC wc;rw[ai]at c2 cd c3 ce⊢;have e_:=ce.lt;have e9:=cd.lt;have cq:o8 w G5 G6 S r [AL d] (some ⟨S,0,none⟩) 1 ea:=⟨c2,cd,ce,Z5 (rest:=[]) (by simpa using c3) aF F bG bG (by unfold maxLen;omega),J⟩;have bx:=O cq;have k1:=cq.b5.cell' (i:=1) (v:= .slice r.ra r.rn r.rc) F;clear ai wc c2 cd c3 ce cq cl ch cj ci cX k6 ks eA;go_upto_region 9 with fail;go_wp2_with fail;refine(LK w G5 G6 S r [AL d] (some ⟨S,0,none⟩) 1 sQ r.ra r.rn r.rc r.roles ea bx am bi br aa.rl aa.qZ (aa.nU.ext bx.e) (SV aa.nU (by rw[length_map];exact aa.rl) (fun q a1=>Nat.le_trans am (bx.own.lt q a1).1)) (by simp;omega)).mono ?_;rintro e c4 ⟨rfl,cx,cD,cJ⟩;have aE:=O cJ;have k2:=cJ.b5.cell' (i:=2) (v:= .slice r.aa r.an r.ac) F;have bo:(pY sQ r.roles).length<=17:=by
    unfold pY;split
    ·simp
    ·rw[length_cons,aa.rl];omega
   obtain⟨be,b3⟩:=aC ([AL d]++pY sQ r.roles);have ej:=O b3;have e':be.length<=18:=by rw[<-b3,length_append];simp only[length_cons,length_nil];omega
   rw[b3]at aE;have dt:G5<c4.heap.size:=aE.b5.lt;have du:G6<c4.heap.size:=aE.b6.lt;obtain⟨B2,bj⟩:=aC c4.heap.size;have da:Hid (∀q,(Value.slice cx be.length cD).ownBlock=some q->q<B2):=O (fun q a1=>by rw[<-bj];exact(aE.own.lt q a1).2);have eM:w.heap.size<=B2:=by rw[<-bj];exact aE.e.size
   rw[bj]at dt du;have ef:=O bj;clear cJ bx k1 bo b3 bj;go_wp2_with fail;go_loopw [8,31] (fun v i c7=>∃(j:Nat) (a:aN) (c:Nat),j<=r.an/\i= .int .i64 (j:Int)/\v= .slice a j c/\c7.ownsRow B2 9 1 (.slice a j c) j (((r.acts.take j).map qH).map bM)/\o8 w G5 G6 S r be cx cD c7/\B2<=c7.heap.size) (fun _ i _=>r.an - (intOf i).toNat)
   case atStart=>exact⟨0,none,0,J,F,F,⟨F,.inl ⟨F,F⟩⟩,aE,by rw[ef.out];exact Nat.le_refl _⟩
   case round=>
    obtain⟨j,a,c,fh,rfl,rfl,d6,dy,e8⟩:=hrel;obtain⟨P,a6⟩:=aB dy d6;clear d6 dy aE k2;by_cases ca:j<r.an
    ·have dp:decide ((j:Int)<(r.an:Int))=true:=aQ J;have dq:decide (j<r.an)=true:=aQ ca;obtain⟨z,cc⟩:∃z,r.acts[j]? =some z:=⟨r.acts[j]'(by rw[aa.al];exact ca),aF⟩;have d':=ag.a1 z (mem_of_getElem? cc);obtain⟨eW,eE,b9⟩:∃A,r.aa=some A/\wr.cell? (A.add j)=some (.int .i64 z):=by
      obtain⟨g,o,e,h⟩:=(aa.mF.ext P.e).gQ (by rw[length_map,aa.al];omega);exact⟨_,e,by rw[dn];exact h j _ (by rw[List.getElem?_map,cc];rfl)⟩
     have bp:r.acts.take (j+1)=r.acts.take j++[z]:=by rw[take_add_one,cc];rfl
     have ep:=O bp;obtain⟨m,cP,fj,d4⟩:=aaF d';obtain⟨ei,e0⟩:=aB d4 cP;clear cc bp d' d4;rw[eE];rw[cP]at b9;clear cP;go_wp2_with fail;refine(Ry wr).mono ?_;rintro e al ⟨rfl,dC,E⟩;obtain⟨ex,de⟩:=aB (P.ext E) (uF a6 E);have fl:=E.size;have dm:al.cell? ⟨wr.heap.size,m,none⟩=some (.string (qH z)):=by
      obtain⟨b,o,b',h⟩:=dC.gQ aX;have e2:b=wr.heap.size:=by simp at b';exact b'.1.symm
      have bh:o=0:=by simp at b';exact b'.2.symm
      have:=h m (.string (qH z)) (by rw[List.getElem?_map,ei.out];rfl);rw[e2,bh,Nat.zero_add]at this;exact this
     clear dC E P a6;obtain⟨x,cW⟩:=aC (qH z);have ev:=O cW;rw[cW]at dm;clear cW;go_wp2_with (refine qB (n:=j) (m:=1) (c:=1) (xs:=((r.acts.take j).map qH).map bM) (news:=[.string x]) cn F _ _ F B2 F F (uF de ((X.refl _).alloc _)) F bG (fun h=>by cases h) (aK.eG (ah.aI F F)) (fun u ax=>by simp at ax;rw[ax];rfl) J J (by rw[rQ];omega) ?_);intro fm v2 cY a_ cQ;obtain⟨cy,cE,rfl,_,_,_⟩:=iJ cY;obtain⟨cs,ew⟩:=aB ((ex.ext ((X.refl _).alloc _)).yQ a_ (fun q a1=>(de.lt q a1).1) eM dt du da) cY;have eL:=a_.size;rw[rQ]at eL;clear cY a_ cQ dm;go_wp2_with fail;go_roundw
     case rel=>exact⟨j+1,cy,cE,J,by go_num,F,by rw[ep.out,map_append,map_append];simp only[map_cons,map_nil];rw[ev.out];simp only[map_take,map_map];exact ew,cs,J⟩
     case measure=>simp[intOf];omega
    ·obtain rfl:j=r.an:=J;have dp:decide ((r.an:Int)<(r.an:Int))=false:=aP J;have dq:decide (r.an<r.an)=false:=aP J;have bp:r.acts.take r.an=r.acts:=take_of_length_le (by have:=aa.al;omega);rw[bp]at a6;have d5:=aaH a6 da;obtain⟨ey,e5,cT,bm,_,bl⟩:=iJ a6;injection cT with E e2 bh;subst E;subst bh;have d3:(r.acts.map qH).length=r.an:=by rw[length_map,aa.al]
     have d7:=O (LK w G5 G6 S r be cx cD qE a r.an c (r.acts.map qH) wr P am bi br d3 bm bl d5 J);clear bp d5 bm bl d3;go_wp2_with fail;refine d7.mono ?_;rintro e eR ⟨rfl,cy,cE,b2⟩;have k3:=b2.b5.cell' (i:=3) (v:= .slice r.la r.ln r.lc) F;have bo:(pY qE (r.acts.map qH)).length<=17:=SX (by rw[length_map,aa.al];exact cQ);obtain⟨cw,b4⟩:=aC (be++pY qE (r.acts.map qH));have ek:=O b4;have fa:cw.length<=35:=by rw[<-b4,length_append];omega
     rw[b4]at b2;have bz:=O b2;have d8:=O (LK w G5 G6 S r cw cy cE sS r.la r.ln r.lc r.labels eR bz am bi br aa.ll aa.Eu (aa.sN.ext bz.e) (SV aa.sN (by rw[length_map];exact aa.ll) (fun q a1=>Nat.le_trans am (bz.own.lt q a1).1)) J);clear b2 bo b4 d7 P a6 dp dq;go_wp2_with fail;refine d8.mono ?_;rintro e cf ⟨rfl,df,dk,bk⟩;have bo:(pY sS r.labels).length<=17:=SX (by rw[aa.ll];exact eJ);obtain⟨a7,b5⟩:=aC (cw++pY sS r.labels);have el:=O b5;have fb:a7.length<=52:=by rw[<-b5,length_append];omega
     rw[b5]at bk;have a5:=O bk;have k4:=bk.b5.cell' (i:=4) (v:= .int .i64 r.fr) F;have k5:=bk.b5.cell' (i:=5) (v:= .int .i64 r.tt) F;have c_:=O (aaG dc);clear bk bo b5 d8 bz k3;go_upto_region 18 with fail;go_cut [57] (fun v wx=>v= .bool (decide (r.fr≠r.tt))/\wx=cf)
     case first=>
      by_cases af:r.fr=0
      ·have eQ:(r.fr != 0)=false:=by simp[af]
       have n2:decide (r.fr=0)=true:=aQ af;have cv:=O (show decide (r.fr≠r.tt)=decide (r.tt≠0)from decide_eq_decide.2 (by rw[<-c_.out];exact⟨fun h=>h.resolve_left (fun h=>h af),.inr⟩));go_wp2_with fail;go_meet;exact⟨by rw[cv.out];first|rfl|(simp[bne,BEq.beq];done)|(congr 1;by_cases eC:r.tt=0<;>simp[eC]),F⟩
      ·have eQ:(r.fr != 0)=true:=by simp[af]
       have n2:decide (r.fr=0)=false:=aP af;have cv:=O (show decide (r.fr≠r.tt)=true from aQ (c_.1 (.inl af)));go_wp2_with fail;go_meet;exact⟨by rw[cv.out],F⟩
     case rest=>
     obtain⟨rfl,ai⟩:=hcut;rw[ai];clear ai wc;clear k4 k5;go_upto_if 57 with fail;go_cut [] (fun wx=>∃a c,o8 w G5 G6 S r (a7++uG r) a c wx)
     case first=>
      by_cases af:r.fr=r.tt
      ·have co:=O (show uG r=[] by unfold uG;rw[if_pos af]);have g1:decide (r.fr≠r.tt)=false:=aP (fun h=>h af);rw[g1];go_wp2_with fail;go_meet;exact⟨df,dk,by rw[co.out,append_nil];exact a5⟩
      ·have cp:=O (show uG r=[qF,Ce r.fr r.tt] by unfold uG;rw[if_neg af]);have g1:decide (r.fr≠r.tt)=true:=aQ af;rw[g1];go_upto_region 19 with fail;clear g1;obtain⟨C,ae,aJ,bP⟩:=kZ (I:=fun w'=>X w w'/\ah w' G5 r.v 192/\ah w' G6 [.slice df a7.length dk] 98) (fun _ _ aw ap=>⟨aw.1.ext ap,aw.2.1.ext ap,aw.2.2.ext ap⟩) (w:=cf) (⟨a5.e,a5.b5,a5.b6⟩);have ff:=ED ag.f1.1 ag.f1.2;have fg:=ED ag.t1.1 ag.t1.2;refine jQ (W:=[11]) fun Z=> ?_;refine bK 1 ?_;refine bK 5 ?_;refine eY 0 (fun ab h=>((ae ab).1 h).2.2.cell' (i:=0) F) ?_;refine eY 2 (fun ab h=>((ae ab).1 h).2.1.cell' (i:=4) (v:= .int .i64 r.fr) F) ?_;refine eY 6 (fun ab h=>((ae ab).1 h).2.1.cell' (i:=5) (v:= .int .i64 r.tt) F) ?_;refine fC 3 ?_;intro ad R;go_wp2_with fail;refine(wL r.fr _ (by have:=ag.f1;omega) (by have:=ag.f1;omega) (cm.ext ((ae _).1 Z).1).lw.pw).mono ?_;rintro e al ⟨rfl,E⟩;have cr:=O (a5.ext (show X cf al from((X.refl cf).drew).ext E));replace Z:=aJ _ _ Z E;go_wp2_with fail;refine R _ _ Z ?_;clear R ad E;refine aH ?_;refine FW 4 F (bf F (fun ab _=>jf (u:=Lib.itoa r.fr) (v:=[45]) F F F F (by simp;omega) ab)) ?_;refine fC 7 ?_;intro ad R;go_wp2_with fail;refine(wL r.tt _ (by have:=ag.t1;omega) (by have:=ag.t1;omega) (cm.ext ((ae _).1 Z).1).lw.pw).mono ?_;rintro e v2 ⟨rfl,E⟩;have cs:=O (cr.ext (show X al v2 from E));replace Z:=aJ _ _ Z E;go_wp2_with fail;refine R _ _ Z ?_;clear R ad E;refine aH ?_;refine FW 8 F (bf F (fun ab _=>jf (u:=Lib.itoa r.fr++[45]) (v:=Lib.itoa r.tt) F F F F (by simp;omega) ab)) ?_;refine fC 9 ?_;intro ad R
       go_wp2_with fail;refine R _ _ (aJ _ _ Z ((X.refl _).alloc _)) ?_;clear R ad;generalize a2:World.alloc v2 _=v3;have bv:ah v3 v2.heap.size [bM qF,bM (Ce r.fr r.tt)] 9:=by rw[<-a2];exact ah.aI F F
       have ar:X v2 v3:=by rw[<-a2];exact(X.refl v2).alloc _
       obtain⟨ac,bd⟩:=aB (cs.ext ar) bv;replace Z:C v3:=(ae _).2 ⟨ac.e,ac.b5,ac.b6⟩;clear a2 bv ar;refine aH ?_;refine fC 10 ?_;intro ad R;go_wp2_with (at_builtin;refine qB (n:=a7.length) (m:=2) (c:=2) (xs:=a7.map bM) (news:=[bM qF,bM (Ce r.fr r.tt)]) cn F _ _ F S F F ac.own F bG (fun h=>by cases h) (aK.eG bd) (fun u ax=>by simp only[mem_cons,not_mem_nil,or_false]at ax;rcases ax with rfl|rfl<;>rfl) J J ac.sz ?_);intro eV c6 a3 a0 cR;obtain⟨cz,cG,rfl,_,_,_⟩:=iJ a3;obtain⟨ao,ct⟩:=aB (ac.mid am a0) (ac.put am bi br (news:=[qF,Ce r.fr r.tt]) F a3 a0);have cF:=ao.2.2.cell' (i:=0) F;have cH:=ao.2.2.frozen 0;replace Z:C c6:=(ae _).2 ao;clear a3 a0 cR;go_wp2_with fail;refine R _ _ Z ?_;clear R ad;refine aH ?_;refine iU 11 ?_;intro ad R;go_wp2_with fail;refine R _ _ trivial ?_;clear R ad;refine aH ?_;refine jR ?_;clear Z aJ bP ae ac bd ao cF cH;go_wp2_with fail;go_meet;exact⟨cz,cG,by rw[cp.out];exact ct⟩
     case rest=>
     obtain⟨dg,dl,cL⟩:=hcut;obtain⟨a8,b6⟩:=aC (a7++uG r);have em:=O b6;rw[b6]at cL;have fc:a8.length<=54:=by
      rw[<-b6,length_append];have:(uG r).length<=2:=by unfold uG;split<;>simp
      omega
     obtain⟨c5,ai⟩:=aC wc;have aq:=O cL;rw[ai]at aq⊢;clear ai wc cL b6 a5;have k6:=aq.b5.cell' (i:=6) (v:= .int .i64 r.nd) F;go_upto_if 71 with fail;go_cut [] (fun wx=>∃a c,o8 w G5 G6 S r (a8++uH r) a c wx)
     case first=>
      by_cases af:0<r.nd
      ·have cp:=O (show uH r=[qG,aY (Lib.itoa r.nd),r.ow] by unfold uH;rw[if_pos af]);have a_:decide (0<r.nd)=true:=aQ af;go_upto_region 21 with fail;clear a_ k6;obtain⟨C,ae,aJ,bP⟩:=kZ (I:=fun w'=>X w w'/\ah w' G5 r.v 192/\ah w' G6 [.slice dg a8.length dl] 98) (fun _ _ aw ap=>⟨aw.1.ext ap,aw.2.1.ext ap,aw.2.2.ext ap⟩) (w:=c5) (⟨aq.e,aq.b5,aq.b6⟩);refine jQ (W:=[8]) fun Z=> ?_;refine bK 1 ?_;refine bK 4 ?_;refine eY 0 (fun ab h=>((ae ab).1 h).2.2.cell' (i:=0) F) ?_;refine eY 2 (fun ab h=>((ae ab).1 h).2.1.cell' (i:=6) (v:= .int .i64 r.nd) F) ?_;refine eY 5 (fun ab h=>((ae ab).1 h).2.1.cell' (i:=7) (v:= .string r.ow) F) ?_;refine fC 3 ?_;intro ad R;go_wp2_with fail;refine(wL r.nd _ (by have:=ag.d1;omega) (by have:=ag.d1;omega) (cm.ext ((ae _).1 Z).1).lw.pw).mono ?_;rintro e al ⟨rfl,E⟩;have cr:=O (aq.ext (show X c5 al from((X.refl c5).drew).ext E));replace Z:=aJ _ _ Z E;go_wp2_with fail;refine R _ _ Z ?_;clear R ad E;refine aH ?_;refine fC 6 ?_;intro ad R;go_wp2_with fail;refine R _ _ (aJ _ _ Z ((X.refl _).alloc _)) ?_;clear R ad;generalize a2:World.alloc al _=v2;have bv:ah v2 al.heap.size [bM qG,bM (aY (Lib.itoa r.nd)),bM r.ow] 9:=by rw[<-a2];exact ah.aI F F
       have ar:X al v2:=by rw[<-a2];exact(X.refl al).alloc _
       obtain⟨ac,bd⟩:=aB (cr.ext ar) bv;replace Z:C v2:=(ae _).2 ⟨ac.e,ac.b5,ac.b6⟩;clear a2 bv ar;refine aH ?_;refine fC 7 ?_;intro ad R;go_wp2_with (at_builtin;refine qB (n:=a8.length) (m:=3) (c:=3) (xs:=a8.map bM) (news:=[bM qG,bM (aY (Lib.itoa r.nd)),bM r.ow]) cn F _ _ F S F F ac.own F bG (fun h=>by cases h) (aK.eG bd) (fun u ax=>by simp only[mem_cons,not_mem_nil,or_false]at ax;rcases ax with rfl|rfl|rfl<;>rfl) J J ac.sz ?_);intro eV c6 a3 a0 cR;obtain⟨cz,cG,rfl,_,_,_⟩:=iJ a3;obtain⟨ao,ct⟩:=aB (ac.mid am a0) (ac.put am bi br (news:=[qG,aY (Lib.itoa r.nd),r.ow]) F a3 a0);have cF:=ao.2.2.cell' (i:=0) F;have cH:=ao.2.2.frozen 0;replace Z:C c6:=(ae _).2 ao;clear a3 a0 cR;go_wp2_with fail;refine R _ _ Z ?_;clear R ad;refine aH ?_;refine iU 8 ?_;intro ad R;go_wp2_with fail;refine R _ _ trivial ?_;clear R ad;refine aH ?_;refine jR ?_;clear Z aJ bP ae ac bd ao cF cH;go_wp2_with fail;go_meet;exact⟨cz,cG,by rw[cp.out];exact ct⟩
      ·have co:=O (show uH r=[] by unfold uH;rw[if_neg af]);have a_:decide (0<r.nd)=false:=aP af;go_wp2_with fail;go_meet;exact⟨dg,dl,by rw[co.out,append_nil];exact aq⟩
     case rest=>
     obtain⟨di,ez,cM⟩:=hcut;obtain⟨a9,b7⟩:=aC (a8++uH r);have en:=O b7;rw[b7]at cM;have fd:a9.length<=57:=by
      rw[<-b7,length_append];have:(uH r).length<=3:=by unfold uH;split<;>simp
      omega
     obtain⟨eS,ai⟩:=aC wc;have b0:=O cM;rw[ai]at b0⊢;clear ai wc cM b7 aq k6;have bu:a9=wP r:=by
      rw[<-en.out,<-em.out,<-el.out,<-ek.out,<-ej.out,<-eg.out];unfold wP;rw[aaI];rfl
     have ca:=RX aa ag;obtain⟨ey,e4,cT,bm,_,bl⟩:=iJ b0.own;injection cT with E e2 bh;subst E;subst bh;obtain⟨dT,e1,er⟩:=aW (fun ab (h:aK ab di (a9.map bM))=>KZ di a9.length ez a9 ab F bm (by rw[bu];simp[wP]) J h (by rw[bu];exact Nat.le_trans ca J)) bu (show Lib.join (a9.map (·.data.toList)) [32]=Ap r by rw[bu];rfl);have k6:=b0.b6.cell' (i:=0) F;clear bu bm;go_wp2_with fail;refine(dT eS bl).mono ?_;rintro e al ⟨rfl,E⟩;have ee:=O (b0.e.ext E);rw[er.out];clear E bl k6 dT;go_wp2_with (first|(refine bF F (jf (u:=Ap r) (v:=[10]) F F F F (by simp;omega) _) ?_)|(refine bF F (jf (u:=iR (rs.take k)) (v:=Ap r++[10]) F F F F (by simp;omega) _) ?_));go_roundw
     case rel=>exact⟨k+1,J,by go_num,by rw[eo.out,append_assoc],ee⟩
     case measure=>simp[intOf];omega
  ·obtain rfl:k=az:=J;have eI:rs.take k=rs:=take_of_length_le (by rw[bc.hl];exact Nat.le_refl _);rw[eI];go_wp2_with fail;go_ret;exact⟨F,a4⟩
end Go.Proofs.YtjlhhnkhcbpnjaaGreatDoor
