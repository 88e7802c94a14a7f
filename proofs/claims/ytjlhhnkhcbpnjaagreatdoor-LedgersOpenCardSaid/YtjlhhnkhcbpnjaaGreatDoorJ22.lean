/- Laws that the row leans on; no condition. -/
import Derived.Test.YtjlhhnkhcbpnjaaGreatDoorJ21
namespace Go.Proofs.YtjlhhnkhcbpnjaaGreatDoor
open Go Go.RowKit List Tryz
set_option linter.unusedVariables false
set_option linter.unusedSimpArgs false
set_option maxHeartbeats 40000000
set_option maxRecDepth 100000
theorem aaF{z:Int}(h:1<=z/\z<=12):∃j:Nat,z=(j:Int)/\j<13/\(((⟨#[]⟩:ByteArray)::pR))[j]? =some (qH z):=by
 obtain⟨j,rfl⟩:∃j:Nat,z=(j:Int):=⟨z.toNat,J⟩;obtain⟨i,rfl⟩:∃i,j=i+1:=⟨j - 1,J⟩;refine⟨i+1,F,J,?_⟩;rw[List.getElem?_cons_succ];unfold qH;have u:i<pR.length:=by show i<12;omega
 rw[show(((i+1:Nat):Int) - 1).toNat=i by omega,getD_eq_getElem?_getD,List.getElem?_eq_getElem u];rfl
theorem aaG{r:aS}(h:jd r=0):(r.fr≠0∨r.tt≠0)↔r.fr≠r.tt:=by
 constructor
 ·intro j E;have hk:k6 r=false:=by
   unfold jd at h
   repeat' split at h
   all_goals first|(cases h;done)|skip
   all_goals (rename_i a b c d e f g;revert f;cases k6 r<;>simp)
  unfold k6 at hk;simp only[Bool.or_eq_false_iff,Bool.and_eq_false_iff,decide_eq_false_iff_not]at hk;obtain⟨⟨_,u⟩,_⟩:=hk;rcases u with u|u
  ·exact u E
  ·have:r.fr=0:=Classical.not_not.1 (by simpa using u);rcases j with j|j
   ·exact j this
   ·exact j (by rw[<-E];exact this)
 ·intro j;by_cases E:r.fr=0
  ·exact .inr (fun u=>j (by rw[E,u]))
  ·exact .inl E
theorem SV{w:World}{p:Option Nat}{a:aN}{n:Nat}{xs:aO}(hc:aK w a xs)(u:xs.length=n)(E:∀q,p=some q->w.heap.size<=q):wO p a n:=by
 by_cases h:xs=[]
 ·left;rw[<-u,h];rfl
 ·obtain⟨A,j,I⟩:=U6 hc h;exact .inr ⟨A,j,fun e=>by have:=E _ e;omega⟩
theorem aaH{w:World}{B n c:Nat}{e:TypeId}{a:aN}{xs:aO}{p:Option Nat}(h:w.ownsRow B e 1 (.slice a n c) n xs)(u:∀q,p=some q->q<B):wO p a n:=by
 rcases h.2 with⟨_,hn⟩|⟨g,I,cu,E,hb,_⟩
 ·left
  exact hn
 ·right
  injection E with j e2 R;refine⟨_,j,fun e=> ?_⟩;have aa:g<B:=u g e;have ab:B<=g:=hb;omega
theorem o8.yQ{w wx wy:World}{G5 G6 B B2:Nat}{r:aS}{ws:aT}{a:aN}{c:Nat}{p:Option Nat}(h:o8 w G5 G6 B r ws a c wx)(g:wx.grownBy wy p)(j:∀q,p=some q->B2<=q)(I:w.heap.size<=B2)(ab:G5<B2)(ac:G6<B2)(E:∀q,(Value.slice a ws.length c).ownBlock=some q->q<B2):
 o8 w G5 G6 B r ws a c wy:=
 ⟨h.e.grown g (fun q u=>Nat.le_trans I (j q u)),h.b5.grown g (fun e=>by have:=j _ e.symm;omega),h.b6.grown g (fun e=>by have:=j _ e.symm;omega),um h.own g (fun q u e=>by have R:=j _ e;have aa:=E q u;omega),Nat.le_trans h.sz g.size⟩
theorem SX{nm:ByteArray}{ls:aT}{n:Nat}(h:ls.length<=n):(pY nm ls).length<=n+1:=by
 unfold pY;split
 ·simp
 ·rw[length_cons];omega
theorem aaI(r:aS):Ci r=pY qE (r.acts.map qH):=by
 unfold Ci pY;by_cases h:r.acts=[]
 ·rw[if_pos h,h];rfl
 ·rw[if_neg h,if_neg (fun e=>h (map_eq_nil_iff.1 e))]
theorem o8.mid{w wx wy:World}{G5 G6 B:Nat}{r:aS}{ws:aT}{a:aN}{c:Nat}(h:o8 w G5 G6 B r ws a c wx)(u:w.heap.size<=B)(g:wx.grownBy wy (Value.slice a ws.length c).ownBlock):
 X w wy/\ah wy G5 r.v 192/\ah wy G6 [.slice a ws.length c] 98:=
 ⟨h.e.grown g (fun q j=>Nat.le_trans u (h.own.lt q j).1),h.b5.besides h.own g aX,h.b6.besides h.own g aX⟩
theorem o8.put{w wx wy:World}{G5 G6 B:Nat}{r:aS}{ws news:aT}{a a':aN}{c c' m:Nat}(h:o8 w G5 G6 B r ws a c wx)(ae:w.heap.size<=B)(aa:G5≠G6)(ad:w.heap.size<=G6)(ab:news.length=m)
 (ac:wy.ownsRow B 9 1 (.slice a' (ws.length+m) c') (ws.length+m) (ws.map bM++news.map bM))(g:wx.grownBy wy (Value.slice a ws.length c).ownBlock):
 o8 w G5 G6 B r (ws++news) a' c' (wy.setCell ⟨G6,0,none⟩ (.slice a' (ws.length+m) c')):=by
 obtain⟨I,R,j⟩:=h.mid ae g;have u:aU wy G6 (wy.setCell ⟨G6,0,none⟩ (.slice a' (ws.length+m) c')):=aU.setCell _;have E:(ws++news).length=ws.length+m:=by rw[length_append,ab]
 refine⟨u.ext I ad,R.upd u aa,?_,?_,by rw[u.size];exact Nat.le_trans h.sz g.size⟩
 ·rw[E];exact j.set 0 _
 ·rw[E,map_append];exact n_ ac u j aX
theorem aaJ(cH:aN)(ax cI:Nat)(rs:List aS)(w:World)(bR:lG w cH ax cI rs)(cC:∀r∈rs,jd r=0)(ez:ax<=100)(dg:mJ w):
 Calls prog 178 #[.agg #[.slice cH ax cI]] w fun e w'=>e= .returned (.string (aY (iR rs)))/\X w w':=by
 obtain⟨a7,d8,b8,cQ,b9⟩:=dM bR cC dg Ag RQ;have di:∀k,(iR (rs.take k)).length<=400100:=by
  intro k;have av:=Sr (rs:=rs.take k) (W:=w) (fun r cA=>bR.ok r (mem_of_mem_take cA)) (fun r cA=>cC r (mem_of_mem_take cA));have ap:(rs.take k).length<=100:=by rw[length_take];have:=bR.hl;omega
  have:(rs.take k).length*4001<=100*4001:=Nat.mul_le_mul_right _ ap;omega
 have dE:=O di;clear bR cC dg di;go_enter func178,ntmps178;go_upto_region 2 with fail;generalize cD:World.alloc w _=dv;have c2:ah dv w.heap.size [.slice cH ax cI] 152:=by rw[<-cD];exact ah.aI F F
 have c8:X w dv:=by rw[<-cD];exact(X.refl w).alloc _
 have ew:=c2.cell' (i:=0) F;have dx:=O c8;clear cD c2 c8;go_wp2;go_loopw [3,14] (fun v i wr=>∃k:Nat,k<=ax/\i= .int .i64 (k:Int)/\v= .string (aY (iR (rs.take k)))/\X w wr) (fun _ i _=>ax - (intOf i).toNat)
 case atStart=>exact⟨0,J,F,F,dx⟩
 case round=>
  obtain⟨k,hk,rfl,rfl,E⟩:=hrel;have aR:=O E;clear E;by_cases dj:k<ax
  ·obtain⟨r,a6⟩:∃r,rs[k]? =some r:=⟨rs[k]'(by rw[a7.hl];exact dj),aF⟩;obtain⟨A,rfl,bL⟩:=(a7.ext aR).at a6;obtain⟨cR,cU,aa,cV⟩:=bU bL ((a7.ext aR).ok r (mem_of_getElem? a6)) (a7.ok r (mem_of_getElem? a6)) (d8 r (mem_of_getElem? a6));obtain⟨ag,cW,d5⟩:=aW (RU cU cV) (aS.len r) (aag a6);have ei:=nD r;have eR:=dE.out k;have eT:=ag.n1;have cy:=ag.n2;have eh:=ag.n3;clear bL a6;go_wp2_with (first|(refine bF F (fP (i:=k) F F F underlying150 Hl dj _) ?_)|(refine bF F (bQ F F cR cQ cW) ?_)|(refine bg F _ (.tmp 5) _ F F F (ah.aI (vs:=BX) F F) cQ F cW ei ?_));intro an cl du;have ar:X wr an:=du.ext ((X.refl wr).alloc _) bG;obtain⟨bp,b6⟩:=aB cl (aR.ext ar);have de:wr.heap.size<an.heap.size:=cl.lt;have el:=aR.size;clear cl du ar cR aR cU;obtain⟨G5,db⟩:=aC wr.heap.size;rw[db]at bp de el⊢;clear db;have cF:=bp.cell' (i:=0) F;go_upto_region 6 with fail;generalize bl:World.alloc (World.alloc an _) _=b2;have ck:ah b2 G5 r.v 192:=by rw[<-bl];exact(bp.alloc _).alloc _
   have bs:ah b2 an.heap.size [bM (AL false)] 9:=by rw[<-bl];exact(ah.aI F F).alloc _
   have bu:ah b2 (an.heap.size+1) [.slice (some ⟨an.heap.size,0,none⟩) 1 1] 98:=by rw[<-bl];exact ah.aI (rQ _ _).symm rfl
   have c9:X an b2:=by rw[<-bl];exact((X.refl an).alloc _).alloc _
   obtain⟨S,bE⟩:=aC an.heap.size;obtain⟨G6,cr⟩:=aC (an.heap.size+1);have am:w.heap.size<=S:=by have:=b6.size;omega
   have ba:G5≠G6:=J;have eA:G5<S:=J;have bk:w.heap.size<=G6:=J;have eM:S+1=G6:=J;have b7:=O (b6.ext c9);rw[cr,bE]at bu;rw[bE]at bs;rw[cr,bE];obtain⟨b3,b5,b4⟩:=aW ck bs bu;have cF:=ck.cell' (i:=0) F;have k6:=bu.cell' (i:=0) F;have ks:=bs.cell' (i:=0) F;have ed:=bs.frozen 0;clear bl ck bs bu c9 bE cr de b6 bp;obtain⟨d,cw⟩:=aC r.deny;have dC:=O cw;rw[cw]at cF;clear cw;go_upto_if 20 with fail;go_cut [] (fun wx=>X w wx/\ah wx G5 r.v 192/\ah wx S [bM (AL d)] 9/\ah wx G6 [.slice (some ⟨S,0,none⟩) 1 1] 98)
   case first=>
    cases d with
    |false=>
     go_wp2_with fail;go_meet;exact⟨b7,b3,b5,b4⟩
    |true=>
     go_wp2_with fail;go_meet;exact⟨b7.set _ am,b3.qm _ _ (by show G5≠S;omega),b5.set 0 _,b4.qm _ _ (by show G6≠S;omega)⟩
   case rest=>
   obtain⟨cJ,bX,cK,b0⟩:=hcut;obtain⟨dt,ai⟩:=aC wc;rw[ai]at cJ bX cK b0⊢;have eD:=b0.lt;have eC:=bX.lt;have cb:o8 w G5 G6 S r [AL d] (some ⟨S,0,none⟩) 1 dt:=⟨cJ,bX,b0,Z5 (rest:=[]) (by simpa using cK) aF F bG bG (by unfold maxLen;omega),J⟩;have bq:=O cb;have k1:=cb.b5.cell' (i:=1) (v:= .slice r.ra r.rn r.rc) F;clear ai wc cJ bX cK b0 cb b7 b3 b5 b4 cF k6 ks ed;go_upto_region 9 with fail;go_wp2_with fail;refine(LK w G5 G6 S r [AL d] (some ⟨S,0,none⟩) 1 sQ r.ra r.rn r.rc r.roles dt bq am ba bk aa.rl aa.qZ (aa.nU.ext bq.e) (SV aa.nU (by rw[length_map];exact aa.rl) (fun q aE=>Nat.le_trans am (bq.own.lt q aE).1)) (by simp;omega)).mono ?_;rintro e cL ⟨rfl,ch,cm,cs⟩;have az:=O cs;have k2:=cs.b5.cell' (i:=2) (v:= .slice r.aa r.an r.ac) F;have bi:(pY sQ r.roles).length<=17:=by
    unfold pY;split
    ·simp
    ·rw[length_cons,aa.rl];omega
   obtain⟨a9,bw⟩:=aC ([AL d]++pY sQ r.roles);have d0:=O bw;have eE:a9.length<=18:=by rw[<-bw,length_append];simp only[length_cons,length_nil];omega
   rw[bw]at az;have c_:G5<cL.heap.size:=az.b5.lt;have da:G6<cL.heap.size:=az.b6.lt;obtain⟨B2,bc⟩:=aC cL.heap.size;have cT:Hid (∀q,(Value.slice ch a9.length cm).ownBlock=some q->q<B2):=O (fun q aE=>by rw[<-bc];exact(az.own.lt q aE).2);have ek:w.heap.size<=B2:=by rw[<-bc];exact az.e.size
   rw[bc]at c_ da;have dz:=O bc;clear cs bq k1 bi bw bc;go_wp2_with fail;go_loopw [8,31] (fun v i cP=>∃(j:Nat) (a:aN) (c:Nat),j<=r.an/\i= .int .i64 (j:Int)/\v= .slice a j c/\cP.ownsRow B2 9 1 (.slice a j c) j (((r.acts.take j).map qH).map bM)/\o8 w G5 G6 S r a9 ch cm cP/\B2<=cP.heap.size) (fun _ i _=>r.an - (intOf i).toNat)
   case atStart=>exact⟨0,none,0,J,F,F,⟨F,.inl ⟨F,F⟩⟩,az,by rw[dz.out];exact Nat.le_refl _⟩
   case round=>
    obtain⟨j,a,c,eQ,rfl,rfl,dp,dc,eB⟩:=hrel;obtain⟨P,a1⟩:=aB dc dp;clear dp dc az k2;by_cases bO:j<r.an
    ·have c6:decide ((j:Int)<(r.an:Int))=true:=aQ J;have c7:decide (j<r.an)=true:=aQ bO;obtain⟨z,bS⟩:∃z,r.acts[j]? =some z:=⟨r.acts[j]'(by rw[aa.al];exact bO),aF⟩;have ds:=ag.a1 z (mem_of_getElem? bS);obtain⟨er,ef,bL⟩:∃A,r.aa=some A/\wr.cell? (A.add j)=some (.int .i64 z):=by
      obtain⟨g,o,e,h⟩:=(aa.mF.ext P.e).gQ (by rw[length_map,aa.al];omega);exact⟨_,e,by rw[dn];exact h j _ (by rw[List.getElem?_map,bS];rfl)⟩
     have bj:r.acts.take (j+1)=r.acts.take j++[z]:=by rw[take_add_one,bS];rfl
     have d6:=O bj;obtain⟨m,cx,eS,dl⟩:=aaF ds;obtain⟨dT,et⟩:=aB dl cx;clear bS bj ds dl;rw[ef];rw[cx]at bL;clear cx;go_wp2_with fail;refine(Ry wr).mono ?_;rintro e al ⟨rfl,dd,E⟩;obtain⟨ea,cX⟩:=aB (P.ext E) (uF a1 E);have eV:=E.size;have c5:al.cell? ⟨wr.heap.size,m,none⟩=some (.string (qH z)):=by
      obtain⟨b,o,bN,h⟩:=dd.gQ aX;have e2:b=wr.heap.size:=by simp at bN;exact bN.1.symm
      have a_:o=0:=by simp at bN;exact bN.2.symm
      have:=h m (.string (qH z)) (by rw[List.getElem?_map,dT.out];rfl);rw[e2,a_,Nat.zero_add]at this;exact this
     clear dd E P a1;obtain⟨x,cE⟩:=aC (qH z);have d9:=O cE;rw[cE]at c5;clear cE;go_wp2_with (refine qB (n:=j) (m:=1) (c:=1) (xs:=((r.acts.take j).map qH).map bM) (news:=[.string x]) b9 F _ _ F B2 F F (uF cX ((X.refl _).alloc _)) F bG (fun h=>by cases h) (aK.eG (ah.aI F F)) (fun u aw=>by simp at aw;rw[aw];rfl) J J (by rw[rQ];omega) ?_);intro eW v2 cG a5 cy;obtain⟨ci,cn,rfl,_,_,_⟩:=iJ cG;obtain⟨cd,d'⟩:=aB ((ea.ext ((X.refl _).alloc _)).yQ a5 (fun q aE=>(cX.lt q aE).1) ek c_ da cT) cG;have ej:=a5.size;rw[rQ]at ej;clear cG a5 cy c5;go_wp2_with fail;go_roundw
     case rel=>exact⟨j+1,ci,cn,J,by go_num,F,by rw[d6.out,map_append,map_append];simp only[map_cons,map_nil];rw[d9.out];simp only[map_take,map_map];exact d',cd,J⟩
     case measure=>simp[intOf];omega
    ·obtain rfl:j=r.an:=J;have c6:decide ((r.an:Int)<(r.an:Int))=false:=aP J;have c7:decide (r.an<r.an)=false:=aP J;have bj:r.acts.take r.an=r.acts:=take_of_length_le (by have:=aa.al;omega);rw[bj]at a1;have dm:=aaH a1 cT;obtain⟨eb,ey,cB,bh,_,be⟩:=iJ a1;injection cB with E e2 a_;subst E;subst a_;have dk:(r.acts.map qH).length=r.an:=by rw[length_map,aa.al]
     have dq:=O (LK w G5 G6 S r a9 ch cm qE a r.an c (r.acts.map qH) wr P am ba bk dk bh be dm J);clear bj dm bh be dk;go_wp2_with fail;refine dq.mono ?_;rintro e en ⟨rfl,ci,cn,bv⟩;have k3:=bv.b5.cell' (i:=3) (v:= .slice r.la r.ln r.lc) F;have bi:(pY qE (r.acts.map qH)).length<=17:=SX (by rw[length_map,aa.al];exact cy);obtain⟨cg,bx⟩:=aC (a9++pY qE (r.acts.map qH));have d1:=O bx;have eI:cg.length<=35:=by rw[<-bx,length_append];omega
     rw[bx]at bv;have br:=O bv;have dr:=O (LK w G5 G6 S r cg ci cn sS r.la r.ln r.lc r.labels en br am ba bk aa.ll aa.Eu (aa.sN.ext br.e) (SV aa.sN (by rw[length_map];exact aa.ll) (fun q aE=>Nat.le_trans am (br.own.lt q aE).1)) J);clear bv bi bx dq P a1 c6 c7;go_wp2_with fail;refine dr.mono ?_;rintro e b1 ⟨rfl,cY,c3,bd⟩;have bi:(pY sS r.labels).length<=17:=SX (by rw[aa.ll];exact eh);obtain⟨a2,bz⟩:=aC (cg++pY sS r.labels);have d2:=O bz;have eJ:a2.length<=52:=by rw[<-bz,length_append];omega
     rw[bz]at bd;have a0:=O bd;have k4:=bd.b5.cell' (i:=4) (v:= .int .i64 r.fr) F;have k5:=bd.b5.cell' (i:=5) (v:= .int .i64 r.tt) F;have cS:=O (aaG cV);clear bd bi bz dr br k3;go_upto_region 18 with fail;go_cut [57] (fun v wx=>v= .bool (decide (r.fr≠r.tt))/\wx=b1)
     case first=>
      by_cases af:r.fr=0
      ·have em:(r.fr != 0)=false:=by simp[af]
       have n2:decide (r.fr=0)=true:=aQ af;have cf:=O (show decide (r.fr≠r.tt)=decide (r.tt≠0)from decide_eq_decide.2 (by rw[<-cS.out];exact⟨fun h=>h.resolve_left (fun h=>h af),.inr⟩));go_wp2_with fail;go_meet;exact⟨by rw[cf.out];first|rfl|(simp[bne,BEq.beq];done)|(congr 1;by_cases ee:r.tt=0<;>simp[ee]),F⟩
      ·have em:(r.fr != 0)=true:=by simp[af]
       have n2:decide (r.fr=0)=false:=aP af;have cf:=O (show decide (r.fr≠r.tt)=true from aQ (cS.1 (.inl af)));go_wp2_with fail;go_meet;exact⟨by rw[cf.out],F⟩
     case rest=>
     obtain⟨rfl,ai⟩:=hcut;rw[ai];clear ai wc;clear k4 k5;go_upto_if 57 with fail;go_cut [] (fun wx=>∃a c,o8 w G5 G6 S r (a2++uG r) a c wx)
     case first=>
      by_cases af:r.fr=r.tt
      ·have b':=O (show uG r=[] by unfold uG;rw[if_pos af]);have g1:decide (r.fr≠r.tt)=false:=aP (fun h=>h af);rw[g1];go_wp2_with fail;go_meet;exact⟨cY,c3,by rw[b'.out,append_nil];exact a0⟩
      ·have ca:=O (show uG r=[qF,Ce r.fr r.tt] by unfold uG;rw[if_neg af]);have g1:decide (r.fr≠r.tt)=true:=aQ af;rw[g1];go_upto_region 19 with fail;clear g1;obtain⟨C,ae,aJ,bP⟩:=kZ (I:=fun w'=>X w w'/\ah w' G5 r.v 192/\ah w' G6 [.slice cY a2.length c3] 98) (fun _ _ av ap=>⟨av.1.ext ap,av.2.1.ext ap,av.2.2.ext ap⟩) (w:=b1) (⟨a0.e,a0.b5,a0.b6⟩);have eN:=ED ag.f1.1 ag.f1.2;have eO:=ED ag.t1.1 ag.t1.2;refine jQ (W:=[11]) fun Z=> ?_;refine bK 1 ?_;refine bK 5 ?_;refine eY 0 (fun ab h=>((ae ab).1 h).2.2.cell' (i:=0) F) ?_;refine eY 2 (fun ab h=>((ae ab).1 h).2.1.cell' (i:=4) (v:= .int .i64 r.fr) F) ?_;refine eY 6 (fun ab h=>((ae ab).1 h).2.1.cell' (i:=5) (v:= .int .i64 r.tt) F) ?_;refine fC 3 ?_;intro ad R;go_wp2_with fail;refine(wL r.fr _ (by have:=ag.f1;omega) (by have:=ag.f1;omega) (b8.ext ((ae _).1 Z).1).lw.pw).mono ?_;rintro e al ⟨rfl,E⟩;have cc:=O (a0.ext (show X b1 al from((X.refl b1).drew).ext E));replace Z:=aJ _ _ Z E;go_wp2_with fail;refine R _ _ Z ?_;clear R ad E;refine aH ?_;refine FW 4 F (bf F (fun ab _=>jf (u:=Lib.itoa r.fr) (v:=[45]) F F F F (by simp;omega) ab)) ?_;refine fC 7 ?_;intro ad R;go_wp2_with fail;refine(wL r.tt _ (by have:=ag.t1;omega) (by have:=ag.t1;omega) (b8.ext ((ae _).1 Z).1).lw.pw).mono ?_;rintro e v2 ⟨rfl,E⟩;have cd:=O (cc.ext (show X al v2 from E));replace Z:=aJ _ _ Z E;go_wp2_with fail;refine R _ _ Z ?_;clear R ad E;refine aH ?_;refine FW 8 F (bf F (fun ab _=>jf (u:=Lib.itoa r.fr++[45]) (v:=Lib.itoa r.tt) F F F F (by simp;omega) ab)) ?_;refine fC 9 ?_;intro ad R
       go_wp2_with fail;refine R _ _ (aJ _ _ Z ((X.refl _).alloc _)) ?_;clear R ad;generalize aL:World.alloc v2 _=v3;have bo:ah v3 v2.heap.size [bM qF,bM (Ce r.fr r.tt)] 9:=by rw[<-aL];exact ah.aI F F
       have ar:X v2 v3:=by rw[<-aL];exact(X.refl v2).alloc _
       obtain⟨ac,a8⟩:=aB (cd.ext ar) bo;replace Z:C v3:=(ae _).2 ⟨ac.e,ac.b5,ac.b6⟩;clear aL bo ar;refine aH ?_;refine fC 10 ?_;intro ad R;go_wp2_with (at_builtin;refine qB (n:=a2.length) (m:=2) (c:=2) (xs:=a2.map bM) (news:=[bM qF,bM (Ce r.fr r.tt)]) b9 F _ _ F S F F ac.own F bG (fun h=>by cases h) (aK.eG a8) (fun u aw=>by simp only[mem_cons,not_mem_nil,or_false]at aw;rcases aw with rfl|rfl<;>rfl) J J ac.sz ?_);intro ep cN aM aD cz;obtain⟨cj,cp,rfl,_,_,_⟩:=iJ aM;obtain⟨ao,ce⟩:=aB (ac.mid am aD) (ac.put am ba bk (news:=[qF,Ce r.fr r.tt]) F aM aD);have co:=ao.2.2.cell' (i:=0) F;have cq:=ao.2.2.frozen 0;replace Z:C cN:=(ae _).2 ao;clear aM aD cz;go_wp2_with fail;refine R _ _ Z ?_;clear R ad;refine aH ?_;refine iU 11 ?_;intro ad R;go_wp2_with fail;refine R _ _ trivial ?_;clear R ad;refine aH ?_;refine jR ?_;clear Z aJ bP ae ac a8 ao co cq;go_wp2_with fail;go_meet;exact⟨cj,cp,by rw[ca.out];exact ce⟩
     case rest=>
     obtain⟨c0,c4,ct⟩:=hcut;obtain⟨a3,bA⟩:=aC (a2++uG r);have d3:=O bA;rw[bA]at ct;have eK:a3.length<=54:=by
      rw[<-bA,length_append];have:(uG r).length<=2:=by unfold uG;split<;>simp
      omega
     obtain⟨cM,ai⟩:=aC wc;have aq:=O ct;rw[ai]at aq⊢;clear ai wc ct bA a0;have k6:=aq.b5.cell' (i:=6) (v:= .int .i64 r.nd) F;go_upto_if 71 with fail;go_cut [] (fun wx=>∃a c,o8 w G5 G6 S r (a3++uH r) a c wx)
     case first=>
      by_cases af:0<r.nd
      ·have ca:=O (show uH r=[qG,aY (Lib.itoa r.nd),r.ow] by unfold uH;rw[if_pos af]);have a5:decide (0<r.nd)=true:=aQ af;go_upto_region 21 with fail;clear a5 k6;obtain⟨C,ae,aJ,bP⟩:=kZ (I:=fun w'=>X w w'/\ah w' G5 r.v 192/\ah w' G6 [.slice c0 a3.length c4] 98) (fun _ _ av ap=>⟨av.1.ext ap,av.2.1.ext ap,av.2.2.ext ap⟩) (w:=cM) (⟨aq.e,aq.b5,aq.b6⟩);refine jQ (W:=[8]) fun Z=> ?_;refine bK 1 ?_;refine bK 4 ?_;refine eY 0 (fun ab h=>((ae ab).1 h).2.2.cell' (i:=0) F) ?_;refine eY 2 (fun ab h=>((ae ab).1 h).2.1.cell' (i:=6) (v:= .int .i64 r.nd) F) ?_;refine eY 5 (fun ab h=>((ae ab).1 h).2.1.cell' (i:=7) (v:= .string r.ow) F) ?_;refine fC 3 ?_;intro ad R;go_wp2_with fail;refine(wL r.nd _ (by have:=ag.d1;omega) (by have:=ag.d1;omega) (b8.ext ((ae _).1 Z).1).lw.pw).mono ?_;rintro e al ⟨rfl,E⟩;have cc:=O (aq.ext (show X cM al from((X.refl cM).drew).ext E));replace Z:=aJ _ _ Z E;go_wp2_with fail;refine R _ _ Z ?_;clear R ad E;refine aH ?_;refine fC 6 ?_;intro ad R;go_wp2_with fail;refine R _ _ (aJ _ _ Z ((X.refl _).alloc _)) ?_;clear R ad;generalize aL:World.alloc al _=v2;have bo:ah v2 al.heap.size [bM qG,bM (aY (Lib.itoa r.nd)),bM r.ow] 9:=by rw[<-aL];exact ah.aI F F
       have ar:X al v2:=by rw[<-aL];exact(X.refl al).alloc _
       obtain⟨ac,a8⟩:=aB (cc.ext ar) bo;replace Z:C v2:=(ae _).2 ⟨ac.e,ac.b5,ac.b6⟩;clear aL bo ar;refine aH ?_;refine fC 7 ?_;intro ad R;go_wp2_with (at_builtin;refine qB (n:=a3.length) (m:=3) (c:=3) (xs:=a3.map bM) (news:=[bM qG,bM (aY (Lib.itoa r.nd)),bM r.ow]) b9 F _ _ F S F F ac.own F bG (fun h=>by cases h) (aK.eG a8) (fun u aw=>by simp only[mem_cons,not_mem_nil,or_false]at aw;rcases aw with rfl|rfl|rfl<;>rfl) J J ac.sz ?_);intro ep cN aM aD cz;obtain⟨cj,cp,rfl,_,_,_⟩:=iJ aM;obtain⟨ao,ce⟩:=aB (ac.mid am aD) (ac.put am ba bk (news:=[qG,aY (Lib.itoa r.nd),r.ow]) F aM aD);have co:=ao.2.2.cell' (i:=0) F;have cq:=ao.2.2.frozen 0;replace Z:C cN:=(ae _).2 ao;clear aM aD cz;go_wp2_with fail;refine R _ _ Z ?_;clear R ad;refine aH ?_;refine iU 8 ?_;intro ad R;go_wp2_with fail;refine R _ _ trivial ?_;clear R ad;refine aH ?_;refine jR ?_;clear Z aJ bP ae ac a8 ao co cq;go_wp2_with fail;go_meet;exact⟨cj,cp,by rw[ca.out];exact ce⟩
      ·have b':=O (show uH r=[] by unfold uH;rw[if_neg af]);have a5:decide (0<r.nd)=false:=aP af;go_wp2_with fail;go_meet;exact⟨c0,c4,by rw[b'.out,append_nil];exact aq⟩
     case rest=>
     obtain⟨c1,ec,cv⟩:=hcut;obtain⟨a4,bB⟩:=aC (a3++uH r);have d4:=O bB;rw[bB]at cv;have eL:a4.length<=57:=by
      rw[<-bB,length_append];have:(uH r).length<=3:=by unfold uH;split<;>simp
      omega
     obtain⟨eo,ai⟩:=aC wc;have bt:=O cv;rw[ai]at bt⊢;clear ai wc cv bB aq k6;have bm:a4=wP r:=by
      rw[<-d4.out,<-d3.out,<-d2.out,<-d1.out,<-d0.out,<-dC.out];unfold wP;rw[aaI];rfl
     have bO:=RX aa ag;obtain⟨eb,ex,cB,bh,_,be⟩:=iJ bt.own;injection cB with E e2 a_;subst E;subst a_;obtain⟨df,ev,d7⟩:=aW (fun ab (h:aK ab c1 (a4.map bM))=>KZ c1 a4.length ec a4 ab F bh (by rw[bm];simp[wP]) J h (by rw[bm];exact Nat.le_trans bO J)) bm (show Lib.join (a4.map (·.data.toList)) [32]=Ap r by rw[bm];rfl);have k6:=bt.b6.cell' (i:=0) F;clear bm bh;go_wp2_with fail;refine(df eo be).mono ?_;rintro e al ⟨rfl,E⟩;have dy:=O (bt.e.ext E);rw[d7.out];clear E be k6 df;go_wp2_with (first|(refine bF F (jf (u:=Ap r) (v:=[10]) F F F F (by simp;omega) _) ?_)|(refine bF F (jf (u:=iR (rs.take k)) (v:=Ap r++[10]) F F F F (by simp;omega) _) ?_));go_roundw
     case rel=>exact⟨k+1,J,by go_num,by rw[d5.out,append_assoc],dy⟩
     case measure=>simp[intOf];omega
  ·obtain rfl:k=ax:=J;have eg:rs.take k=rs:=take_of_length_le (by rw[a7.hl];exact Nat.le_refl _);rw[eg];go_wp2_with fail;go_ret;exact⟨F,aR⟩
end Go.Proofs.YtjlhhnkhcbpnjaaGreatDoor
