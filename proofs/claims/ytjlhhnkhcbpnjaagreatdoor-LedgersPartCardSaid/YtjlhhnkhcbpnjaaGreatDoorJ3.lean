/- Laws that the row leans on; no condition. -/
import Derived.Test.YtjlhhnkhcbpnjaaGreatDoorJ2
import Derived.Laws.ResultCell
import Derived.Stop.BytesEq
import Derived.Deep.DeepCutAuto
import Derived.Deep.CutBlock
namespace Go.Proofs.YtjlhhnkhcbpnjaaGreatDoor
open Go Go.RowKit List Tryz
set_option linter.unusedVariables false
set_option linter.unusedSectionVars false
set_option linter.unusedSimpArgs false
set_option maxHeartbeats 40000000
set_option maxRecDepth 100000
theorem JH(k:Nat):Builtin.zeroCells (Value.int .u8 0).cells k=(List.replicate k (Value.int .u8 0)).toArray:=by
 have e:(Value.int .u8 0).cells= #[.int .u8 0]:=F;apply Array.ext
 ·simp[Builtin.zeroCells,e]
 ·intro i j u;simp[Builtin.zeroCells,e,Nat.mod_one]
theorem WS(w:World)(base:Nat)(ty:TypeId)(v:Value)(n:Nat)(xs:aO)(al:w.ownsRow base 5 1 v n xs)(k:Nat)(hk:0<k)
 (hb:n+k<=140737488355328)(ax:base<=w.heap.size):
 ∃v' w',(Builtin.append_ #[32,3] ty #[v,.int .i64 (k:Int)]).run prog w= .ok v' w'/\w'.ownsRow base 5 1 v' (n+k) (xs++List.replicate k (.int .u8 0))/\w.grownBy w' v.ownBlock:=by
 obtain⟨ab,ag,an,hs,ac⟩:=info_parts xu;have ad:=al.1;have ae:(xs++List.replicate k (Value.int .u8 0)).length=(n+k)*1:=by rw[length_append,length_replicate,ad];omega
 have ao:∀(I:Nat),I<n+k->∀(row:Option Nat),
  (w.drew.alloc (.cells (xs.toArray++Builtin.zeroCells (Value.int .u8 0).cells k++Builtin.zeroCells (Value.int .u8 0).cells (grownCap w (n+k) I 5 - (n+k))) 5)).ownsRow base 5 1
   (.slice (some ⟨w.heap.size,0,none⟩) (n+k) (grownCap w (n+k) I 5)) (n+k) (xs++List.replicate k (.int .u8 0))/\
  w.grownBy (w.drew.alloc (.cells (xs.toArray++Builtin.zeroCells (Value.int .u8 0).cells k++Builtin.zeroCells (Value.int .u8 0).cells (grownCap w (n+k) I 5 - (n+k))) 5)) row:=by
  intro I ba row;have a1:=grownCap_ge w (n+k) I 5;have af:grownCap w (n+k) I 5<=maxLen:=grownCap_le_maxLen w (n+k) I 5 (by unfold maxLen;omega);refine⟨⟨ae,.inr ⟨w.heap.size,_,_,F,ax,heap_alloc_new w.drew _,a1,af,?_,?_⟩⟩,⟨F,F,F,aF,fun j ai _=>heap_alloc_old w.drew _ ai⟩⟩
  ·simp only[Array.size_append,size_toArray,JH,length_replicate,ad];omega
  ·simp only[Array.toList_append,JH,append_assoc];rw[<-append_assoc,<-ae];exact take_left
 rcases al.2 with⟨rfl,rfl⟩|⟨g,E,cu,rfl,az,ap,a_,af,aE,a7⟩
 ·have a9:xs=[]:=eq_nil_of_length_eq_zero (by simpa using ad);subst a9;have aa:=Lib.run_append_nil_zeros (P:=prog) w 32 3 ty 5 ab (.int .u8 0) .i64 .i64 underlying32 underlying3 ag an k hk J J (by rw[ac];omega);have R:=ao 0 J (Value.ownBlock (.slice none 0 0));simp only[Nat.zero_add,Array.empty_append]at R aa⊢;exact⟨_,_,aa,by simpa using R.1,by simpa using R.2⟩
 ·by_cases aq:n+k<=E
  ·have a0:n*1+(List.replicate k (Value.int .u8 0)).length<=cu.size:=by rw[length_replicate,aE];omega
   have am:=run_storeCells_at prog g (n*1) 5 (List.replicate k (Value.int .u8 0)) 0 cu w ap (by simpa using a0) (by intro u ar;simp at ar;rw[ar.2];rfl);have a8:IntKind.i64.wrap (k:Int)=k:=by rw[IntKind.wrap_i64];omega
   have aw:¬(281474976710656<(k:Int)*(ab.bytes:Int)):=by rw[ac];omega
   have a4:¬(k*ab.size=0):=by rw[hs];omega
   have a3:¬((k:Int)<0):=J;have a2:k≠0:=J;simp only[Nat.add_zero]at am;have aa:(Builtin.append_ #[32,3] ty #[.slice (some ⟨g,0,none⟩) n E,.int .i64 (k:Int)]).run prog w=
    .ok (.slice (some ⟨g,0,none⟩) (n+k) E) (w.setRow g (cu.toList.take (n*1)++List.replicate k (Value.int .u8 0)++cu.toList.drop (n*1+(List.replicate k (Value.int .u8 0)).length)).toArray):=by
    simp[Builtin.append_,run_underlying underlying32,run_underlying underlying3,sizeOf,typeInfo,zeroValue,ag,an,asInt,asIntOf,a8,a3,aw,a4,aq,JH,a2,hs,Addr.add_lit];simp at am;simp[am]
   refine⟨_,_,aa,⟨ae,.inr ⟨g,E,_,F,az,setRow_heap w g cu _ _ _ ap,aq,af,?_,?_⟩⟩,⟨F,F,F,aF,fun j _ ai=>setRow_other w g j _ (fun e=>ai (by simp[Value.ownBlock,e]))⟩⟩
   ·simp only[size_toArray,length_append,length_take,length_drop,Array.length_toList,length_replicate];omega
   ·rw[a7,<-ae];exact take_left
  ·have a6:∀j u,xs[j]? =some u->w.cell? ((⟨g,0,none⟩:Addr).add j)=some u:=al.cells (g:=g) F;have a5:(Builtin.firstCells ab.size n (.slice (some ⟨g,0,none⟩) n E)).run prog w.drew= .ok xs.toArray w.drew:=run_firstCells_some (P:=prog) w.drew ab.size n ⟨g,0,none⟩ n E xs (by rw[hs];exact ad) a6;have aa:=Lib.run_append_grow_zeros (P:=prog) w 32 3 ty 5 ab (.int .u8 0) .i64 .i64 underlying32 underlying3 ag an (some ⟨g,0,none⟩) n E xs a5 k hk J J J (by rw[ac];omega) (growslice_fits J (by rw[ac];omega));have R:=ao E J (Value.ownBlock (.slice (some ⟨g,0,none⟩) n E));exact⟨_,_,aa,R.1,R.2⟩
theorem WT{ops:Array Oper}{rest:List Oper}{o:Oper}{a:Act}{w:World}{Q:Exit->Act->World->Prop}(I:o.guard=none)(s x:Operand)
 (R:o.op= .call {callee:= .builtin .append,args:= #[s,x],argTypes:= #[32,3]})(base:Nat){v:Value}{n:Nat}{xs:aO}{k:Nat}
 (hs:a.eval s=v)(ac:a.eval x= .int .i64 (k:Int))(aa:w.ownsRow base 5 1 v n xs)(hk:0<k)(hb:n+k<=140737488355328)(E:base<=w.heap.size)
 (h:∀v' w',w'.ownsRow base 5 1 v' (n+k) (xs++List.replicate k (.int .u8 0))->w.grownBy w' v.ownBlock->wpList prog ops Q rest (a.put o.dst v') w'):wpList prog ops Q (o::rest) a w:=by
 obtain⟨v',w',ab,j,u⟩:=WS w base o.type v n xs aa k hk hb E;exact Lib.wpList_append_run w I s x _ _ R v _ hs ac v' w' ab (h v' w' j u)
theorem sH{ops:Array Oper}{rest:List Oper}{o:Oper}{a:Act}{w:World}{Q:Exit->Act->World->Prop}(E:o.guard=none)(s x:Operand)
 (aa:o.op= .call {callee:= .builtin .append,args:= #[s,x],argTypes:= #[32,32]})(base:Nat){v:Value}{n m c:Nat}{xs ys:aj}{j:aN}
 (hs:a.eval s=v)(ab:a.eval x= .slice j m c)(u:w.ownsRow base 5 1 v n (xs.map Y))(R:ys.length=m)(ag:j=none->m=0/\c=0)(hc:aK w j (ys.map Y))
 (hb:n+m<=140737488355328)(al:base<=w.heap.size)
 (h:∀v' w',w'.ownsRow base 5 1 v' (n+m) ((xs++ys).map Y)->w.grownBy w' v.ownBlock->wpList prog ops Q rest (a.put o.dst v') w'):wpList prog ops Q (o::rest) a w:=by
 obtain⟨ac,I,ao,am,ai⟩:=info_parts xu;cases j with
 |none=>
  obtain⟨rfl,rfl⟩:=ag F;have an:ys=[]:=length_eq_zero_iff.1 R;subst an;have ad:=h v w (by simpa using u) (yA w _);exact wpList_append_own_none E s x 32 aa base 5 ac 1 underlying32 I v n (xs.map Y) hs u ab ad
 |some y=>
  exact wpList_append_own w E s x 32 aa base 5 ac (.int .u8 0) 1 1 underlying32 I ao am ai F aX v n (xs.map Y) hs u y m c (ys.map Y) ab
   (by rw[length_map,R,Nat.mul_one]) (wX hc) (b_ _) (by unfold maxLen;omega) J al (fun v' w' ae af _=>h v' w' (by rw[map_append];exact ae) af)
theorem pG{w:World}{B:Nat}{e:TypeId}{u n:Nat}{v:Value}{xs:aO}(h:w.ownsRow B e u v n xs):∀g,v.ownBlock=some g->B<=g:=by
 intro g j;rcases h.2 with⟨rfl,_⟩|⟨I,E,cu,rfl,hb,_⟩
 ·cases j
 ·simp[Value.ownBlock]at j;omega
theorem WU{s p q:aj}{m:Nat}(j:p.length=32*m)(u:q.length=32):gZ s (p++q) (m+1)=qW (gZ s p m) q:=by
 rw[gZ,DJ _ J,<-j,drop_left,take_of_length_le J]
theorem WV(s t:aj)(n:Nat):lg s t n=gZ s (qx t++(List.replicate 24 0++dG (UInt64.ofNat n))) ((qx t).length / 32+1):=by
 have h:=OZ t;rw[WU J F];rfl
theorem WW(d:Int)(h:0<=d)(j:d<=255):((UInt8.ofNat d.toNat).toNat:Int)=d:=by rw[UInt8.toNat_ofNat'];omega
theorem WX(d:Int)(h:0<=d)(j:d<=255):(List.replicate 64 (Value.int .u8 0)).set 63 (.int .u8 d)=(lS d).map Y:=by
 unfold lS;rw[map_set];have:Y (UInt8.ofNat d.toNat)= .int .u8 d:=by
  unfold Y;rw[WW d h j]
 rw[this];rfl
theorem WY{w:World}{B n c:Nat}{e:TypeId}{E:Nat}{a:aN}{xs:aO}(h:w.ownsRow B e E (.slice a n c) n xs):∀x,a=some x->B<=x.block:=by
 intro x u;rcases h.2 with⟨j,_⟩|⟨R,I,cu,j,hb,_⟩
 ·injection j with j _ _;rw[j]at u;cases u
 ·injection j with j _ _;rw[j]at u;cases u;exact hb
theorem WZ(d:Int)(t:aj)(n c:Nat)(a:aN)(w:World)(d5:0<=d)(d6:d<=255)(ht:t.length=n)(hn:n<=1099511627776)(cz:aK w a (t.map Y)):
 Calls prog 108 #[.int .i64 d,.slice a n c] w fun e w'=>e= .returned (.agg ((lg (lS d) t n).map Y).toArray)/\X w w':=by
 obtain⟨cf,c_,b2⟩:=aW ht cz (WV (lS d) t n);have dg:Hid (((lg (lS d) t n).map Y).length=64):=O (by rw[length_map,Bd]);have b9:Hid (qx t=t++128::List.replicate (31 - n%32) 0):=O (by rw[<-ht];rfl);have eM:IntKind.u8.wrap d=d:=IntWalk.u8_in _ J;have dc:=O (WX d d5 d6);have b4:=JE d;have ef:=fun w=>DN n w J;generalize lg (lS d) t n=cm at*;generalize lS d=s0 at*;generalize cH:dG (UInt64.ofNat n)=ai at*;have b5:Hid (ai.length=8):=O (by rw[<-cH];rfl);have b3:=O b4;clear ht cz b4 cH;go_enter func108,ntmps108;go_wp2_with fail;generalize a4:World.alloc (World.alloc w _) _=am;have c5:ah am w.heap.size (List.replicate 64 (.int .u8 0)) 77:=by rw[<-a4];exact(ah.aI F F).alloc _
 have bt:ah am (w.heap.size+1) (s0.map Y) 77:=by rw[<-a4,<-dc.out];exact ah.aI aF F
 have a_:X w am:=by rw[<-a4];exact((X.refl w).alloc _).alloc _
 have e7:w.heap.size+1<am.heap.size:=bt.lt;clear a4;refine(DL t a n c am cf J (c_.ext a_)).mono ?_;rintro e ab ⟨v,rfl,cW, -,aa⟩;obtain⟨b6,bx,cg,cb⟩:=bU cW (a_.ext aa) (c5.ext aa) (bt.ext aa);have cv:am.heap.size<=ab.heap.size:=aa.size;clear c5 bt a_ aa cW;generalize am.heap.size=B at*;have aw:ah (ab.alloc (.cells #[.int .u8 128] 5)) ab.heap.size (([128]:aj).map Y) 5:=ah.aI F F;have E:X ab (ab.alloc (.cells #[.int .u8 128] 5)):=(X.refl ab).alloc _;obtain⟨ac,ar,aq,ap⟩:=bU (dQ b6 E) (cg.ext E) (cb.ext E) (bx.ext E);have ae:B<=(ab.alloc (.cells #[.int .u8 128] 5)).heap.size:=Nat.le_trans cv E.size;go_wp2_with (at_builtin;refine sH F _ _ F B (ys:=[128]) F F ac F (by intro h;cases h) (aK.eG aw) J ae ?_);generalize ab.alloc (.cells #[.int .u8 128] 5)=w2 at*;intro v3 er cX g3;have b7:=O cX;have a1:=fun ad h=>pG ac ad h;obtain⟨ch,cc,bz⟩:=aW (ar.grown g3 (by intro h;have:=a1 _ h.symm;omega)) (aq.grown g3 (by intro h;have:=a1 _ h.symm;omega)) (ap.grown g3 (by intro k hk;have:=a1 _ hk;omega));have cr:B<=er.heap.size:=Nat.le_trans ae g3.size;clear cX g3 a1 aw E ac ar aq ap ae b6 cg cb bx cv;go_wp2;go_loopw [6] (fun x wr=>∃j:Nat,n+1+j<=n+1+(31 - n%32)/\Hid (wr.ownsRow B 5 1 x (n+1+j) ((t++[128]++List.replicate j 0).map Y))/\Hid (ah wr w.heap.size (List.replicate 64 (.int .u8 0)) 77)/\Hid (ah wr (w.heap.size+1) (s0.map Y) 77)/\Hid (X w wr)/\B<=wr.heap.size)
  (fun x _=>n+100 - zf x)
 case atStart=>exact⟨0,J,O (by rw[replicate_zero,append_nil,map_append];exact b7),ch,cc,bz,cr⟩
 case round=>
  obtain⟨j,d',af,bl,hs,bc,aE⟩:=hrel;obtain⟨ew,eA,rfl,cL,d3,co,cA⟩:=nT af;obtain⟨bw,c6⟩:=aB cA co;clear cA co;obtain⟨e9,bj⟩:=aC (t++[128]++List.replicate j 0);rw[bj]at af bw;have a9:=O bj;clear bj;by_cases bd:j<31 - n%32
  ·have cP:((n:Int)+1+j).tmod 32=((n:Int)+1+j)%32:=Int.tmod_eq_emod_of_nonneg J;have eW:(((n:Int)+1+j)%32 != 0)=true:=by rw[bne_iff_ne];omega
   have aw:ah (wr.alloc (.cells #[.int .u8 0] 5)) wr.heap.size (([0]:aj).map Y) 5:=ah.aI F F;have E:X wr (wr.alloc (.cells #[.int .u8 0] 5)):=(X.refl wr).alloc _;obtain⟨ac,ar,aq,ap⟩:=bU (dQ af E) (bl.ext E) (hs.ext E) (bc.ext E);have ae:B<=(wr.alloc (.cells #[.int .u8 0] 5)).heap.size:=Nat.le_trans aE E.size;go_wp2_with (at_builtin;refine sH F _ _ F B (ys:=[0]) F F ac F (by intro h;cases h) (aK.eG aw) J ae ?_);generalize wr.alloc (.cells #[.int .u8 0] 5)=e' at*;intro e_ c3 bm g5;have dk:=O bm;have a2:=fun ad h=>pG ac ad h;obtain⟨du,dm,de⟩:=aW (ar.grown g5 (by intro h;have:=a2 _ h.symm;omega)) (aq.grown g5 (by intro h;have:=a2 _ h.symm;omega)) (ap.grown g5 (by intro k hk;have:=a2 _ hk;omega));have d1:B<=c3.heap.size:=Nat.le_trans ae g5.size;obtain⟨ex,eC,ag, -, -, -, -⟩:=nT bm;have ds:=O ag;clear bm g5 a2 aw E ac ar aq ap ae ag;go_wp2;go_roundw
   case rel=>
    refine⟨j+1,J,O ?_,du,dm,de,d1⟩;have ao:t++[128]++List.replicate (j+1) 0=(t++[128]++List.replicate j 0)++[0]:=by rw[replicate_succ',append_assoc (t++[128])]
    rw[ao,a9.out,map_append];exact dk
   case measure=>
    rw[ds.out];simp only[zf];omega
  ·have ea:j=31 - n%32:=J;subst ea;have be:t++[128]++List.replicate (31 - n%32) 0=qx t:=by rw[b9.out,append_assoc];rfl
   have cU:=a9.out;rw[be]at cU;subst cU;obtain⟨I,a0⟩:∃I,n+1+(31 - n%32)=32*I:=⟨(n+1+(31 - n%32)) / 32,J⟩;have cM:(qx t).length=32*I:=by rw[<-be,length_append,length_append,length_replicate,cf.out,<-a0];rfl
   have eR:32*I<=1099511627776+32:=J;rw[a0]at af cL;rw[a0];have cP:(32*(I:Int)).tmod 32=0:=by
    rw[Int.tmod_eq_emod_of_nonneg J];omega
   have hcut:(qx t).length / 32+1=I+1:=J;rw[hcut]at b2;clear hcut a0 bd d' be a9 b9;generalize qx t=al at*;have b':=O cM;clear cM;go_wp2_with (at_builtin;refine WT F _ _ F B (k:=24) F F af J J aE ?_);intro eo bu cY g6;have ag:=fun ad h=>pG af ad h;have b8:Hid (bu.ownsRow B 5 1 eo (32*I+24) ((al++List.replicate 24 0).map Y)):=O (by rw[map_append];exact cY);obtain⟨ci,cd,b0⟩:=aW (bl.grown g6 (by intro h;have:=ag _ h.symm;omega)) (hs.grown g6 (by intro h;have:=ag _ h.symm;omega)) (bc.grown g6 (by intro k hk;have:=ag _ hk;omega));have cs:B<=bu.heap.size:=Nat.le_trans aE g6.size;clear cY g6 ag af bl hs bc aE bw c6;have cQ:al++List.replicate 24 0++ai=al++(List.replicate 24 0++ai):=append_assoc ..;generalize ek:al++List.replicate 24 0=e8 at*;have ca:=O cQ;clear cQ;go_wp2_with fail;refine(ef bu).mono ?_;rintro e et ⟨rfl,cl,an⟩;obtain⟨a6,cj,ce,b1⟩:=bU (dQ b8 an) (ci.ext an) (cd.ext an) (b0.ext an);have ct:B<=et.heap.size:=Nat.le_trans cs an.size;go_wp2_with (at_builtin;refine sH F _ _ F B (ys:=ai) F F a6 b5 (by intro h;cases h) (aK.eG cl) J ct ?_);intro ep ev c0 ax;have a3:=fun ad h=>pG a6 ad h;obtain⟨dv,dp,df⟩:=aW (cj.grown ax (by intro h;have:=a3 _ h.symm;omega)) (ce.grown ax (by intro h;have:=a3 _ h.symm;omega)) (b1.grown ax (by intro k hk;have:=a3 _ hk;omega));have bo:ev.ownsRow B 5 1 ep (32*(I+1)) ((al++(List.replicate 24 0++ai)).map Y):=by
    rw[<-ca.out,map_append,show 32*(I+1)=32*I+24+8 by omega];simpa using c0
   have cw:(al++(List.replicate 24 0++ai)).length=32*(I+1):=by
    rw[length_append,length_append,length_replicate,b'.out,b5.out];omega
   generalize al++(List.replicate 24 0++ai)=bb at*;obtain⟨dy,dE,rfl,ei,d4,cp,cC⟩:=nT bo;have cq:=WY bo;obtain⟨bv,db,c7,c8⟩:=bU cw cC cp cq;clear c0 ax a3 bo cC cp cq cl an a6 cj ce b1 b8 ci cd b0 cs ct ek ca b' cw cP;unfold maxLen at d4;go_wp2;clear cL d3 b7 ch cc bz cr;go_loopw [6] (fun x wr=>∃(k n' c':Nat) (a':aN),x= .slice a' n' c'/\n'+32*k=32*(I+1)/\n'<=c'/\c'<=9223372036854775807/\Hid (a'=none->c'=0)/\Hid (∀x,a'=some x->B<=x.block)/\
    Hid (aK wr a' ((bb.drop (32*k)).map Y))/\Hid (ah wr (w.heap.size+1) ((gZ s0 bb k).map Y) 77)/\Hid (ah wr w.heap.size (List.replicate 64 (.int .u8 0)) 77)/\Hid (X w wr))
    (fun x _=>zf x)
   case atStart=>exact⟨0,_,dE,dy,F,J,ei,J,c7,c8,O (by rw[Nat.mul_zero,drop_zero];exact db),dp,dv,df⟩
   case round=>
    obtain⟨k,n',c',a',rfl,hk,eS,eJ,cn,d0,cx,bh,cV,cD⟩:=hrel;by_cases eV:0<n'
    ·have eK:decide ((0:Int)<(n':Int))=true:=aQ J;have bd:32<=n':=J;have ee:(bb.drop (32*k)).length=n':=by rw[length_drop,bv.out];omega
     have ej:a'≠none:=fun e=>by have:=cn.out e;omega
     obtain⟨gb,off,rfl,cy⟩:=cx.gQ (by rw[length_map,ee];omega);have eN:B<=gb:=d0.out _ F;obtain⟨u,ba⟩:=aC ((bb.drop (32*k)).take 32);have cS:∀i,i<32->wr.cell? ⟨gb,off+i,none⟩=some (.int .u8 ((u[i]?.getD 0).toNat:Int)):=by
      intro i cG;refine cy i _ ?_;rw[<-ba,List.getElem?_take_of_lt cG];exact zD J
     have cT:gZ s0 bb (k+1)=qW (gZ s0 bb k) u:=by rw[gZ,ba]
     have dr:=O cT;have cR:(gZ s0 bb k).length=64:=iV b3 k;generalize gZ s0 bb k=R at*;obtain⟨a8,dq⟩:=aB cR cS;clear cS cy ej cT cR ba;go_wp2;go_loopw [32] (fun x c4=>∃i:Nat,i<=32/\x= .int .i64 i/\Hid (ah c4 (w.heap.size+1) ((kS R u i).map Y) 77)/\Hid (wr.grownBy c4 (some (w.heap.size+1))))
      (fun x _=>32 - (intOf x).toNat)
     case atStart=>exact⟨0,J,F,bh,O (yA _ _)⟩
     case round=>
      obtain⟨i,cG,rfl,bp,br⟩:=hrel;by_cases eg:i<32
      ·have eL:decide ((i:Int)<32)=true:=aQ J;have d7:some gb≠some (w.heap.size+1):=by intro e;injection e;omega
       have bi:=dq.out i eg;have cF:=block_lt_of_cell bi;have ey:∀nq,(wr.drewN nq).cell? ⟨gb,off+i,none⟩=some (.int .u8 ((u[i]?.getD 0).toNat:Int)):=fun nq=>by
        rw[<-bi];exact World.cell?_of_block (br.block gb cF d7)
       have e1:(0:Int)<=(i:Int):=J;have e3:(i:Int)<32:=J;have e4:(i:Int)<64:=J;have e5:(i:Int)<(n':Int):=J;have eQ:(kS R u i).length=64:=by rw[zx];exact a8
       have cJ:kS R u (i+1)=(kS R u i).set i (vO ((kS R u i)[i]?.getD 0) (u[i]?.getD 0)):=F;generalize kS R u i=ws at*;have dj:=O cJ;have a7:=O bp.out;have ez:∀nq,(wr.drewN nq).cell? ⟨w.heap.size+1,i,none⟩=some (.int .u8 ((ws[i]?.getD 0).toNat:Int)):=fun nq=>(a7.drewN (n:=nq)).cell' (zD J);have eE:∀nq,(wr.drewN nq).frozen? ⟨w.heap.size+1,i,none⟩=false:=fun nq=>(a7.drewN (n:=nq)).frozen i;have e0:=Jb (ws[i]?.getD 0) (u[i]?.getD 0);clear cJ bi cF;go_wp2;refine qV (C:=fun w'=>∃n,w'=wr.drewN n) 9 au au ⟨1,F⟩ ?_;simp only[take_succ_cons,take_zero,drop_succ_cons,drop_zero];iterate 9 quiet_step (fail)
       refine wpQuiet_nil ?_;rintro _ ⟨nq,rfl⟩;go_wp2;have c1:=(a7.drewN (n:=nq)).set i (Y (vO (ws[i]?.getD 0) (u[i]?.getD 0)));rw[<-map_set,<-dj.out]at c1;have em:=yB (bR br nq) i (.int .u8 ((vO (ws[i]?.getD 0) (u[i]?.getD 0)).toNat:Int));go_roundw
       case rel=>exact⟨i+1,J,by go_num,O c1,O em⟩
       case measure=>simp[intOf];omega
      ·have d8:i=32:=J;subst d8;have cI:((kS R u 32).map Y).length=64:=by rw[length_map,zx];exact a8
       go_wp2_with (refine bV F _ _ F F bp jT cI ?_);refine(VF (kS R u 32) (by rw[zx];exact a8) wr).mono ?_;rw[show zu (kS R u 32)=qW R u from F,<-dr.out];rintro e ab ⟨rfl,aa⟩;have ed:((gZ s0 bb (k+1)).map Y).length=64:=by rw[length_map];exact iV b3 _
       generalize cN:gZ s0 bb (k+1)=r at*;go_wp2_with (refine bg F _ _ _ F F F (bp.ext aa) jT cI ed (b_ _) ?_);intro w2 ck c2;have az:=A_ (yC br aa) c2;obtain⟨c9,da,dt,dd,dl⟩:=dM ck (cx.grown az (by intro x bk;cases bk;intro e;injection e with e;simp only at e;omega)) (cV.grown az (by intro e;injection e with e;omega)) (cD.grown az (by intro e6 eb;cases eb;omega)) cN;clear ck c2 az aa cN;go_wp2_with (refine zy F _ _ _ _ F (k:=32) F F underlying32 gu bd ?_);go_roundw
       case rel=>
        refine⟨k+1,n' - 32,c' - 32,_,F,J,J,J,O fun e=> ?_,O ?_,O ?_,by rw[dl.out];exact c9,dt,dd⟩
        ·have:=cn.out (FM.1 e);omega
        ·intro x bk;have ao:=Dx (r:=some (x.block)) (c:=c') (k:=32) (a:=some ⟨gb,off,none⟩);by_cases d2:gb=x.block
         ·omega
         ·exact absurd F (ao (by intro y el;cases el;intro e;injection e with e;exact d2 e) x bk)
        ·have ao:=da.shift c' 32 (n' - 32) J;rw[<-map_drop,drop_drop,take_of_length_le (by rw[length_map,length_drop,bv.out];omega)]at ao;rwa[show 32*k+32=32*(k+1) by omega]at ao
       case measure=>simp[zf];omega
    ·have eh:n'=0:=J;subst eh;have ec:k=I+1:=J;subst ec;rw[<-b2.out]at bh;have a5:=dg;have dT:=b_ cm;generalize cE:cm.map Y=eI at*;have di:=O cE;clear cE;go_wp2_with (first|(refine bV F _ _ F F bh jT a5 ?_)|(refine bg F _ _ _ F F F cV jT F a5 dT ?_));intro c3 dC en;go_wp2;refine gG F F dC jT a5 F ⟨by rw[di.out],en.ext cD bG⟩
theorem uV(d:Int)(t:aj)(n c:Nat)(a:aN)(w:World)(a5:0<=d)(a6:d<=255)(ht:t.length=n)(hn:n<=1099511627776)(ag:aK w a (t.map Y)):
 Calls prog 70 #[.int .i64 d,.slice a n c] w fun e w'=>e= .returned (.agg ((dY d t).map Y).toArray)/\X w w':=by
 have aq:=O ag;have a7:=fun w' (h:aK w' a (t.map Y))=>WZ d t n c a w' a5 a6 ht hn h;have aE:Hid (((lg (lS d) t n).map Y).length=64):=O (by rw[length_map,Bd]);have j:Hid (((dY d t).map Y).length=32):=O (by rw[length_map,j_]);have a0:Hid (((lg (lS d) t n).map Y).take 32=(dY d t).map Y):=O (by rw[dY,ht,map_take]);have a3:=b_ (lg (lS d) t n);have ae:=b_ (dY d t);generalize a8:(dY d t).map Y=E at*;generalize (lg (lS d) t n).map Y=ba at*;clear ag a8 ht;go_enter func70,ntmps70;go_wp2_with fail;generalize ab:World.alloc w _=an;have ao:ah an w.heap.size (List.replicate 32 (.int .u8 0)) 31:=by rw[<-ab];exact ah.aI F F
 have aa:X w an:=by rw[<-ab];exact(X.refl w).alloc _
 clear ab;refine(a7 _ (aq.ext aa)).mono ?_;rintro e I ⟨rfl,R⟩;obtain⟨ac,aw⟩:=aB (ao.ext R) (aa.ext R);have bc:w.heap.size<I.heap.size:=ac.lt;clear ao aa R;go_wp2_with (refine bg F _ _ _ F F F (ah.aI F F) jT F aE a3 ?_);intro w2 ad al;have e2:X I w2:=al.ext ((X.refl I).alloc _) bG;obtain⟨a1,ax,ap⟩:=aW (ac.ext e2) (aw.ext e2) ad;clear e2 al ad;go_wp2;refine qV (C:=fun w'=>∃n,w'=w2.drewN n) 2 au au ⟨1,F⟩ ?_;simp only[take_succ_cons,take_zero,drop_succ_cons,drop_zero];iterate 2 quiet_step (fail)
 refine wpQuiet_nil ?_;rintro _ ⟨nq,rfl⟩;have af:aK (w2.drewN nq) (some ⟨I.heap.size,0,none⟩) E:=by
  have:=aK.eG (ap.drewN (n:=nq));have a4:=this.take 32;rwa[a0.out]at a4
 have ar:=O af;clear af;go_wp2_with (first|(refine zA F _ _ _ _ F F F (a1.drewN (n:=nq)) underlying32 gu j F (fun e=>by cases e) ar aF ae ?_));intro a_ u am;have ai:fV (List.replicate 32 (.int .u8 0)) 0 E=E:=by
  unfold fV;rw[take_zero,nil_append,drop_of_length_le (by rw[j.out];simp),append_nil]
 change ah a_ _ (fV (List.replicate 32 (.int .u8 0)) 0 E) _ at u;rw[ai]at u;have az:=O (am.ext (ax.drewN nq) bG);clear ai am;go_wp2_with (first|(refine bV F _ _ F F u bY j ?_)|(refine bg F _ _ _ F F F u bY j j ae ?_));intro bd a2 a9;go_wp2;refine gG F F a2 bY j F ⟨F,a9.ext az bG⟩
theorem iy{P:Program}{E:Func}{j:Ending->World->Prop}{a:Act}{w:World}{p u:Tmp}{ty:TypeId}{g:Nat}{vs:aO}{T:TypeId}
 (ad:E.results= #[.cell p ty,.tmp u])(ac:a.tmps.getD p undef= .pointer (some ⟨g,0,none⟩))(hb:ah w g vs T)
 {n:Nat}(ht:iH P ty n)(hn:vs.length=n)
 (ab:a.defers=[])(aa:j (.returned (.tuple #[.agg vs.toArray,a.tmps.getD u undef])) w):bodyPost P E j .ret a w:=by
 have I:=AV (P:=P) (off:=0) hb ht J;have R:(vs.drop 0).take n=vs:=by simp[<-hn]
 rw[R]at I;refine bodyPost_ret ?_ ab aa;rw[results_cell_tmp ad,ac];simp[asAddr,I]
theorem F8{P:Program}{E:Func}{j:Ending->World->Prop}{a:Act}{w:World}{p u q:Tmp}{ty:TypeId}{g:Nat}{vs:aO}{T:TypeId}
 (ad:E.results= #[.cell p ty,.tmp u,.tmp q])(R:a.tmps.getD p undef= .pointer (some ⟨g,0,none⟩))(hb:ah w g vs T)
 {n:Nat}(ht:iH P ty n)(hn:vs.length=n)
 (ac:a.defers=[])(ab:j (.returned (.tuple #[.agg vs.toArray,a.tmps.getD u undef,a.tmps.getD q undef])) w):bodyPost P E j .ret a w:=by
 have I:=AV (P:=P) (off:=0) hb ht J;have aa:(vs.drop 0).take n=vs:=by simp[<-hn]
 rw[aa]at I;refine bodyPost_ret (v:= .tuple #[.agg vs.toArray,a.tmps.getD u undef,a.tmps.getD q undef]) ?_ ac ab;simp only[Array.getD_eq_getD_getElem?]at R;simp[results,ad,R,asAddr,I]
def zeros(n:Nat):Value:= .agg (List.replicate n (.int .u8 0)).toArray
theorem JI(n:Nat):∀v∈List.replicate n (Value.int .u8 0),v.oneCell'=true:=by intro v j;rw[mem_replicate]at j;rw[j.2];rfl
theorem O4{t:TypeId}{n:Nat}(ht:prog.underlying t=some (.array n 5))(xs ys:aj)(j:xs.length=n)(u:ys.length=n)(w:World):
 (binOp .eql t (.agg (xs.map Y).toArray) (.agg (ys.map Y).toArray)).run prog w= .ok (.bool (xs==ys)) w:=
 run_eql_bytes w t 5 n ht underlying5 (fun w=>by kernel_rfl) xs ys j u
theorem vY{t:TypeId}{n:Nat}(ht:prog.underlying t=some (.array n 5))(xs ys:aj)(u:xs.length=n)(E:ys.length=n)(w:World):
 (binOp .neq t (.agg (xs.map Y).toArray) (.agg (ys.map Y).toArray)).run prog w= .ok (.bool (!(xs==ys))) w:=by
 have h:=run_equalIn_bytes w 9998 t 5 n ht underlying5 (fun w=>by kernel_rfl) xs ys u E;rw[run_neq_struct];have j:(Op.equalIn 10000 t (.agg (xs.map Y).toArray) (.agg (ys.map Y).toArray)).run prog w= .ok (xs==ys) w:=h;rw[j];rfl
theorem O5:prog.eqGuardType prog.depth 31=false:=au
section
open Go Go.RowKit
section
variable {P:Program} {ops:Array Oper} {rest:List Oper} {o:Oper} {a:Act} {w:World} {Q:Exit->Act->World->Prop}
theorem U5(u:Region.wanted o (yielded ops a.tmps)=true)(h:∀K:Act->World->Prop,(∀a w,wpList P ops Q rest a w->K a w)->o.wp P a w K Q):wpList P ops Q (o::rest) a w:=
 wpList_step fun K j=>by rw[if_pos u];exact h K j
theorem O6(R:Region.wanted o (yielded ops a.tmps)=true)(ty:TypeId)(x:Operand)(I:o.op= .load ty x){g:Nat}{vs:aO}{T:TypeId}
 (aa:a.eval x= .pointer (some ⟨g,0,none⟩))(hb:ah w g vs T){n:Nat}(ht:iH P ty n)(hn:vs.length=n)
 (h:wpList P ops Q rest (a.put o.dst (.agg vs.toArray)) w):wpList P ops Q (o::rest) a w:=
 U5 R fun K E=>by
  have j:=AV (P:=P) (off:=0) hb ht J;have u:(vs.drop 0).take n=vs:=by simp[<-hn]
  rw[u]at j;unfold Oper.wp execOp;simp only[I,aa,Instr.loadAt,Instr.sureAddr,Sem.run_bind,Sem.run_pure,Result.andThen_ok,j];exact E _ _ h
end
end
theorem JJ{r:Result Value}{v v':Value}{w w':World}{x:Option Nat}(E:r= .ok v w)(j:r= .ok v' w')(I:v.ownBlock=x):v'.ownBlock=x:=by
 rw[E]at j;injection j with u e2;rw[<-u,I]
def uX(d:Int)(t:aj)(n:Nat):Value:=
 if d<0∨255<d then .tuple #[zeros 32,.int .i64 3]else if n<=1048576 then .tuple #[.agg ((dY d t).map Y).toArray,.int .i64 0]else .tuple #[zeros 32,.int .i64 5]
theorem Gf(d:Int)(t:aj)(n c:Nat)(a:aN)(w:World)(ht:t.length=n)(hnc:n<=c)(hc:c<=9223372036854775807)(ax:a=none->c=0)(a0:aK w a (t.map Y)):
 Calls prog 94 #[.int .i64 d,.slice a n c] w fun e w'=>e= .returned (uX d t n)/\X w w':=by
 obtain⟨V,ad⟩:=aC (uX d t n);rw[ad];unfold uX at ad;obtain⟨I,ac,a3,a2⟩:=bU ad ht a0 ax;clear ht a0 ax ad;go_enter func94,ntmps94;go_wp2_with fail;generalize af:World.alloc (World.alloc w _) _=E;have aq:ah E w.heap.size (List.replicate 32 (.int .u8 0)) 31:=by rw[<-af];exact(ah.aI F F).alloc _
 have ao:ah E (w.heap.size+1) [.slice a n c] 32:=by rw[<-af];exact ah.aI aF F
 have an:X w E:=by rw[<-af];exact((X.refl w).alloc _).alloc _
 clear af;have aE:fZ [(a,c,t)]=t:=by simp[fZ]
 refine(WQ [(a,c,t)] d (w.heap.size+1) 1 1 E F J ?hg ao.lt ?hc ?hn ?hnc ?hcm).mono ?_
 case hg=>
  intro i ag hit
  match i,hit with
  |0,hit=>cases hit;rw[nS];simp only;rw[ac.out];exact ao.cell' F
 case hc=>
  intro ag hit;simp only[mem_cons,not_mem_nil,or_false]at hit;subst hit;exact a3.ext an
 case hn=>
  intro ag hit;simp only[mem_cons,not_mem_nil,or_false]at hit;subst hit;exact a2
 case hnc=>
  intro ag hit;simp only[mem_cons,not_mem_nil,or_false]at hit;subst hit;simp only;rw[ac.out];exact hnc
 case hcm=>
  intro ag hit;simp only[mem_cons,not_mem_nil,or_false]at hit;subst hit;exact hc
 intro e a7 h;rw[aE]at h;unfold JG at h;rw[ac.out]at h;obtain⟨h,am⟩:=h;obtain⟨al,ai⟩:=aB (aq.ext am) (an.ext am);have a8:w.heap.size<E.heap.size:=aq.lt;clear aq ao an am aE;by_cases u:d<0∨255<d
 ·rw[if_pos u]at h;have j:=I.out;rw[if_pos u]at j;subst h;have R:=O j;clear u j I;go_wp2_with (refine bg F _ _ _ F F F al bY aF (xs:=List.replicate 32 (.int .u8 0)) aF (JI 32) ?_);intro a1 aa ab;go_wp2;refine iy F F aa bY aF F ⟨by rw[<-R.out];unfold zeros;rfl,ab.ext ai J⟩
 ·rw[if_neg u]at h;have j:=I.out;rw[if_neg u]at j;by_cases ae:n<=1048576
  ·rw[if_pos ae]at h j;obtain⟨rfl,az⟩:=h;have ap:=WO (lS d) t n E.heap.size vX a7 (JE d) J az;rw[show(lg (lS d) t n).take 32=dY d t by rw[dY,ac.out]]at ap;have ar:Hid (((dY d t).map Y).length=32):=O (by rw[length_map,j_]);have a6:=b_ (dY d t);generalize (dY d t).map Y=a9 at*;obtain⟨R,aw⟩:=aB j ap;clear u j I ap az ae;go_wp2_with fail;refine aw.mono ?_;rintro e w2 ⟨rfl,e2⟩;obtain⟨a5,a4⟩:=aB (al.ext e2) (ai.ext e2);clear e2 aw;go_wp2_with (refine bg F _ _ _ F F F a5 bY aF ar a6 ?_);intro a1 aa ab;go_wp2;refine iy F F aa bY ar F ⟨by rw[<-R.out];rfl,ab.ext a4 J⟩
  ·rw[if_neg ae]at h j;subst h;have R:=O j;clear u j I ae;go_wp2_with (refine bg F _ _ _ F F F al bY aF (xs:=List.replicate 32 (.int .u8 0)) aF (JI 32) ?_);intro a1 aa ab;go_wp2;refine iy F F aa bY aF F ⟨by rw[<-R.out];unfold zeros;rfl,ab.ext ai J⟩
theorem W9(u:UInt64):(dG u).drop 4=gq (UInt32.ofNat u.toNat):=F
theorem O9(N:Nat)(w:World)(ab:N<=4611686018427387904):
 Calls prog 137 #[.int .i64 (N:Int)] w fun e w'=>e= .returned (.slice (some ⟨w.heap.size,4,none⟩) 4 4)/\aK w' (some ⟨w.heap.size,4,none⟩) ((gq (UInt32.ofNat N)).map Y)/\X w w':=by
 have ac:=O (DN N w ab);have E:(dG (UInt64.ofNat N)).drop 4=gq (UInt32.ofNat N):=by
  rw[W9];have:(UInt64.ofNat N).toNat=N:=by rw[UInt64.toNat_ofNat'];omega
  rw[this]
 have R:=O E;clear E;generalize dG (UInt64.ofNat N)=ad at*;go_enter func137,ntmps137;go_wp2_with fail;refine ac.mono ?_;rintro e ae ⟨rfl,u,aa⟩;have j:=aK.vP u 4 4;rw[<-map_drop,R.out,take_of_length_le (by rw[length_map];exact Nat.le_refl 4)]at j;have I:=O j;clear u j;go_wp2;go_ret;exact⟨F,I,aa⟩
end Go.Proofs.YtjlhhnkhcbpnjaaGreatDoor
