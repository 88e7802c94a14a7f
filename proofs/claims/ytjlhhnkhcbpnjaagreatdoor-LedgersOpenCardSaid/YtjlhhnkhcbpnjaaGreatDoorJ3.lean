/- Laws that the row leans on; no condition. -/
import Derived.Test.YtjlhhnkhcbpnjaaGreatDoorJ2
import Derived.Laws.ResultCell
import Derived.Stop.BytesEq
import Derived.Deep.DeepCutAuto
import Derived.Deep.CutBlock
namespace Go.Proofs.YtjlhhnkhcbpnjaaGreatDoor
open Go Go.RowKit List Tryz
set_option linter.unusedVariables false
set_option linter.unusedSimpArgs false
set_option maxHeartbeats 40000000
set_option maxRecDepth 100000
theorem JH(k:Nat):Builtin.zeroCells (Value.int .u8 0).cells k=(List.replicate k (Value.int .u8 0)).toArray:=by
 have e:(Value.int .u8 0).cells= #[.int .u8 0]:=F;apply Array.ext
 ·simp[Builtin.zeroCells,e]
 ·intro i j u;simp[Builtin.zeroCells,e,Nat.mod_one]
theorem WS(w:World)(base:Nat)(ty:TypeId)(v:Value)(n:Nat)(xs:aO)(ag:w.ownsRow base 5 1 v n xs)(k:Nat)(hk:0<k)
 (hb:n+k<=140737488355328)(a0:base<=w.heap.size):
 ∃v' w',(Builtin.append_ #[32,3] ty #[v,.int .i64 (k:Int)]).run prog w= .ok v' w'/\w'.ownsRow base 5 1 v' (n+k) (xs++List.replicate k (.int .u8 0))/\w.grownBy w' v.ownBlock:=by
 obtain⟨R,ai,an,hs,ad⟩:=info_parts xu;have ac:=ag.1;have ae:(xs++List.replicate k (Value.int .u8 0)).length=(n+k)*1:=by rw[length_append,length_replicate,ac];omega
 have ar:∀(I:Nat),I<n+k->∀(row:Option Nat),
  (w.drew.alloc (.cells (xs.toArray++Builtin.zeroCells (Value.int .u8 0).cells k++Builtin.zeroCells (Value.int .u8 0).cells (grownCap w (n+k) I 5 - (n+k))) 5)).ownsRow base 5 1
   (.slice (some ⟨w.heap.size,0,none⟩) (n+k) (grownCap w (n+k) I 5)) (n+k) (xs++List.replicate k (.int .u8 0))/\
  w.grownBy (w.drew.alloc (.cells (xs.toArray++Builtin.zeroCells (Value.int .u8 0).cells k++Builtin.zeroCells (Value.int .u8 0).cells (grownCap w (n+k) I 5 - (n+k))) 5)) row:=by
  intro I a6 row;have aD:=grownCap_ge w (n+k) I 5;have al:grownCap w (n+k) I 5<=maxLen:=grownCap_le_maxLen w (n+k) I 5 (by unfold maxLen;omega);refine⟨⟨ae,.inr ⟨w.heap.size,_,_,F,a0,heap_alloc_new w.drew _,aD,al,?_,?_⟩⟩,⟨F,F,F,aF,fun j am _=>heap_alloc_old w.drew _ am⟩⟩
  ·simp only[Array.size_append,size_toArray,JH,length_replicate,ac];omega
  ·simp only[Array.toList_append,JH,append_assoc];rw[<-append_assoc,<-ae];exact take_left
 rcases ag.2 with⟨rfl,rfl⟩|⟨g,E,cu,rfl,aw,ao,a5,al,aM,a4⟩
 ·have av:xs=[]:=eq_nil_of_length_eq_zero (by simpa using ac);subst av;have ab:=Lib.run_append_nil_zeros (P:=prog) w 32 3 ty 5 R (.int .u8 0) .i64 .i64 underlying32 underlying3 ai an k hk J J (by rw[ad];omega);have aa:=ar 0 J (Value.ownBlock (.slice none 0 0));simp only[Nat.zero_add,Array.empty_append]at aa ab⊢;exact⟨_,_,ab,by simpa using aa.1,by simpa using aa.2⟩
 ·by_cases ap:n+k<=E
  ·have az:n*1+(List.replicate k (Value.int .u8 0)).length<=cu.size:=by rw[length_replicate,aM];omega
   have af:=run_storeCells_at prog g (n*1) 5 (List.replicate k (Value.int .u8 0)) 0 cu w ao (by simpa using az) (by intro u aq;simp at aq;rw[aq.2];rfl);have ax:IntKind.i64.wrap (k:Int)=k:=by rw[IntKind.wrap_i64];omega
   have a2:¬(281474976710656<(k:Int)*(R.bytes:Int)):=by rw[ad];omega
   have aE:¬(k*R.size=0):=by rw[hs];omega
   have a1:¬((k:Int)<0):=J;have a3:k≠0:=J;simp only[Nat.add_zero]at af;have ab:(Builtin.append_ #[32,3] ty #[.slice (some ⟨g,0,none⟩) n E,.int .i64 (k:Int)]).run prog w=
    .ok (.slice (some ⟨g,0,none⟩) (n+k) E) (w.setRow g (cu.toList.take (n*1)++List.replicate k (Value.int .u8 0)++cu.toList.drop (n*1+(List.replicate k (Value.int .u8 0)).length)).toArray):=by
    simp[Builtin.append_,run_underlying underlying32,run_underlying underlying3,sizeOf,typeInfo,zeroValue,ai,an,asInt,asIntOf,ax,a1,a2,aE,ap,JH,a3,hs,Addr.add_lit];simp at af;simp[af]
   refine⟨_,_,ab,⟨ae,.inr ⟨g,E,_,F,aw,setRow_heap w g cu _ _ _ ao,ap,al,?_,?_⟩⟩,⟨F,F,F,aF,fun j _ am=>setRow_other w g j _ (fun e=>am (by simp[Value.ownBlock,e]))⟩⟩
   ·simp only[size_toArray,length_append,length_take,length_drop,Array.length_toList,length_replicate];omega
   ·rw[a4,<-ae];exact take_left
  ·have aR:∀j u,xs[j]? =some u->w.cell? ((⟨g,0,none⟩:Addr).add j)=some u:=ag.cells (g:=g) F;have aL:(Builtin.firstCells R.size n (.slice (some ⟨g,0,none⟩) n E)).run prog w.drew= .ok xs.toArray w.drew:=run_firstCells_some (P:=prog) w.drew R.size n ⟨g,0,none⟩ n E xs (by rw[hs];exact ac) aR;have ab:=Lib.run_append_grow_zeros (P:=prog) w 32 3 ty 5 R (.int .u8 0) .i64 .i64 underlying32 underlying3 ai an (some ⟨g,0,none⟩) n E xs aL k hk J J J (by rw[ad];omega) (growslice_fits J (by rw[ad];omega));have aa:=ar E J (Value.ownBlock (.slice (some ⟨g,0,none⟩) n E));exact⟨_,_,ab,aa.1,aa.2⟩
theorem WT{ops:Array Oper}{rest:List Oper}{o:Oper}{a:Act}{w:World}{Q:Exit->Act->World->Prop}(R:o.guard=none)(s x:Operand)
 (ab:o.op= .call {callee:= .builtin .append,args:= #[s,x],argTypes:= #[32,3]})(base:Nat){v:Value}{n:Nat}{xs:aO}{k:Nat}
 (hs:a.eval s=v)(j:a.eval x= .int .i64 (k:Int))(u:w.ownsRow base 5 1 v n xs)(hk:0<k)(hb:n+k<=140737488355328)(aa:base<=w.heap.size)
 (h:∀v' w',w'.ownsRow base 5 1 v' (n+k) (xs++List.replicate k (.int .u8 0))->w.grownBy w' v.ownBlock->wpList prog ops Q rest (a.put o.dst v') w'):wpList prog ops Q (o::rest) a w:=by
 obtain⟨v',w',ac,I,E⟩:=WS w base o.type v n xs u k hk hb aa;exact Lib.wpList_append_run w R s x _ _ ab v _ hs j v' w' ac (h v' w' I E)
theorem sH{ops:Array Oper}{rest:List Oper}{o:Oper}{a:Act}{w:World}{Q:Exit->Act->World->Prop}(R:o.guard=none)(s x:Operand)
 (ab:o.op= .call {callee:= .builtin .append,args:= #[s,x],argTypes:= #[32,32]})(base:Nat){v:Value}{n m c:Nat}{xs ys:aj}{j:aN}
 (hs:a.eval s=v)(E:a.eval x= .slice j m c)(u:w.ownsRow base 5 1 v n (xs.map Y))(ac:ys.length=m)(an:j=none->m=0/\c=0)(hc:aK w j (ys.map Y))
 (hb:n+m<=140737488355328)(ai:base<=w.heap.size)
 (h:∀v' w',w'.ownsRow base 5 1 v' (n+m) ((xs++ys).map Y)->w.grownBy w' v.ownBlock->wpList prog ops Q rest (a.put o.dst v') w'):wpList prog ops Q (o::rest) a w:=by
 obtain⟨aa,I,ao,ae,ag⟩:=info_parts xu;cases j with
 |none=>
  obtain⟨rfl,rfl⟩:=an F;have am:ys=[]:=length_eq_zero_iff.1 ac;subst am;have al:=h v w (by simpa using u) (yA w _);exact wpList_append_own_none R s x 32 ab base 5 aa 1 underlying32 I v n (xs.map Y) hs u E al
 |some y=>
  exact wpList_append_own w R s x 32 ab base 5 aa (.int .u8 0) 1 1 underlying32 I ao ae ag F aX v n (xs.map Y) hs u y m c (ys.map Y) E
   (by rw[length_map,ac,Nat.mul_one]) (wX hc) (b_ _) (by unfold maxLen;omega) J ai (fun v' w' af ad _=>h v' w' (by rw[map_append];exact af) ad)
theorem pG{w:World}{B:Nat}{e:TypeId}{u n:Nat}{v:Value}{xs:aO}(h:w.ownsRow B e u v n xs):∀g,v.ownBlock=some g->B<=g:=by
 intro g j;rcases h.2 with⟨rfl,_⟩|⟨E,I,cu,rfl,hb,_⟩
 ·cases j
 ·simp[Value.ownBlock]at j;omega
theorem WU{s p q:aj}{m:Nat}(j:p.length=32*m)(u:q.length=32):gZ s (p++q) (m+1)=qW (gZ s p m) q:=by
 rw[gZ,DJ _ J,<-j,drop_left,take_of_length_le J]
theorem WV(s t:aj)(n:Nat):lg s t n=gZ s (qx t++(List.replicate 24 0++dG (UInt64.ofNat n))) ((qx t).length / 32+1):=by
 have h:=OZ t;rw[WU J F];rfl
theorem WW(d:Int)(h:0<=d)(j:d<=255):((UInt8.ofNat d.toNat).toNat:Int)=d:=by rw[UInt8.toNat_ofNat'];omega
theorem WX(d:Int)(h:0<=d)(j:d<=255):(List.replicate 64 (Value.int .u8 0)).set 63 (.int .u8 d)=(lS d).map Y:=by
 unfold lS;rw[map_set];have:Y (UInt8.ofNat d.toNat)= .int .u8 d:=by
  unfold Y;rw[WW d h j]
 rw[this];rfl
theorem WY{w:World}{B n c:Nat}{e:TypeId}{E:Nat}{a:aN}{xs:aO}(h:w.ownsRow B e E (.slice a n c) n xs):∀x,a=some x->B<=x.block:=by
 intro x u;rcases h.2 with⟨j,_⟩|⟨I,R,cu,j,hb,_⟩
 ·injection j with j _ _;rw[j]at u;cases u
 ·injection j with j _ _;rw[j]at u;cases u;exact hb
theorem WZ(d:Int)(t:aj)(n c:Nat)(a:aN)(w:World)(dy:0<=d)(dC:d<=255)(ht:t.length=n)(hn:n<=1099511627776)(bS:aK w a (t.map Y)):
 Calls prog 108 #[.int .i64 d,.slice a n c] w fun e w'=>e= .returned (.agg ((lg (lS d) t n).map Y).toArray)/\X w w':=by
 obtain⟨cs,dz,bX⟩:=aW ht bS (WV (lS d) t n);have d5:Hid (((lg (lS d) t n).map Y).length=64):=O (by rw[length_map,Bd]);have b':Hid (qx t=t++128::List.replicate (31 - n%32) 0):=O (by rw[<-ht];rfl);have ew:IntKind.u8.wrap d=d:=IntWalk.u8_in _ J;have di:=O (WX d dy dC);have bu:=JE d;have d9:=fun w=>DN n w J;generalize lg (lS d) t n=bA at*;generalize lS d=s0 at*;generalize cw:dG (UInt64.ofNat n)=af at*;have cx:Hid (af.length=8):=O (by rw[<-cw];rfl);have bq:=O bu;clear ht bS bu cw;go_enter func108,ntmps108;go_wp2_with fail;generalize aM:World.alloc (World.alloc w _) _=ai;have cI:ah ai w.heap.size (List.replicate 64 (.int .u8 0)) 77:=by rw[<-aM];exact(ah.aI F F).alloc _
 have bk:ah ai (w.heap.size+1) (s0.map Y) 77:=by rw[<-aM,<-di.out];exact ah.aI aF F
 have bj:X w ai:=by rw[<-aM];exact((X.refl w).alloc _).alloc _
 have en:w.heap.size+1<ai.heap.size:=bk.lt;clear aM;refine(DL t a n c ai cs J (dz.ext bj)).mono ?_;rintro e aa ⟨v,rfl,cA, -,ab⟩;obtain⟨b0,cd,bz,b6⟩:=bU cA (bj.ext ab) (cI.ext ab) (bk.ext ab);have cb:ai.heap.size<=aa.heap.size:=ab.size;clear cI bk bj ab cA;generalize ai.heap.size=B at*;have ar:ah (aa.alloc (.cells #[.int .u8 128] 5)) aa.heap.size (([128]:aj).map Y) 5:=ah.aI F F;have E:X aa (aa.alloc (.cells #[.int .u8 128] 5)):=(X.refl aa).alloc _;obtain⟨al,ap,aq,av⟩:=bU (dQ b0 E) (bz.ext E) (b6.ext E) (cd.ext E);have am:B<=(aa.alloc (.cells #[.int .u8 128] 5)).heap.size:=Nat.le_trans cb E.size;go_wp2_with (at_builtin;refine sH F _ _ F B (ys:=[128]) F F al F (by intro h;cases h) (aK.eG ar) J am ?_);generalize aa.alloc (.cells #[.int .u8 128] 5)=w2 at*;intro v3 c7 cj g3;have bN:=O cj;have aL:=fun ag h=>pG al ag h;obtain⟨ch,cm,b7⟩:=aW (ap.grown g3 (by intro h;have:=aL _ h.symm;omega)) (aq.grown g3 (by intro h;have:=aL _ h.symm;omega)) (av.grown g3 (by intro k hk;have:=aL _ hk;omega));have cr:B<=c7.heap.size:=Nat.le_trans am g3.size;clear cj g3 aL ar E al ap aq av am b0 bz b6 cd cb;go_wp2;go_loopw [6] (fun x wr=>∃j:Nat,n+1+j<=n+1+(31 - n%32)/\Hid (wr.ownsRow B 5 1 x (n+1+j) ((t++[128]++List.replicate j 0).map Y))/\Hid (ah wr w.heap.size (List.replicate 64 (.int .u8 0)) 77)/\Hid (ah wr (w.heap.size+1) (s0.map Y) 77)/\Hid (X w wr)/\B<=wr.heap.size)
  (fun x _=>n+100 - zf x)
 case atStart=>exact⟨0,J,O (by rw[replicate_zero,append_nil,map_append];exact bN),ch,cm,b7,cr⟩
 case round=>
  obtain⟨j,c8,ac,a8,hs,bl,aR⟩:=hrel;obtain⟨ek,ex,rfl,cM,dv,b4,co⟩:=nT ac;obtain⟨bw,c4⟩:=aB co b4;clear co b4;obtain⟨eB,a7⟩:=aC (t++[128]++List.replicate j 0);rw[a7]at ac bw;have a3:=O a7;clear a7;by_cases bm:j<31 - n%32
  ·have bt:((n:Int)+1+j).tmod 32=((n:Int)+1+j)%32:=Int.tmod_eq_emod_of_nonneg J;have eh:(((n:Int)+1+j)%32 != 0)=true:=by rw[bne_iff_ne];omega
   have ar:ah (wr.alloc (.cells #[.int .u8 0] 5)) wr.heap.size (([0]:aj).map Y) 5:=ah.aI F F;have E:X wr (wr.alloc (.cells #[.int .u8 0] 5)):=(X.refl wr).alloc _;obtain⟨al,ap,aq,av⟩:=bU (dQ ac E) (a8.ext E) (hs.ext E) (bl.ext E);have am:B<=(wr.alloc (.cells #[.int .u8 0] 5)).heap.size:=Nat.le_trans aR E.size;go_wp2_with (at_builtin;refine sH F _ _ F B (ys:=[0]) F F al F (by intro h;cases h) (aK.eG ar) J am ?_);generalize wr.alloc (.cells #[.int .u8 0] 5)=ev at*;intro ed cc bc g5;have c6:=O bc;have aw:=fun ag h=>pG al ag h;obtain⟨ds,cS,c1⟩:=aW (ap.grown g5 (by intro h;have:=aw _ h.symm;omega)) (aq.grown g5 (by intro h;have:=aw _ h.symm;omega)) (av.grown g5 (by intro k hk;have:=aw _ hk;omega));have dq:B<=cc.heap.size:=Nat.le_trans am g5.size;obtain⟨ey,ei,ae, -, -, -, -⟩:=nT bc;have cY:=O ae;clear bc g5 aw ar E al ap aq av am ae;go_wp2;go_roundw
   case rel=>
    refine⟨j+1,J,O ?_,ds,cS,c1,dq⟩;have ao:t++[128]++List.replicate (j+1) 0=(t++[128]++List.replicate j 0)++[0]:=by rw[replicate_succ',append_assoc (t++[128])]
    rw[ao,a3.out,map_append];exact c6
   case measure=>
    rw[cY.out];simp only[zf];omega
  ·have c2:j=31 - n%32:=J;subst c2;have be:t++[128]++List.replicate (31 - n%32) 0=qx t:=by rw[b'.out,append_assoc];rfl
   have b9:=a3.out;rw[be]at b9;subst b9;obtain⟨I,aD⟩:∃I,n+1+(31 - n%32)=32*I:=⟨(n+1+(31 - n%32)) / 32,J⟩;have cq:(qx t).length=32*I:=by rw[<-be,length_append,length_append,length_replicate,cs.out,<-aD];rfl
   have eg:32*I<=1099511627776+32:=J;rw[aD]at ac cM;rw[aD];have bt:(32*(I:Int)).tmod 32=0:=by
    rw[Int.tmod_eq_emod_of_nonneg J];omega
   have hcut:(qx t).length / 32+1=I+1:=J;rw[hcut]at bX;clear hcut aD bm c8 be a3 b';generalize qx t=ad at*;have bE:=O cq;clear cq;go_wp2_with (at_builtin;refine WT F _ _ F B (k:=24) F F ac J J aR ?_);intro cN bh cB g6;have ae:=fun ag h=>pG ac ag h;have cl:Hid (bh.ownsRow B 5 1 cN (32*I+24) ((ad++List.replicate 24 0).map Y)):=O (by rw[map_append];exact cB);obtain⟨bL,cH,bR⟩:=aW (a8.grown g6 (by intro h;have:=ae _ h.symm;omega)) (hs.grown g6 (by intro h;have:=ae _ h.symm;omega)) (bl.grown g6 (by intro k hk;have:=ae _ hk;omega));have cp:B<=bh.heap.size:=Nat.le_trans aR g6.size;clear cB g6 ae ac a8 hs bl aR bw c4;have ca:ad++List.replicate 24 0++af=ad++(List.replicate 24 0++af):=append_assoc ..;generalize c9:ad++List.replicate 24 0=ee at*;have bv:=O ca;clear ca;go_wp2_with fail;refine(d9 bh).mono ?_;rintro e cV ⟨rfl,cC,an⟩;obtain⟨a2,b5,bO,cG⟩:=bU (dQ cl an) (bL.ext an) (cH.ext an) (bR.ext an);have cF:B<=cV.heap.size:=Nat.le_trans cp an.size;go_wp2_with (at_builtin;refine sH F _ _ F B (ys:=af) F F a2 cx (by intro h;cases h) (aK.eG cC) J cF ?_);intro cT cP cK az;have aE:=fun ag h=>pG a2 ag h;obtain⟨cQ,dk,du⟩:=aW (b5.grown az (by intro h;have:=aE _ h.symm;omega)) (bO.grown az (by intro h;have:=aE _ h.symm;omega)) (cG.grown az (by intro k hk;have:=aE _ hk;omega));have bd:cP.ownsRow B 5 1 cT (32*(I+1)) ((ad++(List.replicate 24 0++af)).map Y):=by
    rw[<-bv.out,map_append,show 32*(I+1)=32*I+24+8 by omega];simpa using cK
   have bo:(ad++(List.replicate 24 0++af)).length=32*(I+1):=by
    rw[length_append,length_append,length_replicate,bE.out,cx.out];omega
   generalize ad++(List.replicate 24 0++af)=bb at*;obtain⟨c0,d7,rfl,dj,dE,br,ck⟩:=nT bd;have cf:=WY bd;obtain⟨b2,c5,d6,dd⟩:=bU bo ck br cf;clear cK az aE bd ck br cf cC an a2 b5 bO cG cl bL cH bR cp cF c9 bv bE bo bt;unfold maxLen at dE;go_wp2;clear cM dv bN ch cm b7 cr;go_loopw [6] (fun x wr=>∃(k n' c':Nat) (a':aN),x= .slice a' n' c'/\n'+32*k=32*(I+1)/\n'<=c'/\c'<=9223372036854775807/\Hid (a'=none->c'=0)/\Hid (∀x,a'=some x->B<=x.block)/\
    Hid (aK wr a' ((bb.drop (32*k)).map Y))/\Hid (ah wr (w.heap.size+1) ((gZ s0 bb k).map Y) 77)/\Hid (ah wr w.heap.size (List.replicate 64 (.int .u8 0)) 77)/\Hid (X w wr))
    (fun x _=>zf x)
   case atStart=>exact⟨0,_,d7,c0,F,J,dj,J,d6,dd,O (by rw[Nat.mul_zero,drop_zero];exact c5),dk,cQ,du⟩
   case round=>
    obtain⟨k,n',c',a',rfl,hk,ez,ec,bB,cX,cn,a6,cL,cy⟩:=hrel;by_cases el:0<n'
    ·have er:decide ((0:Int)<(n':Int))=true:=aQ J;have bm:32<=n':=J;have d3:(bb.drop (32*k)).length=n':=by rw[length_drop,b2.out];omega
     have d8:a'≠none:=fun e=>by have:=bB.out e;omega
     obtain⟨gb,off,rfl,cz⟩:=cn.gQ (by rw[length_map,d3];omega);have ej:B<=gb:=cX.out _ F;obtain⟨u,a1⟩:=aC ((bb.drop (32*k)).take 32);have bp:∀i,i<32->wr.cell? ⟨gb,off+i,none⟩=some (.int .u8 ((u[i]?.getD 0).toNat:Int)):=by
      intro i cD;refine cz i _ ?_;rw[<-a1,List.getElem?_take_of_lt cD];exact zD J
     have ct:gZ s0 bb (k+1)=qW (gZ s0 bb k) u:=by rw[gZ,a1]
     have cU:=O ct;have cE:(gZ s0 bb k).length=64:=iV bq k;generalize gZ s0 bb k=R at*;obtain⟨a0,dc⟩:=aB cE bp;clear bp cz d8 ct cE a1;go_wp2;go_loopw [32] (fun x ce=>∃i:Nat,i<=32/\x= .int .i64 i/\Hid (ah ce (w.heap.size+1) ((kS R u i).map Y) 77)/\Hid (wr.grownBy ce (some (w.heap.size+1))))
      (fun x _=>32 - (intOf x).toNat)
     case atStart=>exact⟨0,J,F,a6,O (yA _ _)⟩
     case round=>
      obtain⟨i,cD,rfl,a9,a5⟩:=hrel;by_cases d2:i<32
      ·have eD:decide ((i:Int)<32)=true:=aQ J;have dt:some gb≠some (w.heap.size+1):=by intro e;injection e;omega
       have ba:=dc.out i d2;have ci:=block_lt_of_cell ba;have em:∀nq,(wr.drewN nq).cell? ⟨gb,off+i,none⟩=some (.int .u8 ((u[i]?.getD 0).toNat:Int)):=fun nq=>by
        rw[<-ba];exact World.cell?_of_block (a5.block gb ci dt)
       have eE:(0:Int)<=(i:Int):=J;have ef:(i:Int)<32:=J;have eC:(i:Int)<64:=J;have et:(i:Int)<(n':Int):=J;have eA:(kS R u i).length=64:=by rw[zx];exact a0
       have cv:kS R u (i+1)=(kS R u i).set i (vO ((kS R u i)[i]?.getD 0) (u[i]?.getD 0)):=F;generalize kS R u i=ws at*;have c_:=O cv;have bi:=O a9.out;have eb:∀nq,(wr.drewN nq).cell? ⟨w.heap.size+1,i,none⟩=some (.int .u8 ((ws[i]?.getD 0).toNat:Int)):=fun nq=>(bi.drewN (n:=nq)).cell' (zD J);have ep:∀nq,(wr.drewN nq).frozen? ⟨w.heap.size+1,i,none⟩=false:=fun nq=>(bi.drewN (n:=nq)).frozen i;have d':=Jb (ws[i]?.getD 0) (u[i]?.getD 0);clear cv ba ci;go_wp2;refine qV (C:=fun w'=>∃n,w'=wr.drewN n) 9 au au ⟨1,F⟩ ?_;simp only[take_succ_cons,take_zero,drop_succ_cons,drop_zero];iterate 9 quiet_step (fail)
       refine wpQuiet_nil ?_;rintro _ ⟨nq,rfl⟩;go_wp2;have cg:=(bi.drewN (n:=nq)).set i (Y (vO (ws[i]?.getD 0) (u[i]?.getD 0)));rw[<-map_set,<-c_.out]at cg;have dr:=yB (Ja a5 nq) i (.int .u8 ((vO (ws[i]?.getD 0) (u[i]?.getD 0)).toNat:Int));go_roundw
       case rel=>exact⟨i+1,J,by go_num,O cg,O dr⟩
       case measure=>simp[intOf];omega
      ·have d1:i=32:=J;subst d1;have b8:((kS R u 32).map Y).length=64:=by rw[length_map,zx];exact a0
       go_wp2_with (refine bV F _ _ F F a9 jT b8 ?_);refine(VF (kS R u 32) (by rw[zx];exact a0) wr).mono ?_;rw[show zu (kS R u 32)=qW R u from F,<-cU.out];rintro e aa ⟨rfl,ab⟩;have dm:((gZ s0 bb (k+1)).map Y).length=64:=by rw[length_map];exact iV bq _
       generalize b3:gZ s0 bb (k+1)=r at*;go_wp2_with (refine bg F _ _ _ F F F (a9.ext ab) jT b8 dm (b_ _) ?_);intro w2 bx b1;have ax:=A_ (yC a5 ab) b1;obtain⟨dl,cW,c3,dT,db⟩:=dM bx (cn.grown ax (by intro x a_;cases a_;intro e;injection e with e;simp only at e;omega)) (cL.grown ax (by intro e;injection e with e;omega)) (cy.grown ax (by intro ea d0;cases d0;omega)) b3;clear bx b1 ax ab b3;go_wp2_with (refine zy F _ _ _ _ F (k:=32) F F underlying32 gu bm ?_);go_roundw
       case rel=>
        refine⟨k+1,n' - 32,c' - 32,_,F,J,J,J,O fun e=> ?_,O ?_,O ?_,by rw[db.out];exact dl,c3,dT⟩
        ·have:=bB.out (FM.1 e);omega
        ·intro x a_;have ao:=Dx (r:=some (x.block)) (c:=c') (k:=32) (a:=some ⟨gb,off,none⟩);by_cases dg:gb=x.block
         ·omega
         ·exact absurd F (ao (by intro y dx;cases dx;intro e;injection e with e;exact dg e) x a_)
        ·have ao:=cW.shift c' 32 (n' - 32) J;rw[<-map_drop,drop_drop,take_of_length_le (by rw[length_map,length_drop,b2.out];omega)]at ao;rwa[show 32*k+32=32*(k+1) by omega]at ao
       case measure=>simp[zf];omega
    ·have dp:n'=0:=J;subst dp;have da:k=I+1:=J;subst da;rw[<-bX.out]at a6;have a4:=d5;have df:=b_ bA;generalize cJ:bA.map Y=eo at*;have cR:=O cJ;clear cJ;go_wp2_with (first|(refine bV F _ _ F F a6 jT a4 ?_)|(refine bg F _ _ _ F F F cL jT F a4 df ?_));intro cc de d4;go_wp2;refine gG F F de jT a4 F ⟨by rw[cR.out],d4.ext cy bG⟩
theorem uV(d:Int)(t:aj)(n c:Nat)(a:aN)(w:World)(ar:0<=d)(az:d<=255)(ht:t.length=n)(hn:n<=1099511627776)(am:aK w a (t.map Y)):
 Calls prog 70 #[.int .i64 d,.slice a n c] w fun e w'=>e= .returned (.agg ((dY d t).map Y).toArray)/\X w w':=by
 have av:=O am;have ap:=fun w' (h:aK w' a (t.map Y))=>WZ d t n c a w' ar az ht hn h;have a1:Hid (((lg (lS d) t n).map Y).length=64):=O (by rw[length_map,Bd]);have j:Hid (((dY d t).map Y).length=32):=O (by rw[length_map,j_]);have a5:Hid (((lg (lS d) t n).map Y).take 32=(dY d t).map Y):=O (by rw[dY,ht,map_take]);have aE:=b_ (lg (lS d) t n);have ac:=b_ (dY d t);generalize a2:(dY d t).map Y=u at*;generalize (lg (lS d) t n).map Y=a6 at*;clear am a2 ht;go_enter func70,ntmps70;go_wp2_with fail;generalize R:World.alloc w _=af;have al:ah af w.heap.size (List.replicate 32 (.int .u8 0)) 31:=by rw[<-R];exact ah.aI F F
 have ab:X w af:=by rw[<-R];exact(X.refl w).alloc _
 clear R;refine(ap _ (av.ext ab)).mono ?_;rintro e I ⟨rfl,aa⟩;obtain⟨ae,a3⟩:=aB (al.ext aa) (ab.ext aa);have a8:w.heap.size<I.heap.size:=ae.lt;clear al ab aa;go_wp2_with (refine bg F _ _ _ F F F (ah.aI F F) jT F a1 aE ?_);intro w2 ad an;have e2:X I w2:=an.ext ((X.refl I).alloc _) bG;obtain⟨aM,aD,aL⟩:=aW (ae.ext e2) (a3.ext e2) ad;clear e2 an ad;go_wp2;refine qV (C:=fun w'=>∃n,w'=w2.drewN n) 2 au au ⟨1,F⟩ ?_;simp only[take_succ_cons,take_zero,drop_succ_cons,drop_zero];iterate 2 quiet_step (fail)
 refine wpQuiet_nil ?_;rintro _ ⟨nq,rfl⟩;have ao:aK (w2.drewN nq) (some ⟨I.heap.size,0,none⟩) u:=by
  have:=aK.eG (aL.drewN (n:=nq));have aw:=this.take 32;rwa[a5.out]at aw
 have aq:=O ao;clear ao;go_wp2_with (first|(refine zA F _ _ _ _ F F F (aM.drewN (n:=nq)) underlying32 gu j F (fun e=>by cases e) aq aF ac ?_));intro a4 E ag;have ai:fV (List.replicate 32 (.int .u8 0)) 0 u=u:=by
  unfold fV;rw[take_zero,nil_append,drop_of_length_le (by rw[j.out];simp),append_nil]
 change ah a4 _ (fV (List.replicate 32 (.int .u8 0)) 0 u) _ at E;rw[ai]at E;have ax:=O (ag.ext (aD.drewN nq) bG);clear ai ag;go_wp2_with (first|(refine bV F _ _ F F E bY j ?_)|(refine bg F _ _ _ F F F E bY j j ac ?_));intro a7 aR a0;go_wp2;refine gG F F aR bY j F ⟨F,a0.ext ax bG⟩
theorem iy{P:Program}{E:Func}{I:Ending->World->Prop}{a:Act}{w:World}{p u:Tmp}{ty:TypeId}{g:Nat}{vs:aO}{T:TypeId}
 (ad:E.results= #[.cell p ty,.tmp u])(aa:a.tmps.getD p undef= .pointer (some ⟨g,0,none⟩))(hb:ah w g vs T)
 {n:Nat}(ht:iH P ty n)(hn:vs.length=n)
 (ab:a.defers=[])(ac:I (.returned (.tuple #[.agg vs.toArray,a.tmps.getD u undef])) w):bodyPost P E I .ret a w:=by
 have j:=AV (P:=P) (off:=0) hb ht J;have R:(vs.drop 0).take n=vs:=by simp[<-hn]
 rw[R]at j;refine bodyPost_ret ?_ ab ac;rw[results_cell_tmp ad,aa];simp[asAddr,j]
theorem F8{P:Program}{I:Func}{R:Ending->World->Prop}{a:Act}{w:World}{p u q:Tmp}{ty:TypeId}{g:Nat}{vs:aO}{T:TypeId}
 (ad:I.results= #[.cell p ty,.tmp u,.tmp q])(j:a.tmps.getD p undef= .pointer (some ⟨g,0,none⟩))(hb:ah w g vs T)
 {n:Nat}(ht:iH P ty n)(hn:vs.length=n)
 (ab:a.defers=[])(ac:R (.returned (.tuple #[.agg vs.toArray,a.tmps.getD u undef,a.tmps.getD q undef])) w):bodyPost P I R .ret a w:=by
 have E:=AV (P:=P) (off:=0) hb ht J;have aa:(vs.drop 0).take n=vs:=by simp[<-hn]
 rw[aa]at E;refine bodyPost_ret (v:= .tuple #[.agg vs.toArray,a.tmps.getD u undef,a.tmps.getD q undef]) ?_ ab ac;simp only[Array.getD_eq_getD_getElem?]at j;simp[results,ad,j,asAddr,E]
def zeros(n:Nat):Value:= .agg (List.replicate n (.int .u8 0)).toArray
theorem JI(n:Nat):∀v∈List.replicate n (Value.int .u8 0),v.oneCell'=true:=by intro v j;rw[mem_replicate]at j;rw[j.2];rfl
theorem O4{t:TypeId}{n:Nat}(ht:prog.underlying t=some (.array n 5))(xs ys:aj)(j:xs.length=n)(u:ys.length=n)(w:World):
 (binOp .eql t (.agg (xs.map Y).toArray) (.agg (ys.map Y).toArray)).run prog w= .ok (.bool (xs==ys)) w:=
 run_eql_bytes w t 5 n ht underlying5 (fun w=>by kernel_rfl) xs ys j u
theorem vY{t:TypeId}{n:Nat}(ht:prog.underlying t=some (.array n 5))(xs ys:aj)(j:xs.length=n)(E:ys.length=n)(w:World):
 (binOp .neq t (.agg (xs.map Y).toArray) (.agg (ys.map Y).toArray)).run prog w= .ok (.bool (!(xs==ys))) w:=by
 have h:=run_equalIn_bytes w 9998 t 5 n ht underlying5 (fun w=>by kernel_rfl) xs ys j E;rw[run_neq_struct];have u:(Op.equalIn 10000 t (.agg (xs.map Y).toArray) (.agg (ys.map Y).toArray)).run prog w= .ok (xs==ys) w:=h;rw[u];rfl
theorem O5:prog.eqGuardType prog.depth 31=false:=au
section
open Go Go.RowKit
section
variable {P:Program} {ops:Array Oper} {rest:List Oper} {o:Oper} {a:Act} {w:World} {Q:Exit->Act->World->Prop}
theorem U5(j:Region.wanted o (yielded ops a.tmps)=true)(h:∀K:Act->World->Prop,(∀a w,wpList P ops Q rest a w->K a w)->o.wp P a w K Q):wpList P ops Q (o::rest) a w:=
 wpList_step fun K u=>by rw[if_pos j];exact h K u
theorem O6(I:Region.wanted o (yielded ops a.tmps)=true)(ty:TypeId)(x:Operand)(E:o.op= .load ty x){g:Nat}{vs:aO}{T:TypeId}
 (u:a.eval x= .pointer (some ⟨g,0,none⟩))(hb:ah w g vs T){n:Nat}(ht:iH P ty n)(hn:vs.length=n)
 (h:wpList P ops Q rest (a.put o.dst (.agg vs.toArray)) w):wpList P ops Q (o::rest) a w:=
 U5 I fun K R=>by
  have j:=AV (P:=P) (off:=0) hb ht J;have aa:(vs.drop 0).take n=vs:=by simp[<-hn]
  rw[aa]at j;unfold Oper.wp execOp;simp only[E,u,Instr.loadAt,Instr.sureAddr,Sem.run_bind,Sem.run_pure,Result.andThen_ok,j];exact R _ _ h
end
theorem F9{P:Program}{d:Nat}{xs ys:Array Value}{f:Field}{j:List Field}{a b:Value}{w:World}(hn:f.name≠ "_")(u:(part f.type xs f.offset).run P w= .ok a w)(E:(part f.type ys f.offset).run P w= .ok b w)(I:(Op.equalIn d f.type a b).run P w= .ok true w):
 (Op.eqFields d xs ys (f::j)).run P w=(Op.eqFields d xs ys j).run P w:=by
 simp[Op.eqFields,hn,u,E,I]
theorem O7{P:Program}{t:TypeId}{k:IntKind}{xs:Array Value}{off:Nat}{v:Value}{w:World}(ht:P.underlying t=some (.int k))(j:xs[off]? =some v):(part t xs off).run P w= .ok v w:=by
 simp[part,isAgg,run_underlying ht,j]
theorem O8{P:Program}{t e:TypeId}{n m:Nat}{xs:Array Value}{off:Nat}{w:World}(ht:P.underlying t=some (.array n e))(hs:P.cellsOf t=m):(part t xs off).run P w= .ok (.agg (xs.extract off (off+m))) w:=by
 obtain⟨i,j⟩:=info_of_underlying ht;simp[part,isAgg,run_underlying ht,run_sizeOf w j,hs]
end
theorem JJ{r:Result Value}{v v':Value}{w w':World}{x:Option Nat}(u:r= .ok v w)(j:r= .ok v' w')(E:v.ownBlock=x):v'.ownBlock=x:=by
 rw[u]at j;injection j with I e2;rw[<-I,E]
def uX(d:Int)(t:aj)(n:Nat):Value:=
 if d<0∨255<d then .tuple #[zeros 32,.int .i64 3]else if n<=1048576 then .tuple #[.agg ((dY d t).map Y).toArray,.int .i64 0]else .tuple #[zeros 32,.int .i64 5]
theorem Gf(d:Int)(t:aj)(n c:Nat)(a:aN)(w:World)(ht:t.length=n)(hnc:n<=c)(hc:c<=9223372036854775807)(aw:a=none->c=0)(aE:aK w a (t.map Y)):
 Calls prog 94 #[.int .i64 d,.slice a n c] w fun e w'=>e= .returned (uX d t n)/\X w w':=by
 obtain⟨V,af⟩:=aC (uX d t n);rw[af];unfold uX at af;obtain⟨aa,ag,aL,aM⟩:=bU af ht aE aw;clear ht aE aw af;go_enter func94,ntmps94;go_wp2_with fail;generalize ac:World.alloc (World.alloc w _) _=E;have aq:ah E w.heap.size (List.replicate 32 (.int .u8 0)) 31:=by rw[<-ac];exact(ah.aI F F).alloc _
 have am:ah E (w.heap.size+1) [.slice a n c] 32:=by rw[<-ac];exact ah.aI aF F
 have ap:X w E:=by rw[<-ac];exact((X.refl w).alloc _).alloc _
 clear ac;have av:fZ [(a,c,t)]=t:=by simp[fZ]
 refine(WQ [(a,c,t)] d (w.heap.size+1) 1 1 E F J ?hg am.lt ?hc ?hn ?hnc ?hcm).mono ?_
 case hg=>
  intro i ae hit
  match i,hit with
  |0,hit=>cases hit;rw[nS];simp only;rw[ag.out];exact am.cell' F
 case hc=>
  intro ae hit;simp only[mem_cons,not_mem_nil,or_false]at hit;subst hit;exact aL.ext ap
 case hn=>
  intro ae hit;simp only[mem_cons,not_mem_nil,or_false]at hit;subst hit;exact aM
 case hnc=>
  intro ae hit;simp only[mem_cons,not_mem_nil,or_false]at hit;subst hit;simp only;rw[ag.out];exact hnc
 case hcm=>
  intro ae hit;simp only[mem_cons,not_mem_nil,or_false]at hit;subst hit;exact hc
 intro e a0 h;rw[av]at h;unfold JG at h;rw[ag.out]at h;obtain⟨h,ao⟩:=h;obtain⟨al,ai⟩:=aB (aq.ext ao) (ap.ext ao);have a4:w.heap.size<E.heap.size:=aq.lt;clear aq am ap ao av;by_cases u:d<0∨255<d
 ·rw[if_pos u]at h;have j:=aa.out;rw[if_pos u]at j;subst h;have I:=O j;clear u j aa;go_wp2_with (refine bg F _ _ _ F F F al bY aF (xs:=List.replicate 32 (.int .u8 0)) aF (JI 32) ?_);intro ax R ab;go_wp2;refine iy F F R bY aF F ⟨by rw[<-I.out];unfold zeros;rfl,ab.ext ai J⟩
 ·rw[if_neg u]at h;have j:=aa.out;rw[if_neg u]at j;by_cases ad:n<=1048576
  ·rw[if_pos ad]at h j;obtain⟨rfl,az⟩:=h;have an:=WO (lS d) t n E.heap.size vX a0 (JE d) J az;rw[show(lg (lS d) t n).take 32=dY d t by rw[dY,ag.out]]at an;have ar:Hid (((dY d t).map Y).length=32):=O (by rw[length_map,j_]);have a2:=b_ (dY d t);generalize (dY d t).map Y=a3 at*;obtain⟨I,aD⟩:=aB j an;clear u j aa an az ad;go_wp2_with fail;refine aD.mono ?_;rintro e w2 ⟨rfl,e2⟩;obtain⟨a1,aR⟩:=aB (al.ext e2) (ai.ext e2);clear e2 aD;go_wp2_with (refine bg F _ _ _ F F F a1 bY aF ar a2 ?_);intro ax R ab;go_wp2;refine iy F F R bY ar F ⟨by rw[<-I.out];rfl,ab.ext aR J⟩
  ·rw[if_neg ad]at h j;subst h;have I:=O j;clear u j aa ad;go_wp2_with (refine bg F _ _ _ F F F al bY aF (xs:=List.replicate 32 (.int .u8 0)) aF (JI 32) ?_);intro ax R ab;go_wp2;refine iy F F R bY aF F ⟨by rw[<-I.out];unfold zeros;rfl,ab.ext ai J⟩
theorem W9(u:UInt64):(dG u).drop 4=gq (UInt32.ofNat u.toNat):=F
theorem O9(N:Nat)(w:World)(ab:N<=4611686018427387904):
 Calls prog 137 #[.int .i64 (N:Int)] w fun e w'=>e= .returned (.slice (some ⟨w.heap.size,4,none⟩) 4 4)/\aK w' (some ⟨w.heap.size,4,none⟩) ((gq (UInt32.ofNat N)).map Y)/\X w w':=by
 have aa:=O (DN N w ab);have u:(dG (UInt64.ofNat N)).drop 4=gq (UInt32.ofNat N):=by
  rw[W9];have:(UInt64.ofNat N).toNat=N:=by rw[UInt64.toNat_ofNat'];omega
  rw[this]
 have I:=O u;clear u;generalize dG (UInt64.ofNat N)=ad at*;go_enter func137,ntmps137;go_wp2_with fail;refine aa.mono ?_;rintro e ae ⟨rfl,E,ac⟩;have j:=aK.vP E 4 4;rw[<-map_drop,I.out,take_of_length_le (by rw[length_map];exact Nat.le_refl 4)]at j;have R:=O j;clear E j;go_wp2;go_ret;exact⟨F,R,ac⟩
def iO(x y:aj):aj:=dY 2 (x++y)
theorem tY(x y:aj):(iO x y).length=32:=j_ _ _
theorem W_(x y:aj)(w:World)(hx:x.length=32)(ao:y.length=32):
 Calls prog 158 #[.agg (x.map Y).toArray,.agg (y.map Y).toArray] w fun e w'=>e= .returned (.agg ((iO x y).map Y).toArray)/\X w w':=by
 obtain⟨bh,a8⟩:=aB hx ao;have af:Hid (((iO x y).map Y).length=32):=O (by rw[length_map,tY]);have aM:=b_ (iO x y);have av:∀R E,fZ [(some ⟨R,0,none⟩,32,x),(some ⟨E,0,none⟩,32,y)]=x++y:=by intro R E;simp[fZ]
 have a4:(x++y).length=64:=by rw[length_append,hx,ao]
 have a3:uX 2 (x++y) 64= .tuple #[.agg ((iO x y).map Y).toArray,.int .i64 0]:=by rw[uX,if_neg J,if_pos J];rfl
 obtain⟨a6,ap,aE⟩:=aW a3 a4 av;clear hx ao a3 a4 av;generalize (iO x y).map Y=bc at*;go_enter func158,ntmps158;go_wp2_with fail;generalize ad:World.alloc (World.alloc (World.alloc w _) _) _=aa;have ar:ah aa w.heap.size (x.map Y) 31:=by rw[<-ad];exact((ah.aI F F).alloc _).alloc _
 have aq:ah aa (w.heap.size+1) (y.map Y) 31:=by rw[<-ad];exact(ah.aI aF F).alloc _
 have a5:ah aa (w.heap.size+2) (List.replicate 32 (.int .u8 0)) 31:=by rw[<-ad];exact ah.aI aF F
 have a1:X w aa:=by rw[<-ad];exact((((X.refl w).alloc _).alloc _).alloc _)
 clear ad;obtain⟨bd,a9,aD,aw⟩:=bU ar aq a5 a1;clear ar aq a5 a1;obtain⟨C,u,aJ⟩:=jJ aa;refine wp_region_held_drew (S:=C) au ((u _).2 (X.refl aa).drew) (fun Z=> ?_);refine aA 0 ?_;refine aA 1 ?_;refine zo (B:=World.heap aa |>.size) (A:=8) (d:=5) (T:=31) (vs:=List.replicate 32 (.int .u8 0)) (D:=C) undef F aJ (fun _ h=>h) (fun _ h=>((u _).1 h).size) Z ?_;try dsimp only
 refine cO ?_;refine lZ 2 (β:=Nat) (fun g=> .slice (some ⟨g,0,none⟩) 2 2) (fun g w'=>ah w' g [.slice (some ⟨w.heap.size,0,none⟩) 32 32,.slice (some ⟨w.heap.size+1,0,none⟩) 32 32] 32) F F F F (fun _ _=>rfl) au au au F (fun _ _=>jw) ?phi2 ?step2 ?rest2
 case phi2=>exact fun _ _ _ h bo=>h.ext bo
 case step2=>
  intro x I br ab j;go_wp2_with fail;exact j I.heap.size _ ((X.refl I).alloc _) (ah.aI F F)
 case rest2=>
 intro g;refine aH ?_;refine lZ 3 (β:=aN×Nat) (fun b=> .slice b.1 64 b.2) (Dp 64 ((x++y).map Y)) F F F F (fun _ _=>rfl) au au au F (fun _ _=>jw) ?phi3 ?step3 ?rest3
 case phi3=>exact Dp.ext
 case step3=>
  rintro bl I ⟨aR,hb⟩ ab j;have a0:=(u I).1 aR;obtain⟨am,aL⟩:=aB hb a0;clear hb a0 aR;go_wp2_with fail;refine(zG [(some ⟨w.heap.size,0,none⟩,32,x),(some ⟨w.heap.size+1,0,none⟩,32,y)] g 2 2 I F J J ?hg ?hc ?hn ?hl).mono ?_
  case hg=>
   intro i a2 hit
   match i,hit with
   |0,hit=>cases hit;rw[nS];simp only;rw[bh.out];exact am.cell' F
   |1,hit=>cases hit;rw[nS];simp only;rw[a8.out];exact am.cell' F
  case hc=>
   intro a2 hit;simp only[mem_cons,not_mem_nil,or_false]at hit;rcases hit with rfl|rfl
   ·exact aK.eG (bd.ext aL)
   ·exact aK.eG (a9.ext aL)
  case hn=>
   intro a2 hit;simp only[mem_cons,not_mem_nil,or_false]at hit;rcases hit with rfl|rfl<;>(intro h;cases h)
  case hl=>rw[aE.out,ap.out];omega
  rintro e w2 ⟨v,rfl,own,e2⟩;rw[aE.out,ap.out]at own;obtain⟨a,c,rfl,R,E,ag,ac⟩:=nT own;go_wp2_with fail;exact j (a,c) w2 e2 ⟨R,E,ag,ac⟩
 case rest3=>
 rintro⟨a,c⟩;refine aH ?_;refine lZ 4 (β:=Unit) (fun _=> .tuple #[.agg bc.toArray,.int .i64 0]) (fun _ _=>True) F F F F (fun _ _=>rfl) au au au F (fun _ _=>jw) ?phi4 ?step4 ?rest4
 case phi4=>exact fun _ _ _ _ _=>trivial
 case step4=>
  rintro bl I ⟨_,R,E,ag,ac⟩ ab j;simp only at R E ag ac;have bk:=O ac;clear ac;go_wp2_with fail;refine(Gf 2 (x++y) 64 c a I ap R E ag bk).mono ?_;rintro e w2 ⟨rfl,e2⟩;rw[a6.out];go_wp2_with fail;exact j () w2 e2 trivial
 case rest4=>
 rintro⟨⟩;refine aH ?_;refine nR 5 ?_;refine nR 6 ?_;refine nR 7 ?_;refine wY F F F (fun _ _=>rfl) au (fun _ _=>jw) ?_;rintro b an ⟨⟨⟨ai,_⟩,_⟩,_⟩ bj hb;obtain⟨am,bq,bt,a_⟩:=bU hb (aw.ext ((u an).1 ai)) (aD.ext ((u an).1 ai)) ai;clear hb ai;refine aZ 9 ?_;intro ab j;go_wp2_with (refine bg F _ _ _ F F F am bY aF af aM ?_);intro al ax az;have ae:=az.ext ((u an).1 a_) bj;refine j _ _ ((u al).2 ae) ?_;obtain⟨a7,bp,bi,be⟩:=bU ((u al).2 ae) ax (aD.ext ae) (aw.ext ae);clear j ab az ax ae;refine aH ?_;refine aZ 10 ?_;intro ab j;go_wp2_with fail;refine j _ _ ((u al).2 ?_) ?_
 ·exact(u al).1 a7
 clear j ab;refine dH ?_;go_wp2_with (first|(refine bV F _ _ F F bp bY af ?_)|(refine bg F _ _ _ F F F bi bY aF af aM ?_));intro bu ba bm;go_wp2;refine gG F F ba bY af F ⟨F,bm.ext be J⟩
end Go.Proofs.YtjlhhnkhcbpnjaaGreatDoor
