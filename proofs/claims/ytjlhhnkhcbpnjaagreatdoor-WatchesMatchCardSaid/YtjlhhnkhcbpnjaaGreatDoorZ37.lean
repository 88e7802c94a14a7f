/- For all arguments WatchesMatch returns true and leaves them as they were; seven variables of the library are laid and tied to its text by the given tie. -/
import Derived.Test.YtjlhhnkhcbpnjaaGreatDoorCards
import Derived.Test.YtjlhhnkhcbpnjaaGreatDoorTie
import Derived.Test.YtjlhhnkhcbpnjaaGreatDoorJN22
import Derived.WalkKit
import Derived.ProofKit
import Derived.OpenShut
import Derived.ChangeMaps5
import Derived.ChangeOld
import Derived.Below
import Derived.SizedLaws
import Derived.Deep.DeepHandedRow
import Derived.Deep.DeepWitnessRowRef
import Derived.Lib.LaidTab
import Derived.Lib.TrailingZeros
import Derived.Stop.LaidErr
import Derived.LaidLaws
import Derived.Lay
namespace Go.Proofs.YtjlhhnkhcbpnjaaGreatDoor.watchesMatch
open Go.ChangeShapes Go.WideShapes Go.ChangeAt Go.RowKit
set_option linter.unusedVariables false
theorem own:ownKnob Tryz.prog.godebug=none:=aC
theorem aoA:laidOutB Tryz.prog=true:=aC
theorem aoF: "*" ++ "errors.errorString" = "*errors.errorString" :=bS
theorem aoE(u:TypeId)(h:Tryz.prog.typeName? 3 u=some "*errors.errorString"):u=419:=
 typeName_ptr_named (nm:= "errors.errorString") (by rw[aoF];kernel_rfl) aC bS u (by rw[aoF];exact h)
theorem aoH{W:World}{n:String}{g:Nat}{v:Value}(b:Tryz.prog.globalNamed n=some g)(c:W.var? Tryz.prog n=some #[v]):W.cell? ⟨g,0,none⟩=some v:=by
 have a:=World.var?_cell b c 0;simpa using a
theorem lib{W:World}(d:laidMetH Tryz.prog Rows.watchesMatchRow.laid W)(f:W.ShapedOpen Tryz.prog):uK W:=by
 have c:laidMet Tryz.prog Rows.watchesMatchRow.laid W:=d;have a:laidMet Tryz.prog [("internal/strconv.uint64pow10",Lib.tabData .u64 Lib.pow10Tab),("unicode/utf8.acceptRanges",Rows.laid_unicode_utf8_acceptRanges),("strconv.ErrRange",Rows.laid_strconv_ErrRange),("strconv.ErrSyntax",Rows.laid_strconv_ErrSyntax),("unicode/utf8.first",Rows.laid_unicode_utf8_first)] W:=c.tail.tail;have e:Lib.TabIs Tryz.prog W "internal/strconv.uint64pow10" .u64 Lib.pow10Tab:=
  Lib.tabIs_of_head (g:=1) aC (show(Tryz.prog.globals[1]?).map (·.type)=some 402 by kernel_rfl) Tryz.underlying402 Tryz.underlying246 aC aC a
 obtain⟨j,l,h, -, -, -⟩:=laid_sentinel a.tail.tail (g:=5) aC (show(Tryz.prog.globals[5]?).map (·.type)=some 290 by kernel_rfl) Tryz.underlying290 aoE Tryz.underlying419 Tryz.underlying421 F F Tryz.underlying9 aC aC;obtain⟨k,m,i, -, -, -⟩:=laid_sentinel a.tail.tail.tail (g:=4) aC (show(Tryz.prog.globals[4]?).map (·.type)=some 290 by kernel_rfl) Tryz.underlying290 aoE Tryz.underlying419 Tryz.underlying421 F F Tryz.underlying9 aC aC;exact⟨⟨Go.Proofs.cell_of_shapedOpen_int (zero:= #[.int .i64 0]) (t:=3) f (of_decide_eq_true aC) aC F aC aC Tryz.underlying3,e,
  ⟨_,_,aoH aC i⟩,⟨_,_,aoH aC h⟩⟩,fun g b=>by
  rw[show Tryz.prog.globalNamed "strings.asciiSpace" =none by kernel_rfl]at b;cases b⟩
set_option maxRecDepth 100000 in
theorem aoJ(g:Type)(enc:TypeId×Value->g)(W:World)(base:Nat)(b:Array Value)(f gs:List (DataW g))(N:List MemPlace)
 (z:∀(j:Nat) t v,Tryz.f6.params[j]? =some t->b[j]? =some v->Value.okWide Tryz.prog W .any base t v)
 (y:DataW.Whole enc Tryz.prog Tryz.f6.params.toList Rows.watchesMatchSpec.vars false W b.toList f gs N)
 (b5:(DataW.weightsEach Tryz.prog (Tryz.f6.params.toList++(OpenSpec.ofChange Rows.watchesMatchSpec).bare.plain.varTypes Tryz.prog) (f++gs)).all (·<=reachBytes)=true)(ad:uK W):
 Calls Tryz.prog 6 b W fun e i=>∃v,e= .returned v/\Rows.watchesMatchSpec.post enc Tryz.prog Tryz.f6 false true false false W b v i:=by
 have d:∀(j:Nat) t v,Tryz.f6.params[j]? =some t->b[j]? =some v->Value.okWide Tryz.prog W .any base t v:=z;have U:=y;obtain⟨p,q,w,T,rfl,b3,b4⟩:=y;have u:DataW.TrodAll enc Tryz.prog W 0 (fun _=>true) true Tryz.f6.params.toList b.toList f p:=w;rw[Tryz.params6]at u d;obtain⟨C,cb,bk,bs,a8,b6,bz,rfl,rfl,k,bc⟩:=trodAll_cons u;obtain⟨D,cc,bl,bt,a9,b7,rfl,rfl,rfl,l,bd⟩:=trodAll_cons bc;obtain⟨E,cd,bm,bu,a_,b8,rfl,rfl,rfl,n,r2⟩:=trodAll_cons bd;obtain⟨G,ce,bo,bv,a',b9,rfl,rfl,rfl,o,be⟩:=trodAll_cons r2;obtain⟨H,cf,bp,bw,ba,b',rfl,rfl,rfl,r,bh⟩:=trodAll_cons be;obtain⟨I,cg,br,bx,bb,ca,rfl,rfl,rfl,s,bi⟩:=trodAll_cons bh;obtain⟨rfl,rfl,rfl⟩:=trodAll_nil bi;obtain rfl:b= #[C,D,E,G,H,I]:=by cases b;simp_all
 obtain⟨rfl,rfl⟩:=trodVars_none T;have B:=k;have aE:∀x∈a8,x.block<W.heap.size:=by obtain⟨m,a⟩:=B;exact DataW.trod_lt m _ _ _ a
 have k1:=l;have a0:∀x∈a9,x.block<W.heap.size:=by obtain⟨m,a⟩:=k1;exact DataW.trod_lt m _ _ _ a
 have k2:=n;have a1:∀x∈a_,x.block<W.heap.size:=by obtain⟨m,a⟩:=k2;exact DataW.trod_lt m _ _ _ a
 have k3:=o;have a2:∀x∈a',x.block<W.heap.size:=by obtain⟨m,a⟩:=k3;exact DataW.trod_lt m _ _ _ a
 have k4:=r;have a3:∀x∈ba,x.block<W.heap.size:=by obtain⟨m,a⟩:=k4;exact DataW.trod_lt m _ _ _ a
 have k5:=s;have a4:∀x∈bb,x.block<W.heap.size:=by obtain⟨m,a⟩:=k5;exact DataW.trod_lt m _ _ _ a
 obtain⟨K,a5,P,aw,rfl,ae,al,b0,V⟩:=ajE (d 0 22 C F F) k;obtain⟨L,a6,Q,ax,rfl,af,am,b1,aa⟩:=ajE (d 1 22 D F F) l;obtain⟨ar,ag,rfl⟩:=aoP Tryz.underlying69 Tryz.underlying5 aC aC (d 2 69 E F F) n;obtain⟨M,a7,R,az,rfl,ai,an,b2,ab⟩:=aoO (d 3 70 G F F) o;obtain⟨ap,rfl,_,_,_⟩:=open_int Tryz.underlying3 (d 4 3 H F F) r;obtain⟨aq,rfl,_,_,ao⟩:=open_int Tryz.underlying5 (d 5 5 I F F) s;obtain⟨bj,rfl⟩:∃x:UInt8,aq=(x.toNat:Int):=by
  obtain⟨x,A⟩:=aoD ao;unfold Y at A;injection A with _ S;exact⟨x,S⟩
 clear w z;refine(anT aw ax K L a5 P a6 Q ar az M a7 R ap bj W ae al V af am aa ag ai an ab ad).mono fun e i ⟨ac,c⟩=> ?_;subst ac;exact⟨_,F,_,_,_,[],_,[],U,trodAll_mk1 (shut_bool Tryz.underlying4 _),(trodAll_cons_mk (Below.trod aoA aC (of_decide_eq_true aC) B c aE) (trodAll_cons_mk (Below.trod aoA aC (of_decide_eq_true aC) k1 c a0) (trodAll_cons_mk (Below.trod aoA aC (of_decide_eq_true aC) k2 c a1) (trodAll_cons_mk (Below.trod aoA aC (of_decide_eq_true aC) k3 c a2) (trodAll_cons_mk (Below.trod aoA aC (of_decide_eq_true aC) k4 c a3) (trodAll_cons_mk (Below.trod aoA aC (of_decide_eq_true aC) k5 c a4) trodAll_mk0)))))),F,c.frame _,fun h=>by cases h⟩
noncomputable def aoB(os:Os):World:=World.laidAll Tryz.prog os Rows.watchesMatchRow.laid
theorem aoK(os:Os):laidMet Tryz.prog Rows.watchesMatchRow.laid ((aoB os).forCall (fun _ _=>0) ⟨#[],#[.slice none 0 0,.slice none 0 0,.agg (Array.replicate 32 (.int .u8 0)),.slice none 0 0,.int .i64 0,.int .u8 0],[]⟩).memory:=
 laidMet_laidAll _ aC aC
theorem aoT{l:Type}{enc:TypeId×Value->l}{C:Checked}{os:Os}{f:FuncId}{g:Func}{s:OpenSpec}{e:List PathCond}{d:Bool}{k:List (String×DataW Unit)}(b:World)(a:Array Value)(m:b.os=os)
 (o:(b.forCall (fun _ _=>0) ⟨#[],a,[]⟩).Shaped C.prog)
 (j:Input.okWideB C.prog (b.forCall (fun _ _=>0) ⟨#[],a,[]⟩) f ⟨#[],a,[]⟩=true)
 (n:s.preRow enc C.prog g e d k (b.forCall (fun _ _=>0) ⟨#[],a,[]⟩).memory a):
 ∃(w:World) (c:Tape) (i:Input),w.os=os/\(w.forCall c i).Shaped C.prog/\i.vars=[]/\Input.okWide C.prog (w.forCall c i) .any w.heap.size f i/\
  s.preRow enc C.prog g e d k (w.forCall c i).memory i.args/\({modest:=false}:Assume).holds C.prog (lone (Frame.enter C.prog f i.args .normal) [] (w.forCall c i)):=
 ⟨b,fun _ _=>0,⟨#[],a,[]⟩,m,o,(Input.okWide_of_okWideB (base:=0) j).1,(Input.okWide_of_okWideB j).2,n,by
  simp only[Assume.holds];exact⟨aB,aB,(fun h=>by cases h),aB,aB⟩⟩
theorem aoQ(os:Os){a:Type}(enc:TypeId×Value->a):∃b,DataW.whole enc Tryz.prog ((aoB os).forCall (fun _ _=>0) ⟨#[],#[.slice none 0 0,.slice none 0 0,.agg (Array.replicate 32 (.int .u8 0)),.slice none 0 0,.int .i64 0,.int .u8 0],[]⟩).memory Tryz.f6.params.toList Rows.watchesMatchSpec.vars false #[Value.slice none 0 0,.slice none 0 0,.agg (Array.replicate 32 (.int .u8 0)),.slice none 0 0,.int .i64 0,.int .u8 0].toList 8=some ([.nil,.nil,.agg (List.replicate 32 (.lit (.int .u8 0))),.nil,.lit (.int .i64 0),.lit (.int .u8 0)],[],b):=
 ⟨[],aC⟩
set_option maxRecDepth 100000 in
theorem aoL(os:Os)(n:os.Started)(a:Type)(enc:TypeId×Value->a)(b:Stop.Interp):
 ReturnsInHanded {} Tryz.checked os 6 .any ((OpenSpec.ofChange Rows.watchesMatchSpec).preRow enc Tryz.prog Tryz.f6 Rows.watchesMatchRow.domain false Rows.watchesMatchRow.laid) (((OpenSpec.ofChange Rows.watchesMatchSpec).at b).post enc Tryz.prog Tryz.f6 false true false false):=by
 obtain⟨o,m⟩:=aoQ os enc;refine returnsInHanded_of_row (C:=Tryz.checked) (s:=OpenSpec.ofChange Rows.watchesMatchSpec) own n aC Tryz.func6
  (aoT (enc:=enc) (C:=Tryz.checked) (aoB os) #[.slice none 0 0,.slice none 0 0,.agg (Array.replicate 32 (.int .u8 0)),.slice none 0 0,.int .i64 0,.int .u8 0] (World.laidAll_os _ _ _) (World.shaped_of_ZipB aC aC) aC
   (OpenSpec.preRow_of_cond 8 m aC (fun k h=>by cases h) aC (aoK os))) ?_
 intro W base c e gs d l g _ _ j f i _;exact aoJ a enc W base c e gs d l g j (lib f i)
theorem fIn:(Rows.watchesMatchRow.inPlace==Tryz.prog.inPlace 6)=true:=aC
theorem fUn:(Rows.watchesMatchRow.unfollowed==Tryz.prog.unfollowed 6)=true:=aC
theorem fRe:(Rows.watchesMatchRow.recurses==Tryz.prog.recurses 6)=true:=aC
theorem fNa:(Rows.watchesMatchRow.named==Tryz.prog.varsNamed 6)=true:=aC
theorem aoI:joinedFacts Tryz.prog 6 Tryz.f6 (OpenSpec.ofChange Rows.watchesMatchSpec).bare Rows.watchesMatchRow=true:=by
 unfold joinedFacts;rw[fIn,fUn,fRe,fNa]
 kernel_rfl
theorem aoR:Rows.WatchesMatchSaid:=
 OpenClaim.holds_of_cond 6 Tryz.f6 F F F F F F F ⟨F,F,F,F,F⟩ F F F F F aC Tryz.func6 aoI
  (of_decide_eq_true aC) (by unfold Func.isWrapper;first|(rw[if_pos (by decide+kernel)];kernel_rfl)|(rw[if_neg (by decide+kernel)];exact⟨F,F⟩))
  (fun os c b enc _ a=>by rw[OpenClaim.pre_eq_preRow];exact aoL os c b enc a)
theorem aoC(f:FuncId)(a:Func)(d:Tryz.pinned.checked.prog.funcNamed "keywarden/keylaw1.WatchesMatch" =some f)(e:Tryz.pinned.checked.prog.funcs[f]? =some a):
 true=Tryz.pinned.checked.prog.looks []/\∀(j:Nat) t,a.params[j]? =some t->Tryz.pinned.checked.prog.wantsStandIn t=false:=by
 obtain rfl:f=6:=Option.some.inj ((show Tryz.prog.funcNamed "keywarden/keylaw1.WatchesMatch" =some 6 by kernel_rfl).symm.trans d) |>.symm
 obtain rfl:a=Tryz.f6:=(Option.some.inj (Tryz.func6.symm.trans e)).symm;refine⟨aC,fun j t b=> ?_⟩;rw[Tryz.params6]at b;have g:t∈[22,69,70,3,5]:=by simpa using Array.mem_of_getElem? b
 have c:([22,69,70,3,5].all fun u=> !Tryz.prog.wantsStandIn u)=true:=aC;exact(show Tryz.prog.wantsStandIn t=false by simpa using List.all_eq_true.1 c t g)
theorem proved:Rows.WatchesMatchCardSaid:=
 Claim7.holds_tied_plain_at .later [] _ _ _ _ aoR (fun _ h=>by cases h) aC (fun _ h=>by cases h) watchesMatch_row_tie F ⟨F,F⟩ aC F aoC aC
#print axioms proved
end Go.Proofs.YtjlhhnkhcbpnjaaGreatDoor.watchesMatch
