/- For every story and numbers, LedgersOpen returns true and leaves its arguments as they were; seven variables of the library are laid, .. -/
import Derived.Test.YtjlhhnkhcbpnjaaGreatDoorCards
import Derived.Test.YtjlhhnkhcbpnjaaGreatDoorTie
import Derived.Test.YtjlhhnkhcbpnjaaGreatDoorJ38
import Derived.Test.YtjlhhnkhcbpnjaaGreatDoorJ39
import Derived.WalkKit
import Derived.ProofKit
import Derived.OpenShut
import Derived.ChangeMaps5
import Derived.ChangeOld
import Derived.Below
import Derived.SizedLaws
import Derived.Deep.DeepHandedRow
import Derived.Deep.DeepWitnessRowRef
import Derived.Lib.LaidTab
import Derived.Lib.TrailingZeros
import Derived.Stop.LaidErr
import Derived.LaidLaws
import Derived.Lay
namespace Go.Proofs.YtjlhhnkhcbpnjaaGreatDoor.ledgersOpen
set_option linter.unusedVariables false
set_option linter.unusedSimpArgs false
open Go.ChangeShapes Go.WideShapes Go.ChangeAt Go.RowKit
set_option linter.unusedVariables false
theorem own:ownKnob Tryz.prog.godebug=none:=au
theorem Fp:laidOutB Tryz.prog=true:=au
theorem U3: "*" ++ "errors.errorString" = "*errors.errorString" :=aX
theorem U0(u:TypeId)(h:Tryz.prog.typeName? 3 u=some "*errors.errorString"):u=419:=
 typeName_ptr_named (nm:= "errors.errorString") (by rw[U3];kernel_rfl) au aX u (by rw[U3];exact h)
theorem U1{W:World}{n:String}{g:Nat}{v:Value}(u:Tryz.prog.globalNamed n=some g)(E:W.var? Tryz.prog n=some #[v]):W.cell? ⟨g,0,none⟩=some v:=by
 have j:=World.var?_cell u E 0;simpa using j
theorem lib{W:World}(I:laidMetH Tryz.prog Rows.ledgersOpenRow.laid W)(aa:W.ShapedOpen Tryz.prog):mJ W:=by
 have E:laidMet Tryz.prog Rows.ledgersOpenRow.laid W:=I;have j:laidMet Tryz.prog [("internal/strconv.uint64pow10",Lib.tabData .u64 Lib.pow10Tab),("unicode/utf8.acceptRanges",Rows.laid_unicode_utf8_acceptRanges),("strconv.ErrRange",Rows.laid_strconv_ErrRange),("strconv.ErrSyntax",Rows.laid_strconv_ErrSyntax),("unicode/utf8.first",Rows.laid_unicode_utf8_first)] W:=E.tail.tail;have R:Lib.TabIs Tryz.prog W "internal/strconv.uint64pow10" .u64 Lib.pow10Tab:=
  Lib.tabIs_of_head (g:=1) au (show(Tryz.prog.globals[1]?).map (·.type)=some 402 by kernel_rfl) Tryz.underlying402 Tryz.underlying246 au au j
 obtain⟨ad,s0,ab, -, -, -⟩:=laid_sentinel j.tail.tail (g:=5) au (show(Tryz.prog.globals[5]?).map (·.type)=some 290 by kernel_rfl) Tryz.underlying290 U0 Tryz.underlying419 Tryz.underlying421 F F Tryz.underlying9 au au;obtain⟨ae,af,ac, -, -, -⟩:=laid_sentinel j.tail.tail.tail (g:=4) au (show(Tryz.prog.globals[4]?).map (·.type)=some 290 by kernel_rfl) Tryz.underlying290 U0 Tryz.underlying419 Tryz.underlying421 F F Tryz.underlying9 au au;exact⟨⟨Go.Proofs.cell_of_shapedOpen_int (zero:= #[.int .i64 0]) (t:=3) aa (of_decide_eq_true au) au F au au Tryz.underlying3,R,
  ⟨_,_,U1 au ac⟩,⟨_,_,U1 au ab⟩⟩,fun g u=>by
  rw[show Tryz.prog.globalNamed "strings.asciiSpace" =none by kernel_rfl]at u;cases u⟩
set_option maxRecDepth 100000 in
theorem aex(H:Type)(enc:TypeId×Value->H)(W:World)(base:Nat)(E:Array Value)(aa gs:List (DataW H))(aw:List MemPlace)
 (am:∀(j:Nat) t v,Tryz.f3.params[j]? =some t->E[j]? =some v->Value.okWide Tryz.prog W .any base t v)
 (al:DataW.Whole enc Tryz.prog Tryz.f3.params.toList Rows.ledgersOpenSpec.vars false W E.toList aa gs aw)
 (bR:(DataW.weightsEach Tryz.prog (Tryz.f3.params.toList++(OpenSpec.ofChange Rows.ledgersOpenSpec).bare.plain.varTypes Tryz.prog) (aa++gs)).all (·<=reachBytes)=true)(aR:mJ W):
 Calls Tryz.prog 3 E W fun e W'=>∃v,e= .returned v/\Rows.ledgersOpenSpec.post enc Tryz.prog Tryz.f3 false true false false W E v W':=by
 have R:∀(j:Nat) t v,Tryz.f3.params[j]? =some t->E[j]? =some v->Value.okWide Tryz.prog W .any base t v:=am;have aE:=al;obtain⟨p,q,ai,aD,rfl,vN,bO⟩:=al;have ag:DataW.TrodAll enc Tryz.prog W 0 (fun _=>true) true Tryz.f3.params.toList E.toList aa p:=ai;rw[Tryz.params3]at ag R;obtain⟨ap,b3,br,bx,be,bS,bL,rfl,rfl,ab,bl⟩:=trodAll_cons ag;obtain⟨aq,b4,bt,bz,bh,bX,rfl,rfl,rfl,ac,bm⟩:=trodAll_cons bl;obtain⟨v2,b5,bu,bA,bi,b0,rfl,rfl,rfl,ad,r2⟩:=trodAll_cons bm;obtain⟨v3,b6,bv,bB,bj,b1,rfl,rfl,rfl,ae,bo⟩:=trodAll_cons r2;obtain⟨ar,b7,bw,bE,bk,b2,rfl,rfl,rfl,af,bp⟩:=trodAll_cons bo;obtain⟨rfl,rfl,rfl⟩:=trodAll_nil bp;obtain rfl:E= #[ap,aq,v2,v3,ar]:=by cases E;simp_all
 obtain⟨rfl,rfl⟩:=trodVars_none aD;have ao:=ab;have a8:∀x∈be,x.block<W.heap.size:=by obtain⟨m,u⟩:=ao;exact DataW.trod_lt m _ _ _ u
 have k1:=ac;have a9:∀x∈bh,x.block<W.heap.size:=by obtain⟨m,u⟩:=k1;exact DataW.trod_lt m _ _ _ u
 have k2:=ad;have a_:∀x∈bi,x.block<W.heap.size:=by obtain⟨m,u⟩:=k2;exact DataW.trod_lt m _ _ _ u
 have k3:=ae;have ba:∀x∈bj,x.block<W.heap.size:=by obtain⟨m,u⟩:=k3;exact DataW.trod_lt m _ _ _ u
 have k4:=af;have bc:∀x∈bk,x.block<W.heap.size:=by obtain⟨m,u⟩:=k4;exact DataW.trod_lt m _ _ _ u
 obtain⟨av,bd,ax,a7,rfl,a0,a1,bN,aL⟩:=aeh (R 0 22 ap F F) ab;obtain⟨a3,rfl,_,_,_⟩:=open_int Tryz.underlying3 (R 1 3 aq F F) ac;obtain⟨a4,rfl,_,_,_⟩:=open_int Tryz.underlying3 (R 2 3 v2 F F) ad;obtain⟨a5,rfl,_,_,_⟩:=open_int Tryz.underlying3 (R 3 3 v3 F F) ae;obtain⟨a6,rfl,_,_,a2⟩:=open_int Tryz.underlying5 (R 4 5 ar F F) af;obtain⟨bq,rfl⟩:∃x:UInt8,a6=(x.toNat:Int):=by
  obtain⟨x,an⟩:=abR a2;unfold Y at an;injection an with _ az;exact⟨x,az⟩
 clear ai am;refine(aed a7 av bd ax a3 a4 a5 bq W a0 a1 aL aR).mono fun e W' ⟨aM,I⟩=> ?_;subst aM;exact⟨_,F,_,_,_,[],_,[],aE,trodAll_mk1 (shut_bool Tryz.underlying4 _),(trodAll_cons_mk (Below.trod Fp au (of_decide_eq_true au) ao I a8) (trodAll_cons_mk (Below.trod Fp au (of_decide_eq_true au) k1 I a9) (trodAll_cons_mk (Below.trod Fp au (of_decide_eq_true au) k2 I a_) (trodAll_cons_mk (Below.trod Fp au (of_decide_eq_true au) k3 I ba) (trodAll_cons_mk (Below.trod Fp au (of_decide_eq_true au) k4 I bc) trodAll_mk0))))),F,I.frame _,fun h=>by cases h⟩
noncomputable def NC(j:Os):World:=World.laidAll Tryz.prog j Rows.ledgersOpenRow.laid
theorem aep(j:Os):laidMet Tryz.prog Rows.ledgersOpenRow.laid ((NC j).forCall (fun _ _=>0) ⟨#[],#[.slice none 0 0,.int .i64 0,.int .i64 0,.int .i64 0,.int .u8 0],[]⟩).memory:=
 laidMet_laidAll _ au au
theorem aei{H:Type}{enc:TypeId×Value->H}{C:Checked}{ac:Os}{f:FuncId}{R:Func}{s:OpenSpec}{I:List PathCond}{E:Bool}{ab:List (String×DataW Unit)}(w0:World)(j:Array Value)(ad:w0.os=ac)
 (af:(w0.forCall (fun _ _=>0) ⟨#[],j,[]⟩).Shaped C.prog)
 (aa:Input.okWideB C.prog (w0.forCall (fun _ _=>0) ⟨#[],j,[]⟩) f ⟨#[],j,[]⟩=true)
 (ae:s.preRow enc C.prog R I E ab (w0.forCall (fun _ _=>0) ⟨#[],j,[]⟩).memory j):
 ∃(w:World) (u:Tape) (i:Input),w.os=ac/\(w.forCall u i).Shaped C.prog/\i.vars=[]/\Input.okWide C.prog (w.forCall u i) .any w.heap.size f i/\
  s.preRow enc C.prog R I E ab (w.forCall u i).memory i.args/\({modest:=false}:Assume).holds C.prog (lone (Frame.enter C.prog f i.args .normal) [] (w.forCall u i)):=
 ⟨w0,fun _ _=>0,⟨#[],j,[]⟩,ad,af,(Input.okWide_of_okWideB (base:=0) aa).1,(Input.okWide_of_okWideB aa).2,ae,by
  simp only[Assume.holds];exact⟨aF,aF,(fun h=>by cases h),aF,aF⟩⟩
theorem ael(j:Os){H:Type}(enc:TypeId×Value->H):∃u,DataW.whole enc Tryz.prog ((NC j).forCall (fun _ _=>0) ⟨#[],#[.slice none 0 0,.int .i64 0,.int .i64 0,.int .i64 0,.int .u8 0],[]⟩).memory Tryz.f3.params.toList Rows.ledgersOpenSpec.vars false #[Value.slice none 0 0,.int .i64 0,.int .i64 0,.int .i64 0,.int .u8 0].toList 8=some ([.nil,.lit (.int .i64 0),.lit (.int .i64 0),.lit (.int .i64 0),.lit (.int .u8 0)],[],u):=
 ⟨[],au⟩
set_option maxRecDepth 100000 in
theorem aez(j:Os)(ag:j.Started)(H:Type)(enc:TypeId×Value->H)(u:Stop.Interp):
 ReturnsInHanded {} Tryz.checked j 3 .any ((OpenSpec.ofChange Rows.ledgersOpenSpec).preRow enc Tryz.prog Tryz.f3 Rows.ledgersOpenRow.domain false Rows.ledgersOpenRow.laid) (((OpenSpec.ofChange Rows.ledgersOpenSpec).at u).post enc Tryz.prog Tryz.f3 false true false false):=by
 obtain⟨ai,af⟩:=ael j enc;refine returnsInHanded_of_row (C:=Tryz.checked) (s:=OpenSpec.ofChange Rows.ledgersOpenSpec) own ag au Tryz.func3
  (aei (enc:=enc) (C:=Tryz.checked) (NC j) #[.slice none 0 0,.int .i64 0,.int .i64 0,.int .i64 0,.int .u8 0] (World.laidAll_os _ _ _) (World.shaped_of_ZipB au au) au
   (OpenSpec.preRow_of_cond 8 af au (fun k hk=>by cases hk) au (aep j))) ?_
 intro W base E R gs I ae ab _ _ ad aa ac _;exact aex H enc W base E R gs I ae ab ad (lib aa ac)
theorem fIn:(Rows.ledgersOpenRow.inPlace==Tryz.prog.inPlace 3)=true:=au
theorem fUn:(Rows.ledgersOpenRow.unfollowed==Tryz.prog.unfollowed 3)=true:=au
theorem fRe:(Rows.ledgersOpenRow.recurses==Tryz.prog.recurses 3)=true:=au
theorem fNa:(Rows.ledgersOpenRow.named==Tryz.prog.varsNamed 3)=true:=au
theorem aes:joinedFacts Tryz.prog 3 Tryz.f3 (OpenSpec.ofChange Rows.ledgersOpenSpec).bare Rows.ledgersOpenRow=true:=by
 unfold joinedFacts;rw[fIn,fUn,fRe,fNa]
 kernel_rfl
theorem aeu:Rows.LedgersOpenSaid:=
 OpenClaim.holds_of_cond 3 Tryz.f3 F F F F F F F ⟨F,F,F,F,F⟩ F F F F F au Tryz.func3 aes
  (of_decide_eq_true au) (by unfold Func.isWrapper;first|(rw[if_pos (by decide+kernel)];kernel_rfl)|(rw[if_neg (by decide+kernel)];exact⟨F,F⟩))
  (fun u E H enc _ j=>by rw[OpenClaim.pre_eq_preRow];exact aez u E H enc j)
theorem Nz(f:FuncId)(E:Func)(hf:Tryz.pinned.checked.prog.funcNamed "keywarden/keylaw1.LedgersOpen" =some f)(R:Tryz.pinned.checked.prog.funcs[f]? =some E):
 true=Tryz.pinned.checked.prog.looks []/\∀(j:Nat) t,E.params[j]? =some t->Tryz.pinned.checked.prog.wantsStandIn t=false:=by
 obtain rfl:f=3:=Option.some.inj ((show Tryz.prog.funcNamed "keywarden/keylaw1.LedgersOpen" =some 3 by kernel_rfl).symm.trans hf) |>.symm
 obtain rfl:E=Tryz.f3:=(Option.some.inj (Tryz.func3.symm.trans R)).symm;refine⟨au,fun j t ht=> ?_⟩;rw[Tryz.params3]at ht;have aa:t∈[22,3,5]:=by simpa using Array.mem_of_getElem? ht
 have I:([22,3,5].all fun u=> !Tryz.prog.wantsStandIn u)=true:=au;exact(show Tryz.prog.wantsStandIn t=false by simpa using List.all_eq_true.1 I t aa)
theorem proved:Rows.LedgersOpenCardSaid:=
 Claim7.holds_tied_plain_at .later [] _ _ _ _ aeu (fun _ h=>by cases h) au (fun _ h=>by cases h) ledgersOpen_row_tie F ⟨F,F⟩ au F Nz au
#print axioms proved
end Go.Proofs.YtjlhhnkhcbpnjaaGreatDoor.ledgersOpen
