/- For all stories and numbers, LedgersPart returns true and leaves its arguments as they were; seven variables of the library are laid, .. -/
import Derived.Test.YtjlhhnkhcbpnjaaGreatDoorCards
import Derived.Test.YtjlhhnkhcbpnjaaGreatDoorTie
import Derived.Test.YtjlhhnkhcbpnjaaGreatDoorJ37
import Derived.Test.YtjlhhnkhcbpnjaaGreatDoorJ38
import Derived.WalkKit
import Derived.ProofKit
import Derived.OpenShut
import Derived.ChangeMaps5
import Derived.ChangeOld
import Derived.Below
import Derived.SizedLaws
import Derived.Deep.DeepHandedRow
import Derived.Deep.DeepWitnessRowRef
import Derived.Lib.LaidTab
import Derived.Lib.TrailingZeros
import Derived.Stop.LaidErr
import Derived.LaidLaws
import Derived.Lay
namespace Go.Proofs.YtjlhhnkhcbpnjaaGreatDoor.ledgersPart
set_option linter.unusedVariables false
set_option linter.unusedSimpArgs false
open Go.ChangeShapes Go.WideShapes Go.ChangeAt Go.RowKit
set_option linter.unusedVariables false
theorem own:ownKnob Tryz.prog.godebug=none:=au
theorem Fp:laidOutB Tryz.prog=true:=au
theorem U3: "*" ++ "errors.errorString" = "*errors.errorString" :=aX
theorem U0(u:TypeId)(h:Tryz.prog.typeName? 3 u=some "*errors.errorString"):u=419:=
 typeName_ptr_named (nm:= "errors.errorString") (by rw[U3];kernel_rfl) au aX u (by rw[U3];exact h)
theorem U1{W:World}{n:String}{g:Nat}{v:Value}(u:Tryz.prog.globalNamed n=some g)(E:W.var? Tryz.prog n=some #[v]):W.cell? ⟨g,0,none⟩=some v:=by
 have j:=World.var?_cell u E 0;simpa using j
theorem fI{W:World}(I:laidMetH Tryz.prog Rows.ledgersPartRow.laid W)(aa:W.ShapedOpen Tryz.prog):mJ W:=by
 have E:laidMet Tryz.prog Rows.ledgersPartRow.laid W:=I;have j:laidMet Tryz.prog [("internal/strconv.uint64pow10",Lib.tabData .u64 Lib.pow10Tab),("unicode/utf8.acceptRanges",Rows.laid_unicode_utf8_acceptRanges),("strconv.ErrRange",Rows.laid_strconv_ErrRange),("strconv.ErrSyntax",Rows.laid_strconv_ErrSyntax),("unicode/utf8.first",Rows.laid_unicode_utf8_first)] W:=E.tail.tail;have R:Lib.TabIs Tryz.prog W "internal/strconv.uint64pow10" .u64 Lib.pow10Tab:=
  Lib.tabIs_of_head (g:=1) au (show(Tryz.prog.globals[1]?).map (·.type)=some 402 by kernel_rfl) Tryz.underlying402 Tryz.underlying246 au au j
 obtain⟨ad,s0,ab, -, -, -⟩:=laid_sentinel j.tail.tail (g:=5) au (show(Tryz.prog.globals[5]?).map (·.type)=some 290 by kernel_rfl) Tryz.underlying290 U0 Tryz.underlying419 Tryz.underlying421 F F Tryz.underlying9 au au;obtain⟨ae,af,ac, -, -, -⟩:=laid_sentinel j.tail.tail.tail (g:=4) au (show(Tryz.prog.globals[4]?).map (·.type)=some 290 by kernel_rfl) Tryz.underlying290 U0 Tryz.underlying419 Tryz.underlying421 F F Tryz.underlying9 au au;exact⟨⟨Go.Proofs.cell_of_shapedOpen_int (zero:= #[.int .i64 0]) (t:=3) aa (of_decide_eq_true au) au F au au Tryz.underlying3,R,
  ⟨_,_,U1 au ac⟩,⟨_,_,U1 au ab⟩⟩,fun g u=>by
  rw[show Tryz.prog.globalNamed "strings.asciiSpace" =none by kernel_rfl]at u;cases u⟩
set_option maxRecDepth 100000 in
theorem aex(H:Type)(enc:TypeId×Value->H)(W:World)(base:Nat)(u:Array Value)(aa gs:List (DataW H))(ar:List MemPlace)
 (al:∀(j:Nat) t v,Tryz.f4.params[j]? =some t->u[j]? =some v->Value.okWide Tryz.prog W .any base t v)
 (ai:DataW.Whole enc Tryz.prog Tryz.f4.params.toList Rows.ledgersPartSpec.vars false W u.toList aa gs ar)
 (b8:(DataW.weightsEach Tryz.prog (Tryz.f4.params.toList++(OpenSpec.ofChange Rows.ledgersPartSpec).bare.plain.varTypes Tryz.prog) (aa++gs)).all (·<=reachBytes)=true)(a3:mJ W):
 Calls Tryz.prog 4 u W fun e W'=>∃v,e= .returned v/\Rows.ledgersPartSpec.post enc Tryz.prog Tryz.f4 false true false false W u v W':=by
 have R:∀(j:Nat) t v,Tryz.f4.params[j]? =some t->u[j]? =some v->Value.okWide Tryz.prog W .any base t v:=al;have aE:=ai;obtain⟨p,q,ag,az,rfl,vN,b7⟩:=ai;have af:DataW.TrodAll enc Tryz.prog W 0 (fun _=>true) true Tryz.f4.params.toList u.toList aa p:=ag;rw[Tryz.params4]at af R;obtain⟨an,cc,bv,b0,bk,b9,b4,rfl,rfl,ab,bp⟩:=trodAll_cons af;obtain⟨ao,cd,bw,b1,bl,b',rfl,rfl,rfl,ac,br⟩:=trodAll_cons bp;obtain⟨v2,ce,bx,b2,bm,ca,rfl,rfl,rfl,ad,bt⟩:=trodAll_cons br;obtain⟨v3,cf,bz,b3,bo,cb,rfl,rfl,rfl,ae,bu⟩:=trodAll_cons bt;obtain⟨rfl,rfl,rfl⟩:=trodAll_nil bu;obtain rfl:u= #[an,ao,v2,v3]:=by cases u;simp_all
 obtain⟨rfl,rfl⟩:=trodVars_none az;have am:=ab;have bc:∀x∈bk,x.block<W.heap.size:=by obtain⟨m,E⟩:=am;exact DataW.trod_lt m _ _ _ E
 have k1:=ac;have bd:∀x∈bl,x.block<W.heap.size:=by obtain⟨m,E⟩:=k1;exact DataW.trod_lt m _ _ _ E
 have k2:=ad;have be:∀x∈bm,x.block<W.heap.size:=by obtain⟨m,E⟩:=k2;exact DataW.trod_lt m _ _ _ E
 have k3:=ae;have bh:∀x∈bo,x.block<W.heap.size:=by obtain⟨m,E⟩:=k3;exact DataW.trod_lt m _ _ _ E
 obtain⟨ap,bi,aw,a_,rfl,a4,a6,b5,a0⟩:=aeh (R 0 22 an F F) ab;obtain⟨aq,bj,ax,ba,rfl,a5,a7,b6,a1⟩:=aeh (R 1 22 ao F F) ac;obtain⟨a8,rfl,_,_,_⟩:=open_int Tryz.underlying3 (R 2 3 v2 F F) ad;obtain⟨a9,rfl,_,_,_⟩:=open_int Tryz.underlying3 (R 3 3 v3 F F) ae;clear ag al;refine(xL a_ ba ap aq bi aw bj ax a8 a9 W a4 a6 a0 a5 a7 a1 a3).mono fun e W' ⟨a2,I⟩=> ?_;subst a2;exact⟨_,F,_,_,_,[],_,[],aE,trodAll_mk1 (shut_bool Tryz.underlying4 _),(trodAll_cons_mk (Below.trod Fp au (of_decide_eq_true au) am I bc) (trodAll_cons_mk (Below.trod Fp au (of_decide_eq_true au) k1 I bd) (trodAll_cons_mk (Below.trod Fp au (of_decide_eq_true au) k2 I be) (trodAll_cons_mk (Below.trod Fp au (of_decide_eq_true au) k3 I bh) trodAll_mk0)))),F,I.frame _,fun h=>by cases h⟩
noncomputable def cK(j:Os):World:=World.laidAll Tryz.prog j Rows.ledgersPartRow.laid
theorem fu(j:Os):laidMet Tryz.prog Rows.ledgersPartRow.laid ((cK j).forCall (fun _ _=>0) ⟨#[],#[.slice none 0 0,.slice none 0 0,.int .i64 0,.int .i64 0],[]⟩).memory:=
 laidMet_laidAll _ au au
theorem aei{H:Type}{enc:TypeId×Value->H}{C:Checked}{ac:Os}{f:FuncId}{R:Func}{s:OpenSpec}{I:List PathCond}{E:Bool}{ab:List (String×DataW Unit)}(w0:World)(j:Array Value)(ad:w0.os=ac)
 (af:(w0.forCall (fun _ _=>0) ⟨#[],j,[]⟩).Shaped C.prog)
 (aa:Input.okWideB C.prog (w0.forCall (fun _ _=>0) ⟨#[],j,[]⟩) f ⟨#[],j,[]⟩=true)
 (ae:s.preRow enc C.prog R I E ab (w0.forCall (fun _ _=>0) ⟨#[],j,[]⟩).memory j):
 ∃(w:World) (u:Tape) (i:Input),w.os=ac/\(w.forCall u i).Shaped C.prog/\i.vars=[]/\Input.okWide C.prog (w.forCall u i) .any w.heap.size f i/\
  s.preRow enc C.prog R I E ab (w.forCall u i).memory i.args/\({modest:=false}:Assume).holds C.prog (lone (Frame.enter C.prog f i.args .normal) [] (w.forCall u i)):=
 ⟨w0,fun _ _=>0,⟨#[],j,[]⟩,ad,af,(Input.okWide_of_okWideB (base:=0) aa).1,(Input.okWide_of_okWideB aa).2,ae,by
  simp only[Assume.holds];exact⟨aF,aF,(fun h=>by cases h),aF,aF⟩⟩
theorem ael(j:Os){H:Type}(enc:TypeId×Value->H):∃u,DataW.whole enc Tryz.prog ((cK j).forCall (fun _ _=>0) ⟨#[],#[.slice none 0 0,.slice none 0 0,.int .i64 0,.int .i64 0],[]⟩).memory Tryz.f4.params.toList Rows.ledgersPartSpec.vars false #[Value.slice none 0 0,.slice none 0 0,.int .i64 0,.int .i64 0].toList 8=some ([.nil,.nil,.lit (.int .i64 0),.lit (.int .i64 0)],[],u):=
 ⟨[],au⟩
set_option maxRecDepth 100000 in
theorem aez(j:Os)(ag:j.Started)(H:Type)(enc:TypeId×Value->H)(u:Stop.Interp):
 ReturnsInHanded {} Tryz.checked j 4 .any ((OpenSpec.ofChange Rows.ledgersPartSpec).preRow enc Tryz.prog Tryz.f4 Rows.ledgersPartRow.domain false Rows.ledgersPartRow.laid) (((OpenSpec.ofChange Rows.ledgersPartSpec).at u).post enc Tryz.prog Tryz.f4 false true false false):=by
 obtain⟨ai,af⟩:=ael j enc;refine returnsInHanded_of_row (C:=Tryz.checked) (s:=OpenSpec.ofChange Rows.ledgersPartSpec) own ag au Tryz.func4
  (aei (enc:=enc) (C:=Tryz.checked) (cK j) #[.slice none 0 0,.slice none 0 0,.int .i64 0,.int .i64 0] (World.laidAll_os _ _ _) (World.shaped_of_ZipB au au) au
   (OpenSpec.preRow_of_cond 8 af au (fun k hk=>by cases hk) au (fu j))) ?_
 intro W base E R gs I ae ab _ _ ad aa ac _;exact aex H enc W base E R gs I ae ab ad (fI aa ac)
theorem eD:(Rows.ledgersPartRow.inPlace==Tryz.prog.inPlace 4)=true:=au
theorem eZ:(Rows.ledgersPartRow.unfollowed==Tryz.prog.unfollowed 4)=true:=au
theorem eT:(Rows.ledgersPartRow.recurses==Tryz.prog.recurses 4)=true:=au
theorem eO:(Rows.ledgersPartRow.named==Tryz.prog.varsNamed 4)=true:=au
theorem aes:joinedFacts Tryz.prog 4 Tryz.f4 (OpenSpec.ofChange Rows.ledgersPartSpec).bare Rows.ledgersPartRow=true:=by
 unfold joinedFacts;rw[eD,eZ,eT,eO]
 kernel_rfl
theorem aeu:Rows.LedgersPartSaid:=
 OpenClaim.holds_of_cond 4 Tryz.f4 F F F F F F F ⟨F,F,F,F,F⟩ F F F F F au Tryz.func4 aes
  (of_decide_eq_true au) (by unfold Func.isWrapper;first|(rw[if_pos (by decide+kernel)];kernel_rfl)|(rw[if_neg (by decide+kernel)];exact⟨F,F⟩))
  (fun u E H enc _ j=>by rw[OpenClaim.pre_eq_preRow];exact aez u E H enc j)
theorem Nz(f:FuncId)(E:Func)(hf:Tryz.pinned.checked.prog.funcNamed "keywarden/keylaw1.LedgersPart" =some f)(R:Tryz.pinned.checked.prog.funcs[f]? =some E):
 true=Tryz.pinned.checked.prog.looks []/\∀(j:Nat) t,E.params[j]? =some t->Tryz.pinned.checked.prog.wantsStandIn t=false:=by
 obtain rfl:f=4:=Option.some.inj ((show Tryz.prog.funcNamed "keywarden/keylaw1.LedgersPart" =some 4 by kernel_rfl).symm.trans hf) |>.symm
 obtain rfl:E=Tryz.f4:=(Option.some.inj (Tryz.func4.symm.trans R)).symm;refine⟨au,fun j t ht=> ?_⟩;rw[Tryz.params4]at ht;have aa:t∈[22,3]:=by simpa using Array.mem_of_getElem? ht
 have I:([22,3].all fun u=> !Tryz.prog.wantsStandIn u)=true:=au;exact(show Tryz.prog.wantsStandIn t=false by simpa using List.all_eq_true.1 I t aa)
theorem proved:Rows.LedgersPartCardSaid:=
 Claim7.holds_tied_plain_at .later [] _ _ _ _ aeu (fun _ h=>by cases h) au (fun _ h=>by cases h) ledgersPart_row_tie F ⟨F,F⟩ au F Nz au
#print axioms proved
end Go.Proofs.YtjlhhnkhcbpnjaaGreatDoor.ledgersPart
