/- For every story and numbers, LedgersMatch returns true and leaves its arguments as they were; seven variables of the library are laid, .. -/
import Derived.Test.YtjlhhnkhcbpnjaaGreatDoorCards
import Derived.Test.YtjlhhnkhcbpnjaaGreatDoorTie
import Derived.Test.YtjlhhnkhcbpnjaaGreatDoorJM28
import Derived.Test.YtjlhhnkhcbpnjaaGreatDoorJM30
import Derived.WalkKit
import Derived.ProofKit
import Derived.OpenShut
import Derived.ChangeMaps5
import Derived.ChangeOld
import Derived.Below
import Derived.SizedLaws
import Derived.Deep.DeepHandedRow
import Derived.Deep.DeepWitnessRowRef
import Derived.Lib.LaidTab
import Derived.Lib.TrailingZeros
import Derived.Stop.LaidErr
import Derived.LaidLaws
import Derived.Lay
namespace Go.Proofs.YtjlhhnkhcbpnjaaGreatDoor.ledgersMatch
set_option linter.unusedVariables false
set_option linter.unusedSimpArgs false
open Go.ChangeShapes Go.WideShapes Go.ChangeAt Go.RowKit
set_option linter.unusedVariables false
theorem own:ownKnob Tryz.prog.godebug=none:=au
theorem Fp:laidOutB Tryz.prog=true:=au
theorem U3: "*" ++ "errors.errorString" = "*errors.errorString" :=aX
theorem U0(u:TypeId)(h:Tryz.prog.typeName? 3 u=some "*errors.errorString"):u=419:=
 typeName_ptr_named (nm:= "errors.errorString") (by rw[U3];kernel_rfl) au aX u (by rw[U3];exact h)
theorem U1{W:World}{n:String}{g:Nat}{v:Value}(u:Tryz.prog.globalNamed n=some g)(E:W.var? Tryz.prog n=some #[v]):W.cell? ⟨g,0,none⟩=some v:=by
 have j:=World.var?_cell u E 0;simpa using j
theorem fI{W:World}(I:laidMetH Tryz.prog Rows.ledgersMatchRow.laid W)(aa:W.ShapedOpen Tryz.prog):mJ W:=by
 have E:laidMet Tryz.prog Rows.ledgersMatchRow.laid W:=I;have j:laidMet Tryz.prog [("internal/strconv.uint64pow10",Lib.tabData .u64 Lib.pow10Tab),("unicode/utf8.acceptRanges",Rows.laid_unicode_utf8_acceptRanges),("strconv.ErrRange",Rows.laid_strconv_ErrRange),("strconv.ErrSyntax",Rows.laid_strconv_ErrSyntax),("unicode/utf8.first",Rows.laid_unicode_utf8_first)] W:=E.tail.tail;have R:Lib.TabIs Tryz.prog W "internal/strconv.uint64pow10" .u64 Lib.pow10Tab:=
  Lib.tabIs_of_head (g:=1) au (show(Tryz.prog.globals[1]?).map (·.type)=some 402 by kernel_rfl) Tryz.underlying402 Tryz.underlying246 au au j
 obtain⟨ad,s0,ab, -, -, -⟩:=laid_sentinel j.tail.tail (g:=5) au (show(Tryz.prog.globals[5]?).map (·.type)=some 290 by kernel_rfl) Tryz.underlying290 U0 Tryz.underlying419 Tryz.underlying421 F F Tryz.underlying9 au au;obtain⟨ae,af,ac, -, -, -⟩:=laid_sentinel j.tail.tail.tail (g:=4) au (show(Tryz.prog.globals[4]?).map (·.type)=some 290 by kernel_rfl) Tryz.underlying290 U0 Tryz.underlying419 Tryz.underlying421 F F Tryz.underlying9 au au;exact⟨⟨Go.Proofs.cell_of_shapedOpen_int (zero:= #[.int .i64 0]) (t:=3) aa (of_decide_eq_true au) au F au au Tryz.underlying3,R,
  ⟨_,_,U1 au ac⟩,⟨_,_,U1 au ab⟩⟩,fun g u=>by
  rw[show Tryz.prog.globalNamed "strings.asciiSpace" =none by kernel_rfl]at u;cases u⟩
set_option maxRecDepth 100000 in
theorem aex(H:Type)(enc:TypeId×Value->H)(W:World)(base:Nat)(u:Array Value)(aa gs:List (DataW H))(ap:List MemPlace)
 (ai:∀(j:Nat) t v,Tryz.f5.params[j]? =some t->u[j]? =some v->Value.okWide Tryz.prog W .any base t v)
 (ag:DataW.Whole enc Tryz.prog Tryz.f5.params.toList Rows.ledgersMatchSpec.vars false W u.toList aa gs ap)
 (mU:(DataW.weightsEach Tryz.prog (Tryz.f5.params.toList++(OpenSpec.ofChange Rows.ledgersMatchSpec).bare.plain.varTypes Tryz.prog) (aa++gs)).all (·<=reachBytes)=true)(aE:mJ W):
 Calls Tryz.prog 5 u W fun e W'=>∃v,e= .returned v/\Rows.ledgersMatchSpec.post enc Tryz.prog Tryz.f5 false true false false W u v W':=by
 have R:∀(j:Nat) t v,Tryz.f5.params[j]? =some t->u[j]? =some v->Value.okWide Tryz.prog W .any base t v:=ai;have aw:=ag;obtain⟨p,q,af,ar,rfl,vN,bp⟩:=ag;have ae:DataW.TrodAll enc Tryz.prog W 0 (fun _=>true) true Tryz.f5.params.toList u.toList aa p:=af;rw[Tryz.params5]at ae R;obtain⟨am,bv,be,bj,a9,br,bm,rfl,rfl,ab,bc⟩:=trodAll_cons ae;obtain⟨an,bw,bh,bk,a_,bt,rfl,rfl,rfl,ac,bd⟩:=trodAll_cons bc;obtain⟨v2,bx,bi,bl,ba,bu,rfl,rfl,rfl,ad,r2⟩:=trodAll_cons bd;obtain⟨rfl,rfl,rfl⟩:=trodAll_nil r2;obtain rfl:u= #[am,an,v2]:=by cases u;simp_all
 obtain⟨rfl,rfl⟩:=trodVars_none ar;have al:=ab;have a5:∀x∈a9,x.block<W.heap.size:=by obtain⟨m,E⟩:=al;exact DataW.trod_lt m _ _ _ E
 have k1:=ac;have a6:∀x∈a_,x.block<W.heap.size:=by obtain⟨m,E⟩:=k1;exact DataW.trod_lt m _ _ _ E
 have k2:=ad;have a7:∀x∈ba,x.block<W.heap.size:=by obtain⟨m,E⟩:=k2;exact DataW.trod_lt m _ _ _ E
 obtain⟨ao,a8,aq,a4,rfl,a0,a1,bo,ax⟩:=aeh (R 0 22 am F F) ab;obtain⟨a2,rfl,_,_,_⟩:=open_int Tryz.underlying3 (R 1 3 an F F) ac;obtain⟨a3,rfl,_,_,_⟩:=open_int Tryz.underlying3 (R 2 3 v2 F F) ad;clear af ai;refine(xD a4 ao a8 aq a2 a3 W a0 a1 ax aE).mono fun e W' ⟨az,I⟩=> ?_;subst az;exact⟨_,F,_,_,_,[],_,[],aw,trodAll_mk1 (shut_bool Tryz.underlying4 _),(trodAll_cons_mk (Below.trod Fp au (of_decide_eq_true au) al I a5) (trodAll_cons_mk (Below.trod Fp au (of_decide_eq_true au) k1 I a6) (trodAll_cons_mk (Below.trod Fp au (of_decide_eq_true au) k2 I a7) trodAll_mk0))),F,I.frame _,fun h=>by cases h⟩
noncomputable def cK(j:Os):World:=World.laidAll Tryz.prog j Rows.ledgersMatchRow.laid
theorem fu(j:Os):laidMet Tryz.prog Rows.ledgersMatchRow.laid ((cK j).forCall (fun _ _=>0) ⟨#[],#[.slice none 0 0,.int .i64 0,.int .i64 0],[]⟩).memory:=
 laidMet_laidAll _ au au
theorem aei{H:Type}{enc:TypeId×Value->H}{C:Checked}{ac:Os}{f:FuncId}{R:Func}{s:OpenSpec}{I:List PathCond}{E:Bool}{ab:List (String×DataW Unit)}(w0:World)(j:Array Value)(ad:w0.os=ac)
 (af:(w0.forCall (fun _ _=>0) ⟨#[],j,[]⟩).Shaped C.prog)
 (aa:Input.okWideB C.prog (w0.forCall (fun _ _=>0) ⟨#[],j,[]⟩) f ⟨#[],j,[]⟩=true)
 (ae:s.preRow enc C.prog R I E ab (w0.forCall (fun _ _=>0) ⟨#[],j,[]⟩).memory j):
 ∃(w:World) (u:Tape) (i:Input),w.os=ac/\(w.forCall u i).Shaped C.prog/\i.vars=[]/\Input.okWide C.prog (w.forCall u i) .any w.heap.size f i/\
  s.preRow enc C.prog R I E ab (w.forCall u i).memory i.args/\({modest:=false}:Assume).holds C.prog (lone (Frame.enter C.prog f i.args .normal) [] (w.forCall u i)):=
 ⟨w0,fun _ _=>0,⟨#[],j,[]⟩,ad,af,(Input.okWide_of_okWideB (base:=0) aa).1,(Input.okWide_of_okWideB aa).2,ae,by
  simp only[Assume.holds];exact⟨aF,aF,(fun h=>by cases h),aF,aF⟩⟩
theorem ael(j:Os){H:Type}(enc:TypeId×Value->H):∃u,DataW.whole enc Tryz.prog ((cK j).forCall (fun _ _=>0) ⟨#[],#[.slice none 0 0,.int .i64 0,.int .i64 0],[]⟩).memory Tryz.f5.params.toList Rows.ledgersMatchSpec.vars false #[Value.slice none 0 0,.int .i64 0,.int .i64 0].toList 8=some ([.nil,.lit (.int .i64 0),.lit (.int .i64 0)],[],u):=
 ⟨[],au⟩
set_option maxRecDepth 100000 in
theorem aez(j:Os)(af:j.Started)(H:Type)(enc:TypeId×Value->H)(u:Stop.Interp):
 ReturnsInHanded {} Tryz.checked j 5 .any ((OpenSpec.ofChange Rows.ledgersMatchSpec).preRow enc Tryz.prog Tryz.f5 Rows.ledgersMatchRow.domain false Rows.ledgersMatchRow.laid) (((OpenSpec.ofChange Rows.ledgersMatchSpec).at u).post enc Tryz.prog Tryz.f5 false true false false):=by
 obtain⟨ag,ae⟩:=ael j enc;refine returnsInHanded_of_row (C:=Tryz.checked) (s:=OpenSpec.ofChange Rows.ledgersMatchSpec) own af au Tryz.func5
  (aei (enc:=enc) (C:=Tryz.checked) (cK j) #[.slice none 0 0,.int .i64 0,.int .i64 0] (World.laidAll_os _ _ _) (World.shaped_of_ZipB au au) au
   (OpenSpec.preRow_of_cond 8 ae au (fun k hk=>by cases hk) au (fu j))) ?_
 intro W base E R gs I ad ab _ _ mU aa ac _;exact aex H enc W base E R gs I ad ab mU (fI aa ac)
theorem eD:(Rows.ledgersMatchRow.inPlace==Tryz.prog.inPlace 5)=true:=au
theorem eZ:(Rows.ledgersMatchRow.unfollowed==Tryz.prog.unfollowed 5)=true:=au
theorem eT:(Rows.ledgersMatchRow.recurses==Tryz.prog.recurses 5)=true:=au
theorem eO:(Rows.ledgersMatchRow.named==Tryz.prog.varsNamed 5)=true:=au
theorem aes:joinedFacts Tryz.prog 5 Tryz.f5 (OpenSpec.ofChange Rows.ledgersMatchSpec).bare Rows.ledgersMatchRow=true:=by
 unfold joinedFacts;rw[eD,eZ,eT,eO]
 kernel_rfl
theorem aeu:Rows.LedgersMatchSaid:=
 OpenClaim.holds_of_cond 5 Tryz.f5 F F F F F F F ⟨F,F,F,F,F⟩ F F F F F au Tryz.func5 aes
  (of_decide_eq_true au) (by unfold Func.isWrapper;first|(rw[if_pos (by decide+kernel)];kernel_rfl)|(rw[if_neg (by decide+kernel)];exact⟨F,F⟩))
  (fun u E H enc _ j=>by rw[OpenClaim.pre_eq_preRow];exact aez u E H enc j)
theorem Nz(f:FuncId)(E:Func)(hf:Tryz.pinned.checked.prog.funcNamed "keywarden/keylaw1.LedgersMatch" =some f)(I:Tryz.pinned.checked.prog.funcs[f]? =some E):
 true=Tryz.pinned.checked.prog.looks []/\∀(j:Nat) t,E.params[j]? =some t->Tryz.pinned.checked.prog.wantsStandIn t=false:=by
 obtain rfl:f=5:=Option.some.inj ((show Tryz.prog.funcNamed "keywarden/keylaw1.LedgersMatch" =some 5 by kernel_rfl).symm.trans hf) |>.symm
 obtain rfl:E=Tryz.f5:=(Option.some.inj (Tryz.func5.symm.trans I)).symm;refine⟨au,fun j t ht=> ?_⟩;rw[Tryz.params5]at ht;have R:t∈[22,3]:=by simpa using Array.mem_of_getElem? ht
 have om:([22,3].all fun u=> !Tryz.prog.wantsStandIn u)=true:=au;exact(show Tryz.prog.wantsStandIn t=false by simpa using List.all_eq_true.1 om t R)
theorem proved:Rows.LedgersMatchCardSaid:=
 Claim7.holds_tied_plain_at .later [] _ _ _ _ aeu (fun _ h=>by cases h) au (fun _ h=>by cases h) ledgersMatch_row_tie F ⟨F,F⟩ au F Nz au
#print axioms proved
end Go.Proofs.YtjlhhnkhcbpnjaaGreatDoor.ledgersMatch
