/- Laws that the row leans on; no condition. -/
import Derived.Test.YtjlhhnkhcbpnjaaGreatDoorJ12
namespace Go.Proofs.YtjlhhnkhcbpnjaaGreatDoor
open Go Go.RowKit List Tryz
set_option linter.unusedVariables false
set_option linter.unusedSimpArgs false
set_option maxHeartbeats 40000000
set_option maxRecDepth 100000
theorem UY:prog.eqGuardType prog.depth 46=false:=au
theorem ad3:prog.stoodInHeld 46=false:=au
theorem UZ:prog.cellsOf 31=32:=au
theorem ad4(C T:Int){x y:aj}(j:x.length=32):(iY C T x y).toArray.extract 2 (2+32)=(x.map Y).toArray:=by
 rw[<-Yn C T (r2:=y) j];simp[List.extract]
theorem ad5(C T:Int){x y:aj}(j:x.length=32)(u:y.length=32):(iY C T x y).toArray.extract 34 (34+32)=(y.map Y).toArray:=by
 rw[<-Yo C T j u];simp[List.extract]
theorem ad6:(prog.fieldsOf 46).toList.map (fun f=>(f.name,f.type,f.offset))=[("Count",3,0),("Time",3,1),("Last",31,2),("Root",31,34)]:=au
theorem ad7(C T:Int)(x y:aj)(j:x.length=32)(ag:y.length=32)(w:World):
 (Op.equalIn 10000 46 (.agg (iY C T x y).toArray) (.agg (iY C T x y).toArray)).run prog w= .ok true w:=by
 have aD:prog.underlying 46=some (.struct (prog.fieldsOf 46)):=by unfold Program.fieldsOf;rw[underlying46]
 rw[show(10000:Nat)=9999+1 from F,run_equalIn_struct w 9999 _ _ _ aD ad3];have h:=ad6;generalize (prog.fieldsOf 46).toList=aE at h;obtain⟨ab,aL,rfl,k1,h⟩:=map_eq_cons_iff.1 h;obtain⟨ac,aM,rfl,k2,h⟩:=map_eq_cons_iff.1 h;obtain⟨ad,aR,rfl,k3,h⟩:=map_eq_cons_iff.1 h;obtain⟨ae,a0,rfl,k4,h⟩:=map_eq_cons_iff.1 h;obtain rfl:=map_eq_nil_iff.1 h;simp only[Prod.mk.injEq]at k1 k2 k3 k4;obtain⟨ao,u,ap⟩:=k1;obtain⟨aq,E,ar⟩:=k2;obtain⟨av,I,aw⟩:=k3;obtain⟨ax,R,az⟩:=k4;have ai:(part ab.type (iY C T x y).toArray ab.offset).run prog w= .ok (.int .i64 C) w:=by rw[u,ap];exact O7 underlying3 F
 have al:(part ac.type (iY C T x y).toArray ac.offset).run prog w= .ok (.int .i64 T) w:=by rw[E,ar];exact O7 underlying3 F
 have am:(part ad.type (iY C T x y).toArray ad.offset).run prog w= .ok (.agg (x.map Y).toArray) w:=by rw[I,aw,O8 underlying31 UZ,ad4 C T j]
 have an:(part ae.type (iY C T x y).toArray ae.offset).run prog w= .ok (.agg (y.map Y).toArray) w:=by rw[R,az,O8 underlying31 UZ,ad5 C T j ag]
 have aa:∀z:Int,(Op.equalIn 9999 3 (.int .i64 z) (.int .i64 z)).run prog w= .ok true w:=fun z=>by
  rw[run_equalIn_int w 9998 _ _ _ _ _ underlying3];simp
 have e2:∀l:aj,l.length=32->(Op.equalIn 9999 31 (.agg (l.map Y).toArray) (.agg (l.map Y).toArray)).run prog w= .ok true w:=fun l af=>by
  have:=run_equalIn_bytes w 9997 31 5 32 underlying31 underlying5 (fun w=>by kernel_rfl) l l af af;exact this.trans aF
 rw[F9 (by rw[ao];decide) ai ai (by rw[u];exact aa C),F9 (by rw[aq];decide) al al (by rw[E];exact aa T),F9 (by rw[av];decide) am am (by rw[I];exact e2 x j),F9 (by rw[ax];decide) an an (by rw[R];exact e2 y ag)];simp[Op.eqFields]
theorem ad8(C T:Int)(x y:aj)(j:x.length=32)(u:y.length=32)(w:World):
 (binOp .eql 46 (.agg (iY C T x y).toArray) (.agg (iY C T x y).toArray)).run prog w= .ok (.bool true) w:=by
 rw[run_eql_struct,ad7 C T x y j u w];rfl
end Go.Proofs.YtjlhhnkhcbpnjaaGreatDoor
