/- Laws that the row leans on; no condition. -/
import Derived.Test.YtjlhhnkhcbpnjaaGreatDoorJ3
import Derived.Lib.BytesEntry
import Derived.IntWalk
import Derived.Lib.ItoaNum
import Derived.Lib.Strings
import Derived.Lib.Slices
import Derived.Lib.Small
import Derived.Lib.BitFns
import Derived.Lib.AppendStr
namespace Go.Proofs.YtjlhhnkhcbpnjaaGreatDoor
open Go Go.RowKit List Tryz
set_option linter.unusedVariables false
set_option linter.unusedSectionVars false
set_option linter.unusedSimpArgs false
set_option maxHeartbeats 40000000
set_option maxRecDepth 100000
theorem O_{P:Program}(x:aj)(p:Addr)(w:World)(aa:dP w p (x.map Y)):Sem.run P (Extern.Bytes.loadBytes p x.length ByteArray.empty) w= .ok ⟨x.toArray⟩ w:=by
 have I:=Go.Lib.run_loadBytesX (P:=P) w (x.map fun b=>(b.toNat:Int)) p .empty (fun j u E=>by
  rw[List.getElem?_map]at E;cases R:x[j]? with
  |none=>rw[R]at E;cases E
  |some b=>
   rw[R]at E;simp only[Option.map_some,Option.some.injEq]at E;subst E;exact aa j _ (by rw[List.getElem?_map,R];rfl))
 rw[length_map]at I;have e:Go.Lib.bytesOf (x.map fun b=>(b.toNat:Int))=x:=OI x;rw[e]at I;have h:(⟨ByteArray.empty.data++x.toArray⟩:ByteArray)=⟨x.toArray⟩:=by apply ByteArray.ext;show(#[]:Array UInt8)++x.toArray=x.toArray;simp
 rw[h]at I;exact I
theorem Xf{P:Program}(x y:aj)(p q:Addr)(c d:Nat)(w:World)(j:dP w p (x.map Y))(u:dP w q (y.map Y)):
 (Extern.BytealgCompare.compare #[.slice (some p) x.length c,.slice (some q) y.length d]).run P w= .ok (.int .i64 (eH x y)) w:=by
 change Sem.run P (do pure (goInt (Extern.BytealgCompare.cmp (<-Extern.Bytes.bytesOf (.slice (some p) x.length c)) (<-Extern.Bytes.bytesOf (.slice (some q) y.length d))))) w=_;simp only[Extern.Bytes.bytesOf,Sem.run_bind,Sem.run_pure,Result.andThen,O_ x p w j,O_ y q w u];rw[Lib.cmp_eq];rfl
theorem JK(x y:aj)(p q:Addr)(n m c d:Nat)(w:World)(hn:x.length=n)(E:y.length=m)(j:dP w p (x.map Y))(u:dP w q (y.map Y)):
 Calls prog 177 #[.slice (some p) n c,.slice (some q) m d] w fun e w'=>e= .returned (.int .i64 (eH x y))/\w=w':=by
 subst hn;subst E;have I:=Xf (P:=prog) x y p q c d w j u;generalize eH x y=r at*;generalize x.length=n at*;generalize y.length=m at*;clear j u;go_enter func177,ntmps177;go_wp2;rw[run_callFunc_extern func225 au au au (e:=Extern.BytealgCompare.compare) au,I];simp only[Result.andThen];rw[Oper.upon_value];go_wp2;go_ret;exact⟨F,F⟩
def iT(w w':World):Prop:=∃q j,w'=Sort.grow (w.drewN q) j
theorem iT.refl(w:World):iT w w:=⟨0,#[],by simp[Sort.grow,World.drewN]⟩
theorem iT.alloc{w w':World}(h:iT w w')(o:Obj):iT w (w'.alloc o):=by
 obtain⟨q,j,rfl⟩:=h;exact⟨q,j.push o,by simp[Sort.grow,World.alloc]⟩
theorem iT.drewN{w w':World}(h:iT w w')(n:Nat):iT w (w'.drewN n):=by
 obtain⟨q,j,rfl⟩:=h;exact⟨q+n,j,by simp[Sort.grow,World.drewN,Nat.add_assoc]⟩
theorem iT.trans{a b c:World}(h:iT a b)(k:iT b c):iT a c:=by
 obtain⟨q,j,rfl⟩:=h;obtain⟨E,u,rfl⟩:=k;exact⟨q+E,j++u,by simp[Sort.grow,World.drewN,Nat.add_assoc,Array.append_assoc]⟩
theorem iT.ext{w w':World}(h:iT w w'):X w w':=by
 obtain⟨q,u,rfl⟩:=h;refine⟨F,F,F,by simp[Sort.grow,World.drewN],fun i j=> ?_⟩;show(w.heap++u)[i]? =_;rw[Array.getElem?_append_left j]
theorem Bg{w:World}{g:Nat}{vs:aO}{T:TypeId}(h:ah w g vs T):dP w ⟨g,0,none⟩ vs:=fun j u E=>by rw[dn,Nat.zero_add];exact h.cell' E
theorem Xg(x y:aj)(w:World)(hx:x.length=16)(E:y.length=16):
 Calls prog 278 #[.agg (x.map Y).toArray,.agg (y.map Y).toArray] w fun e w'=>e= .returned (.int .i64 (eH x y))/\X w w':=by
 obtain⟨ad,ae,ai,al⟩:=bU hx E (show(x.map Y).length=16 by rw[length_map];exact hx) (show(y.map Y).length=16 by rw[length_map];exact E);clear hx E;go_enter func278,ntmps278;go_wp2_with fail;generalize u:World.alloc (World.alloc w _) _=j;have aa:ah j w.heap.size (x.map Y) 29:=by rw[<-u];exact(ah.aI F F).alloc _
 have ab:ah j (w.heap.size+1) (y.map Y) 29:=by rw[<-u];exact ah.aI aF F
 have I:iT w j:=by rw[<-u];exact((iT.refl w).alloc _).alloc _
 obtain⟨hb,ac⟩:=aB (fun n=>JK x y ⟨w.heap.size,0,none⟩ ⟨w.heap.size+1,0,none⟩ 16 16 16 16 (j.drewN n) ad ae (Bg aa.drewN) (Bg ab.drewN)) I;clear u aa ab I;refine wp_region_held_drew (S:=fun w'=>∃n,w'=j.drewN n) au ⟨1,F⟩ (fun Z=> ?_);refine aA 0 ?_;refine aA 1 ?_;refine aZ 2 ?_;intro af R;obtain⟨nq,ag⟩:=Z;generalize j.drew=am at*;subst ag;go_wp2_with fail;refine(hb nq).mono ?_;rintro e w' ⟨rfl,rfl⟩;go_wp2_with fail;refine R _ _ ⟨nq,F⟩ ?_;clear R af;have Z:∃n,j.drewN nq=j.drewN n:=⟨nq,F⟩;refine aH ?_;refine aA 3 ?_;refine dH ?_;go_wp2_with fail;go_ret;exact⟨F,(ac.drewN nq).ext⟩
theorem Gg(x y:aj)(w:World)(hx:x.length=16)(E:y.length=16):
 Calls prog 122 #[.agg (x.map Y).toArray,.agg (y.map Y).toArray] w fun e w'=>e= .returned (.int .i64 (eH x y))/\iT w w':=by
 obtain⟨ad,ae,ai,al⟩:=bU hx E (show(x.map Y).length=16 by rw[length_map];exact hx) (show(y.map Y).length=16 by rw[length_map];exact E);clear hx E;go_enter func122,ntmps122;go_wp2_with fail;generalize u:World.alloc (World.alloc w _) _=j;have aa:ah j w.heap.size (x.map Y) 29:=by rw[<-u];exact(ah.aI F F).alloc _
 have ab:ah j (w.heap.size+1) (y.map Y) 29:=by rw[<-u];exact ah.aI aF F
 have I:iT w j:=by rw[<-u];exact((iT.refl w).alloc _).alloc _
 obtain⟨hb,ac⟩:=aB (fun n=>JK x y ⟨w.heap.size,0,none⟩ ⟨w.heap.size+1,0,none⟩ 16 16 16 16 (j.drewN n) ad ae (Bg aa.drewN) (Bg ab.drewN)) I;clear u aa ab I;refine wp_region_held_drew (S:=fun w'=>∃n,w'=j.drewN n) au ⟨1,F⟩ (fun Z=> ?_);refine aA 0 ?_;refine aA 1 ?_;refine aZ 2 ?_;intro af R;obtain⟨nq,ag⟩:=Z;generalize j.drew=am at*;subst ag;go_wp2_with fail;refine(hb nq).mono ?_;rintro e w' ⟨rfl,rfl⟩;go_wp2_with fail;refine R _ _ ⟨nq,F⟩ ?_;clear R af;have Z:∃n,j.drewN nq=j.drewN n:=⟨nq,F⟩;refine aH ?_;refine aA 3 ?_;refine dH ?_;go_wp2_with fail;go_ret;exact⟨F,ac.drewN nq⟩
theorem Xh(x y:aj)(w:World)(j:x.length=16)(u:y.length=16):
 Calls prog 122 #[.agg (x.map Y).toArray,.agg (y.map Y).toArray] w fun e w'=>e= .returned (.int .i64 (eH x y))/\X w w':=
 (Gg x y w j u).mono fun _ _ h=>⟨h.1,h.2.ext⟩
def lT(n:Int):List Bool:=
 if n=1 then[true,false,false,false,false,false,false,false,false,false,false,false]
 else if n=2 then[false,true,true,false,false,false,false,false,false,false,false,false]
 else if n=3 then[false,true,false,false,false,false,false,false,false,false,false,false]
 else if n=4 then[false,false,false,true,true,false,false,false,false,false,false,false]
 else if n=5 then[false,false,false,false,true,true,false,false,false,false,false,false]
 else if n=6 then[false,false,false,false,true,true,true,false,false,false,false,false]
 else if n=7 then[false,false,false,false,false,false,false,true,false,false,false,false]
 else if n=8 then[false,false,false,false,true,false,false,false,false,false,false,false]
 else if n=9 then[false,false,false,false,true,true,false,false,true,true,false,false]
 else if n=10 then[false,false,false,false,true,true,false,false,false,true,false,false]
 else if n=11 then[false,false,false,false,true,false,false,false,false,false,true,false]
 else[false,false,false,false,true,false,false,false,false,false,true,true]
theorem DR(n:Int):(lT n).length=12:=by
 unfold lT;simp only[apply_ite List.length,length_cons,length_nil,ite_self]
def DT(n:Int):aO:=(lT n).map .bool
theorem sJ:iH prog 304 12:=⟨⟨_,underlying304,F⟩,au⟩
theorem Pg(n:Int)(w:World):
 Calls prog 207 #[.int .i64 n] w fun e w'=>e= .returned (.agg (DT n).toArray)/\X w w':=by
 rcases(by omega:n=1∨n=2∨n=3∨n=4∨n=5∨n=6∨n=7∨n=8∨n=9∨n=10∨n=11∨(¬n=1/\¬n=2/\¬n=3/\¬n=4/\¬n=5/\¬n=6/\¬n=7/\¬n=8/\¬n=9/\¬n=10/\¬n=11))with rfl|rfl|rfl|rfl|rfl|rfl|rfl|rfl|rfl|rfl|rfl|h
 ·skip
  go_enter func207,ntmps207;go_wp2_with fail;refine gG F F (ah.aI (vs:=[.bool true,.bool false,.bool false,.bool false,.bool false,.bool false,.bool false,.bool false,.bool false,.bool false,.bool false,.bool false]) F F) sJ F F ⟨F,(X.refl w).alloc _⟩
 ·skip
  go_enter func207,ntmps207;go_wp2_with fail;refine gG F F (ah.aI (vs:=[.bool false,.bool true,.bool true,.bool false,.bool false,.bool false,.bool false,.bool false,.bool false,.bool false,.bool false,.bool false]) F F) sJ F F ⟨F,(X.refl w).alloc _⟩
 ·skip
  go_enter func207,ntmps207;go_wp2_with fail;refine gG F F (ah.aI (vs:=[.bool false,.bool true,.bool false,.bool false,.bool false,.bool false,.bool false,.bool false,.bool false,.bool false,.bool false,.bool false]) F F) sJ F F ⟨F,(X.refl w).alloc _⟩
 ·skip
  go_enter func207,ntmps207;go_wp2_with fail;refine gG F F (ah.aI (vs:=[.bool false,.bool false,.bool false,.bool true,.bool true,.bool false,.bool false,.bool false,.bool false,.bool false,.bool false,.bool false]) F F) sJ F F ⟨F,(X.refl w).alloc _⟩
 ·skip
  go_enter func207,ntmps207;go_wp2_with fail;refine gG F F (ah.aI (vs:=[.bool false,.bool false,.bool false,.bool false,.bool true,.bool true,.bool false,.bool false,.bool false,.bool false,.bool false,.bool false]) F F) sJ F F ⟨F,(X.refl w).alloc _⟩
 ·skip
  go_enter func207,ntmps207;go_wp2_with fail;refine gG F F (ah.aI (vs:=[.bool false,.bool false,.bool false,.bool false,.bool true,.bool true,.bool true,.bool false,.bool false,.bool false,.bool false,.bool false]) F F) sJ F F ⟨F,(X.refl w).alloc _⟩
 ·skip
  go_enter func207,ntmps207;go_wp2_with fail;refine gG F F (ah.aI (vs:=[.bool false,.bool false,.bool false,.bool false,.bool false,.bool false,.bool false,.bool true,.bool false,.bool false,.bool false,.bool false]) F F) sJ F F ⟨F,(X.refl w).alloc _⟩
 ·skip
  go_enter func207,ntmps207;go_wp2_with fail;refine gG F F (ah.aI (vs:=[.bool false,.bool false,.bool false,.bool false,.bool true,.bool false,.bool false,.bool false,.bool false,.bool false,.bool false,.bool false]) F F) sJ F F ⟨F,(X.refl w).alloc _⟩
 ·skip
  go_enter func207,ntmps207;go_wp2_with fail;refine gG F F (ah.aI (vs:=[.bool false,.bool false,.bool false,.bool false,.bool true,.bool true,.bool false,.bool false,.bool true,.bool true,.bool false,.bool false]) F F) sJ F F ⟨F,(X.refl w).alloc _⟩
 ·skip
  go_enter func207,ntmps207;go_wp2_with fail;refine gG F F (ah.aI (vs:=[.bool false,.bool false,.bool false,.bool false,.bool true,.bool true,.bool false,.bool false,.bool false,.bool true,.bool false,.bool false]) F F) sJ F F ⟨F,(X.refl w).alloc _⟩
 ·skip
  go_enter func207,ntmps207;go_wp2_with fail;refine gG F F (ah.aI (vs:=[.bool false,.bool false,.bool false,.bool false,.bool true,.bool false,.bool false,.bool false,.bool false,.bool false,.bool true,.bool false]) F F) sJ F F ⟨F,(X.refl w).alloc _⟩
 ·have j:DT n=[.bool false,.bool false,.bool false,.bool false,.bool true,.bool false,.bool false,.bool false,.bool false,.bool false,.bool true,.bool true]:=by unfold DT lT;rw[if_neg h.1,if_neg h.2.1,if_neg h.2.2.1,if_neg h.2.2.2.1,if_neg h.2.2.2.2.1,if_neg h.2.2.2.2.2.1,if_neg h.2.2.2.2.2.2.1,if_neg h.2.2.2.2.2.2.2.1,if_neg h.2.2.2.2.2.2.2.2.1,if_neg h.2.2.2.2.2.2.2.2.2.1,if_neg h.2.2.2.2.2.2.2.2.2.2];rfl
  rw[j];have u:(n==1)=false:=by simpa using h.1
  have ai:decide (n=1)=false:=aP h.1;have E:(n==2)=false:=by simpa using h.2.1
  have al:decide (n=2)=false:=aP h.2.1;have R:(n==3)=false:=by simpa using h.2.2.1
  have an:decide (n=3)=false:=aP h.2.2.1;have aa:(n==4)=false:=by simpa using h.2.2.2.1
  have ao:decide (n=4)=false:=aP h.2.2.2.1;have ab:(n==5)=false:=by simpa using h.2.2.2.2.1
  have ap:decide (n=5)=false:=aP h.2.2.2.2.1;have ac:(n==6)=false:=by simpa using h.2.2.2.2.2.1
  have aq:decide (n=6)=false:=aP h.2.2.2.2.2.1;have ad:(n==7)=false:=by simpa using h.2.2.2.2.2.2.1
  have ar:decide (n=7)=false:=aP h.2.2.2.2.2.2.1;have ae:(n==8)=false:=by simpa using h.2.2.2.2.2.2.2.1
  have aw:decide (n=8)=false:=aP h.2.2.2.2.2.2.2.1;have af:(n==9)=false:=by simpa using h.2.2.2.2.2.2.2.2.1
  have ax:decide (n=9)=false:=aP h.2.2.2.2.2.2.2.2.1;have ag:(n==10)=false:=by simpa using h.2.2.2.2.2.2.2.2.2.1
  have az:decide (n=10)=false:=aP h.2.2.2.2.2.2.2.2.2.1;have I:(n==11)=false:=by simpa using h.2.2.2.2.2.2.2.2.2.2
  have am:decide (n=11)=false:=aP h.2.2.2.2.2.2.2.2.2.2;clear h j;go_enter func207,ntmps207;go_wp2_with fail;refine gG F F (ah.aI (vs:=[.bool false,.bool false,.bool false,.bool false,.bool true,.bool false,.bool false,.bool false,.bool false,.bool false,.bool true,.bool true]) F F) sJ F F ⟨F,(X.refl w).alloc _⟩
structure ay where
 text:ByteArray
 member:aj
 ra:aN
 rn:Nat
 rc:Nat
 roles:aT
 label:ByteArray
 commit:aj
 epoch:Int
 purpose:Int
 reason:Int
 need:Int
 version:Int
 count:Int
 ha:aN
 hn:Nat
 hc:Nat
 bH:List (aj)
def ay.t(b:ay):aO:=[.int .i64 b.epoch,.int .i64 b.purpose,.int .i64 b.reason,.int .i64 b.need,.int .i64 b.version,.int .i64 b.count,.slice b.ha b.hn b.hc]
def ay.v(b:ay):aO:= .string b.text::(b.member.map Y++(.slice b.ra b.rn b.rc:: .string b.label::(b.commit.map Y++b.t)))
def oP(l:List (aj)):Prop:=∀x∈l,x.length=16
structure ay.Ok(w:World)(b:ay):Prop where
 ts:b.text.size<=140737488355328
 hm:b.member.length=16
 hcm:b.commit.length=32
 rl:b.roles.length=b.rn
 qZ:b.rn<=b.rc
 rm:b.rn<=140737488355328
 nU:aK w b.ra (b.roles.map bM)
 rs:∀s∈b.roles,s.size<=140737488355328
 ls:b.label.size<=140737488355328
 hl:b.bH.length=b.hn
 hnc:b.hn<=b.hc
 vZ:b.hn<=140737488355328
 h16:oP b.bH
 hcell:aK w b.ha (dB b.bH)
theorem ay.Ok.ext{w w':World}{b:ay}(h:b.Ok w)(e:X w w'):b.Ok w':=
 ⟨h.ts,h.hm,h.hcm,h.rl,h.qZ,h.rm,h.nU.ext e,h.rs,h.ls,h.hl,h.hnc,h.vZ,h.h16,h.hcell.ext e⟩
theorem ay.len{w:World}{b:ay}(h:b.Ok w):b.v.length=58:=by unfold ay.v ay.t;simp[h.hm,h.hcm]
theorem eP:iH prog 101 58:=⟨⟨_,underlying101,F⟩,au⟩
theorem lC{x:Value}{l r:aO}{n i:Nat}(j:l.length=n):(x::(l++r))[n+1+i]? =r[i]? :=by
 rw[show n+1+i=(n+i)+1 by omega,List.getElem?_cons_succ,List.getElem?_append_right J,j]
 congr 1;omega
theorem ay.aL(b:ay):b.v[0]? =some (.string b.text):=F
theorem ay.pI{w:World}{b:ay}(h:b.Ok w):b.v[17]? =some (.slice b.ra b.rn b.rc):=by
 unfold ay.v;exact lC (n:=16) (i:=0) (by rw[length_map,h.hm])
theorem ay.zH{w:World}{b:ay}(h:b.Ok w):b.v[18]? =some (.string b.label):=by
 unfold ay.v;exact lC (n:=16) (i:=1) (by rw[length_map,h.hm])
theorem ay.zI{w:World}{b:ay}(h:b.Ok w)(i:Nat):b.v[51+i]? =b.t[i]? :=by
 unfold ay.v;rw[show 51+i=16+1+(32+1+(i+1)) by omega,lC (by rw[length_map,h.hm])];rw[show 32+1+(i+1)=(32+1+i)+1 by omega,List.getElem?_cons_succ];exact lC (n:=32) (by rw[length_map,h.hcm])
theorem ay.mD{w:World}{b:ay}(h:b.Ok w):b.v[51]? =some (.int .i64 b.epoch):=ay.zI h 0
theorem ay.nV{w:World}{b:ay}(h:b.Ok w):b.v[52]? =some (.int .i64 b.purpose):=ay.zI h 1
theorem ay.oQ{w:World}{b:ay}(h:b.Ok w):b.v[53]? =some (.int .i64 b.reason):=ay.zI h 2
theorem ay.xw{w:World}{b:ay}(h:b.Ok w):b.v[54]? =some (.int .i64 b.need):=ay.zI h 3
theorem ay.xA{w:World}{b:ay}(h:b.Ok w):b.v[55]? =some (.int .i64 b.version):=ay.zI h 4
theorem ay.Bh{w:World}{b:ay}(h:b.Ok w):b.v[56]? =some (.int .i64 b.count):=ay.zI h 5
theorem ay.xB{w:World}{b:ay}(h:b.Ok w):b.v[57]? =some (.slice b.ha b.hn b.hc):=ay.zI h 6
theorem ay.JL{w:World}{b:ay}{g:Nat}(h:b.Ok w)(hb:ah w g b.v 101):dP w ⟨g,1,none⟩ (b.member.map Y):=by
 intro j u E;rw[dn];refine hb.cell' ?_;unfold ay.v;rw[show 1+j=j+1 by omega,List.getElem?_cons_succ,List.getElem?_append_left (List.getElem?_eq_some_iff.1 E).1];exact E
theorem ay.comm{w:World}{b:ay}{g:Nat}(h:b.Ok w)(hb:ah w g b.v 101):dP w ⟨g,19,none⟩ (b.commit.map Y):=by
 intro j u E;rw[dn];refine hb.cell' ?_;unfold ay.v;rw[show 19+j=16+1+(j+2) by omega,lC (by rw[length_map,h.hm]),List.getElem?_cons_succ,List.getElem?_cons_succ,List.getElem?_append_left (List.getElem?_eq_some_iff.1 E).1];exact E
def ay.set(b:ay):List Bool:=[!b.text.toList.isEmpty,!(b.member==List.replicate 16 0),decide (0<b.rn),!b.label.toList.isEmpty,!(b.commit==List.replicate 32 0),b.epoch != 0,b.purpose != 0,b.reason != 0,b.need != 0,decide (0<b.hn),b.version != 0,b.count != 0]
def nX(b:ay)(n:List Bool):Bool:=(n.zip b.set).any fun p=> !p.1&&p.2
def kU(s:ByteArray):aj:=UInt8.ofNat s.size::s.data.toList
theorem DU(s:ByteArray):(kU s).length=s.size+1:=by unfold kU;rw[length_cons,Array.length_toList];rfl
theorem Xi(n:Nat):IntKind.u8.wrap (n:Int)=((UInt8.ofNat n).toNat:Int):=by
 have h:(UInt8.ofNat n).toNat=n%256:=UInt8.toNat_ofNat;rw[h];show(n:Int)%256=_;omega
theorem Below.blk{B:Nat}{w w':World}{g:Nat}{vs:aO}{T:TypeId}(h:Below B w w')(j:g<B)(hb:ah w g vs T):ah w' g vs T:=by
 unfold ah at*;rw[h.block g j];exact hb
end Go.Proofs.YtjlhhnkhcbpnjaaGreatDoor
