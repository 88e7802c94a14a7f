/- Laws that the row leans on; no condition. -/
import Derived.Test.YtjlhhnkhcbpnjaaGreatDoorJ16
import Derived.Shelf.LaysM
import Derived.Shelf.LaysC
import Derived.Shelf.SlLaysH
import Derived.Shelf.Strconv.Itoa3
import Derived.Shelf.Strconv.AtoiAll
import Derived.Shelf.Strings.Cut
import Derived.Shelf.Strings.Split
import Derived.Shelf.Strings.SplitShaped
import Derived.Shelf.Strings.Replace
import Derived.Shelf.Strings.FieldsFuncAny
import Derived.Shelf.SlicesE.DeleteFunc
import Derived.Lib.AppendIntMem
import Derived.Lib.LaidTab
namespace Go.Proofs.YtjlhhnkhcbpnjaaGreatDoor
open Go Go.RowKit Go.Shelf List Tryz
set_option linter.unusedVariables false
set_option linter.unusedSectionVars false
set_option linter.unusedSimpArgs false
set_option maxHeartbeats 40000000
set_option maxRecDepth 100000
def Zx:Go.Shelf.Ren:=⟨fun|145=>131 |217=>295 |219=>238 |220=>188 |224=>297 |225=>296 |266=>328 |267=>298 |314=>329 |n=>n,fun|3=>3 |4=>4 |5=>5 |9=>9 |46=>141 |51=>239 |59=>214 |146=>393 |n=>n,fun|1=>0 |n=>n⟩
theorem Zy:Go.Proofs.Lays.n145 prog Zx:=by repeat' first|kernel_rfl|(intro _;kernel_rfl)|constructor
def Zz:Go.Shelf.Ren:=⟨fun|129=>224 |171=>141 |243=>195 |246=>255 |283=>305 |284=>306 |285=>307 |286=>308 |317=>336 |318=>337 |319=>338 |320=>339 |337=>347 |338=>348 |n=>n,fun|0=>0 |2=>2 |3=>3 |4=>4 |5=>5 |9=>9 |20=>20 |37=>32 |46=>141 |51=>239 |53=>246 |171=>376 |173=>378 |212=>402 |213=>403 |232=>30 |233=>77 |n=>n,fun|17=>1 |18=>6 |19=>7 |n=>n⟩
theorem ZA:Go.Proofs.LaysM.n171 prog Zz:=by repeat' first|kernel_rfl|(intro _;kernel_rfl)|constructor
def ZB:Go.Shelf.Ren:=⟨fun|129=>224 |171=>141 |172=>239 |205=>346 |243=>195 |244=>299 |245=>300 |246=>255 |247=>330 |279=>331 |280=>332 |281=>333 |282=>334 |283=>305 |284=>306 |285=>307 |286=>308 |287=>344 |316=>345 |317=>336 |318=>337 |319=>338 |320=>339 |321=>350 |322=>351 |337=>347 |338=>348 |n=>n,fun|0=>0 |2=>2 |3=>3 |4=>4 |5=>5 |9=>9 |20=>20 |21=>21 |37=>32 |46=>141 |51=>239 |53=>246 |75=>290 |76=>291 |80=>293 |85=>396 |127=>343 |143=>419 |145=>421 |167=>395 |168=>398 |171=>376 |173=>378 |175=>411 |210=>415 |212=>402 |213=>403 |232=>30 |233=>77 |n=>n,fun|15=>4 |16=>5 |17=>1 |18=>6 |19=>7 |n=>n⟩
theorem KR:Go.Proofs.LaysC.n172 prog ZB:=by repeat' first|kernel_rfl|(intro _;kernel_rfl)|constructor
def ZC:Go.Shelf.Ren:=⟨fun|138=>237 |143=>232 |146=>130 |195=>292 |197=>293 |217=>295 |218=>294 |219=>238 |221=>187 |224=>297 |225=>296 |260=>327 |266=>328 |267=>298 |268=>236 |314=>329 |n=>n,fun|0=>0 |3=>3 |4=>4 |5=>5 |9=>9 |21=>21 |31=>98 |46=>141 |51=>239 |105=>369 |119=>407 |138=>409 |139=>410 |146=>393 |n=>n,fun|1=>0 |3=>2 |4=>3 |n=>n⟩
theorem ZE:Go.Proofs.Lays.n146 prog ZC:=by repeat' first|kernel_rfl|(intro _;kernel_rfl)|constructor
def ZF:Go.Shelf.Ren:=⟨fun|229=>132 |n=>n,fun|0=>0 |3=>3 |4=>4 |9=>9 |21=>21 |31=>98 |40=>217 |152=>274 |154=>276 |n=>n,fun|n=>n⟩
theorem ZG:Go.Proofs.Lays.n229 prog ZF:=by repeat' first|kernel_rfl|(intro _;kernel_rfl)|constructor
structure Cb(w:World):Prop where
 ml:∃m,w.cell? ⟨0,0,none⟩=some (.int .i64 m)
 pw:Lib.TabIs prog w "internal/strconv.uint64pow10" .u64 Lib.pow10Tab
 sy:∃te pe,w.cell? ⟨4,0,none⟩=some (.iface te pe)
 ra:∃te pe,w.cell? ⟨5,0,none⟩=some (.iface te pe)
theorem KT{w w':World}{p:Addr}{v:Value}(h:w.cell? p=some v)(e:X w w'):w'.cell? p=some v:=by
 rw[e.cell (block_lt_of_cell h)];exact h
theorem Ro{w w':World}{j:String}{k:IntKind}{zs:List Int}{g:Nat}(h:Lib.TabIs prog w j k zs)(u:prog.globalNamed j=some g)(e:X w w'):Lib.TabIs prog w' j k zs:=by
 unfold Lib.TabIs World.var? at h⊢;rw[u]at h⊢;simp only[Option.bind_some]at h⊢;have I:g<w.heap.size:=by
  by_cases E:g<w.heap.size
  ·exact E
  ·rw[Array.getElem?_eq_none J]at h;cases h
 rw[e.block g I];exact h
theorem Cb.ext{w w':World}(h:Cb w)(e:X w w'):Cb w':=by
 obtain⟨⟨m,j⟩,u,⟨ab,R,E⟩,⟨ac,aa,I⟩⟩:=h;exact⟨⟨m,KT j e⟩,Ro (g:=1) u au e,⟨ab,R,KT E e⟩,⟨ac,aa,KT I e⟩⟩
theorem pW(l:aj):(aY l).data.toList=l:=by simp[aY]
theorem o7(l:aj):(aY l).size=l.length:=by show l.toArray.size=_;simp
theorem Rq(l j:aj)(w:World)(E:l.length<4294967281)(u:∃m,w.cell? ⟨0,0,none⟩=some (.int .i64 m)):
 Calls prog 131 #[.string (aY l),.string (aY j)] w fun e w'=>e= .returned (.tuple #[.string (aY (Lib.cut l j).1),.string (aY (Lib.cut l j).2.1),.bool (Lib.cut l j).2.2])/\X w w':=by
 obtain⟨m,u⟩:=u;have h:=Any.strings_Cut Zy (aY l) (aY j) m w (by rw[o7];exact E) u;rw[pW,pW]at h;refine h.mono ?_;rintro e w' ⟨rfl,n,rfl⟩;exact⟨F,(X.refl w).drewN n⟩
theorem wL(n:Int)(w:World)(j: -9223372036854775808<=n)(u:n<=9223372036854775807)(ht:Lib.TabIs prog w "internal/strconv.uint64pow10" .u64 Lib.pow10Tab):
 Calls prog 141 #[.int .i64 n] w fun e w'=>e= .returned (.string (aY (Lib.itoa n)))/\X w w':=by
 refine(Any.strconv_Itoa ZA n j u w ht).mono ?_;rintro e w' ⟨rfl,k,E,rfl⟩;exact⟨F,Lib.below_grow _ w bG k E⟩
theorem ZH(l:aj)(w:World)(u:l.length<=281474976710656)(h:wG l=true):
 Calls prog 239 #[.string (aY l)] w fun e w'=>e= .returned (.tuple #[.int .i64 (gV l),.nilIface])/\X w w':=by
 unfold wG at h;cases ha:Lib.atoiAll l with
 |range=>rw[ha]at h;cases h
 |ok v=>
  have j:gV l=v:=by unfold gV;rw[ha]
  rw[j];refine(Any.strconv_Atoi_ok KR (aY l) (by rw[o7];omega) v (by rw[pW];exact ha) w).mono ?_;rintro e w' ⟨rfl,rfl|⟨t,rfl⟩⟩
  ·exact⟨F,X.refl _⟩
  ·exact⟨F,Lib.bytesWorld_below _ _ _⟩
 |_=>rw[ha]at h;cases h
theorem ZI(l:aj)(w:World)(aa:l.length<=281474976710656)(h:wG l=false)(R:Cb w):
 Calls prog 239 #[.string (aY l)] w fun e w'=>∃N,e= .returned (.tuple #[.int .i64 (gV l),.iface 398 (.pointer (some ⟨N,0,none⟩))])/\X w w':=by
 obtain⟨_,_,⟨ad,ab,E⟩,⟨ae,ac,I⟩⟩:=R;unfold wG at h;cases ha:Lib.atoiAll l with
 |ok v=>rw[ha]at h;cases h
 |range=>
  have j:gV l=Lib.atoiSat l:=by unfold gV;rw[ha]
  rw[j];have u:=Any.strconv_Atoi_range KR (aY l) (by rw[o7];omega) (by rw[pW];exact ha) _ w I (.inr ⟨_,_,F⟩);rw[pW]at u;refine u.mono ?_;rintro e w' ⟨N,rfl, -, -,hb⟩;exact⟨N,F,hb⟩
 |_=>
  have j:gV l=0:=by unfold gV;rw[ha]
  rw[j];refine(Any.strconv_Atoi_syntax KR (aY l) (by rw[o7];omega) (by rw[pW];exact ha) _ w E (.inr ⟨_,_,F⟩)).mono ?_;rintro e w' ⟨N,rfl, -, -,hb⟩;exact⟨N,F,hb⟩
end Go.Proofs.YtjlhhnkhcbpnjaaGreatDoor
