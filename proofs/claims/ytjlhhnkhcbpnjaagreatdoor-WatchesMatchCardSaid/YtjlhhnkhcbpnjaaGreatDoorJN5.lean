/- Laws; no condition. -/
import Derived.Test.YtjlhhnkhcbpnjaaGreatDoorJN4
import Derived.Laws.Runes
import Derived.Laws.RangeAny
import Derived.Laws.RangeString
import Derived.Lib.Bytealg
import Derived.Lib.OthersKept
import Derived.Lib.TrimU
import Derived.Deep.LoopGhost
import Derived.WalkMore
namespace Go.Proofs.YtjlhhnkhcbpnjaaGreatDoor
open Go Go.RowKit List Tryz
set_option linter.all false
set_option maxHeartbeats 40000000
set_option maxRecDepth 100000
section
set_option maxRecDepth 100000
def ZR{b:Prop}(e:b:=by
 obtain⟨HN,HX,HP⟩:=aW hn hx hp;clear hn hx hp;first|go_enter func212,ntmps212|go_enter func301,ntmps301
 go_wp2;go_loopw [8] (λi wr=>∃k:Nat,k<=n/\i= .int .i64 (k:Int)/\(ls.take k).any p=false/\aj w wr) (λi _=>n - (intOf i).toNat)
 ·exact⟨0,J,F,aB,aj.refl _⟩
 ·obtain⟨k,hk,rfl,gu,e1⟩:=hrel;obtain⟨E1,uw⟩:=aA e1 gu;clear e1 gu;by_cases aS:k<n
  ·obtain⟨x,gy⟩:∃x,ls[k]? =some x:=⟨ls[k]'(by rw[HN.out];exact aS),aB⟩;first
    |obtain⟨A,rfl,dD⟩:∃A,a=some A/\w.cell? (A.add k)=some (.string x):=by
      obtain⟨g,o,rfl,h⟩:=HX.jg (by rw[aI,HN.out];omega);exact⟨_,F,by rw[eX];exact h k _ (NP gy)⟩
    |obtain⟨A,rfl,dD⟩:∃A,a=some A/\w.cell? (A.add k)=some (.int .i64 x):=by
      obtain⟨g,o,rfl,h⟩:=HX.jg (by rw[aI,HN.out];omega);exact⟨_,F,by rw[eX];exact h k _ (U4 gy)⟩
   have hcl:=oP dD E1;have yJ:=O (HP x (f_ gy) wr E1);have rH:(ls.take (k+1)).any p=p x:=by rw[ny,gy,any_append,uw.out];simp
   have HS:=O rH;have Ev:p x=true->ls.any p=true:=λh=>He.2 ⟨x,f_ gy,h⟩;clear dD gy rH;cases hq:p x with
   |true=>
    rw[hq]at yJ;have HR:=O (Ev hq);clear Ev hq;go_wp2_with fail;refine yJ.mono ?_;rintro e w' ⟨rfl,e2⟩;go_wp2;go_ret;exact⟨_,F,by rw[HR.out];exact bV J,E1.ext e2⟩
   |false=>
    rw[hq]at yJ HS;clear Ev hq;go_wp2_with fail;refine yJ.mono ?_;rintro e w' ⟨rfl,e2⟩;go_wp2_with fail;have E2:=O (E1.ext e2);clear e2;go_roundw
    ·exact⟨k+1,J,by go_num,HS,E2⟩
    ·exact fV
  ·obtain rfl:k=n:=J;have kP:=uw.out;rw[gY (by rw[HN.out];exact aQ _)]at kP;have HR:=O kP;clear kP;go_wp2;go_ret;exact⟨-1,F,by rw[HR.out];rfl,E1⟩):b:=e
def ah3(p:ByteArray->Bool)(g:Nat)(d:Array Value)(ls:bq)(a:aO)(n c:Nat)(w:World)(h:∀b w,(callFunc g b).run prog w= .ok (.enter g b) w)(hn:ls.length=n)(i:n<=4611686018427387904)(hx:aM w a (ls.map dx))
 (hp:∀y∈ls,∀w',aj w w'->Calls prog g (#[.string y]++d) w' λe f=>e= .returned (.bool (p y))/\aj w' f):
 Calls prog 212 #[.slice a n c,.func (.func g) #[] d] w λe w'=>∃z:Int,e= .returned (.int .i64 z)/\decide (0<=z)=ls.any p/\aj w w':=ZR
def ZT{d:Prop}(e:d:=by
 first|have hi:=O (ah3 p g lb ls a n c w eg hn vR hx hp)|have hi:=O (ah2 p g lb ls a n c w eg hn vR hx hp)
 clear hp hx hn eg;generalize ls.any p=b at*;generalize Value.func (.func g) #[] lb=fv at*;first|go_enter func170,ntmps170|go_enter func241,ntmps241
 go_wp2_with fail;refine hi.mono ?_;rintro e w1 ⟨z,rfl,hz,e1⟩;have E1:=O e1;clear e1;go_wp2;go_ret;exact⟨by first|rfl|rw[hz],E1⟩):d:=e
def Zb(p:ByteArray->Bool)(g:Nat)(lb:Array Value)(ls:bq)(a:aO)(n c:Nat)(w:World)(eg:∀b w,(callFunc g b).run prog w= .ok (.enter g b) w)(hn:ls.length=n)(vR:n<=4611686018427387904)(hx:aM w a (ls.map dx))
 (hp:∀y∈ls,∀w',aj w w'->Calls prog g (#[.string y]++lb) w' λe d=>e= .returned (.bool (p y))/\aj w' d):
 Calls prog 170 #[.slice a n c,.func (.func g) #[] lb] w λe w'=>e= .returned (.bool (ls.any p))/\aj w w':=ZT
def ZU{b:Prop}(e:b:=by
 obtain⟨HN,HX⟩:=aA hn hx;clear hn hx;first|go_enter func174,ntmps174|go_enter func90,ntmps90
 go_wp2
 go_loop [5,8] (λ_ i=>∃k:Nat,k<=n/\i= .int .i64 (k:Int)/\Hid (x∉ls.take k)) (λ_ i=>n - (intOf i).toNat)
 ·exact⟨0,J,F,O aB⟩
 ·obtain⟨k,hk,rfl,gu⟩:=hrel;by_cases aS:k<n
  ·obtain⟨y,tT⟩:∃y,ls[k]? =some y:=⟨ls[k]'(by rw[HN.out];exact aS),aB⟩;first
    |obtain⟨A,rfl,dD⟩:∃A,a=some A/\w.cell? (A.add k)=some (.string y):=by
      obtain⟨g,o,rfl,h⟩:=HX.jg (by rw[aI,HN.out];omega);exact⟨_,F,by rw[eX];exact h k _ (NP tT)⟩
    |obtain⟨A,rfl,dD⟩:∃A,a=some A/\w.cell? (A.add k)=some (.int .i64 y):=by
      obtain⟨g,o,rfl,h⟩:=HX.jg (by rw[aI,HN.out];omega);exact⟨_,F,by rw[eX];exact h k _ (U4 tT)⟩
   have jI:=O (f_ tT);have rH:y≠x->x∉ls.take (k+1):=by
    intro h hm;rw[ny,tT,kU]at hm;rcases hm with hm|hm
    ·exact gu hm
    ·simp at hm;exact h hm.symm
   have HS:=O rH;first|have mW:=(show((x.toList==y.toList)=true↔y=x)from(QD x y).trans eq_comm)|(have mW:=(show((x==y)=true↔y=x)from by rw[yj];exact eq_comm))
   clear tT rH;by_cases u_:y=x
   ·subst u_;have q:=mW.2 F;clear mW;go_wp2;go_ret;exact⟨_,F,⟨λ_=>jI,λ_=>by omega⟩,F⟩
   ·have q:_=false:=Qk.2 λh=>u_ (mW.1 h);have Fw:=O (HS u_);clear mW u_ HS;go_wp2
    go_round
    ·exact⟨k+1,J,by go_num,Fw⟩
    ·exact fV
  ·obtain rfl:k=n:=J;have kP:=gu.out;rw[gY (by rw[HN.out];exact aQ _)]at kP;have HR:=O kP;clear kP gu;go_wp2;go_ret;exact⟨-1,F,⟨λh=>absurd h bS,λh=>absurd h HR⟩,F⟩):b:=e
def aib(x:ByteArray)(ls:bq)(a:aO)(n c:Nat)(w:World)(hn:ls.length=n)(b:n<=4611686018427387904)(hx:aM w a (ls.map dx)):
 Calls prog 174 #[.slice a n c,.string x] w λe w'=>∃z:Int,e= .returned (.int .i64 z)/\(0<=z↔x∈ls)/\w=w':=ZU
def ZV{b:Prop}(e:b:=by
 first|have hi:=O (aib x ls a n c w hn vR hx)|have hi:=O (ah5 x ls a n c w hn vR hx)
 clear hx hn;first|go_enter func118,ntmps118|go_enter func50,ntmps50
 go_wp2_with fail;refine hi.mono ?_;rintro e w1 ⟨z,rfl,hz,rfl⟩;have HZ:=O hz;clear hz;go_wp2;go_ret;exact⟨_,F,by simpa using HZ.out,F⟩):b:=e
def Zc(x:ByteArray)(ls:bq)(a:aO)(n c:Nat)(w:World)(hn:ls.length=n)(vR:n<=4611686018427387904)(hx:aM w a (ls.map dx)):
 Calls prog 118 #[.slice a n c,.string x] w λe w'=>∃b:Bool,e= .returned (.bool b)/\(b=true↔x∈ls)/\w=w':=ZV
end
section
set_option maxRecDepth 100000
def qH:Int->Value:= .int .i64
def U4{ls:List Int}{k:Nat}{x:Int}(h:ls[k]? =some x):(ls.map qH)[k]? =some (.int .i64 x):=by rw[iT,h];rfl
def L6:KF prog 3:=⟨⟨_,underlying3,F⟩,aC⟩
def ah2(p:Int->Bool)(g:Nat)(d:Array Value)(ls:List Int)(a:aO)(n c:Nat)(w:World)(h:∀b w,(callFunc g b).run prog w= .ok (.enter g b) w)(hn:ls.length=n)(i:n<=4611686018427387904)(hx:aM w a (ls.map qH))
 (hp:∀y∈ls,∀w',aj w w'->Calls prog g (#[.int .i64 y]++d) w' λe f=>e= .returned (.bool (p y))/\aj w' f):
 Calls prog 301 #[.slice a n c,.func (.func g) #[] d] w λe w'=>∃z:Int,e= .returned (.int .i64 z)/\decide (0<=z)=ls.any p/\aj w w':=ZR
def af4(p:Int->Bool)(g:Nat)(lb:Array Value)(ls:List Int)(a:aO)(n c:Nat)(w:World)(eg:∀b w,(callFunc g b).run prog w= .ok (.enter g b) w)(hn:ls.length=n)(vR:n<=4611686018427387904)(hx:aM w a (ls.map qH))
 (hp:∀y∈ls,∀w',aj w w'->Calls prog g (#[.int .i64 y]++lb) w' λe d=>e= .returned (.bool (p y))/\aj w' d):
 Calls prog 241 #[.slice a n c,.func (.func g) #[] lb] w λe w'=>e= .returned (.bool (ls.any p))/\aj w w':=ZT
def ah5(x:Int)(ls:List Int)(a:aO)(n c:Nat)(w:World)(hn:ls.length=n)(b:n<=4611686018427387904)(hx:aM w a (ls.map qH)):
 Calls prog 90 #[.slice a n c,.int .i64 x] w λe w'=>∃z:Int,e= .returned (.int .i64 z)/\(0<=z↔x∈ls)/\w=w':=ZU
def NG(x:Int)(ls:List Int)(a:aO)(n c:Nat)(w:World)(hn:ls.length=n)(vR:n<=4611686018427387904)(hx:aM w a (ls.map qH)):
 Calls prog 50 #[.slice a n c,.int .i64 x] w λe w'=>∃b:Bool,e= .returned (.bool b)/\(b=true↔x∈ls)/\w=w':=ZV
end
section
open Go Go.RowKit Go.Maps Go.MapKept Go.WideShapes
def ZW{c:Prop}(e:c:=by
 have ht:ls.take (k+1)=ls.take k++[x]:=by rw[ny,h];rfl
 refine⟨λhx=> ?_,λhx hd=> ?_⟩
 ·rw[ht,KR];refine⟨hn,aB,?_⟩;intro a ha b hb;rw[nu]at hb;subst hb;intro e;subst e;exact hx ha
 ·have h2:(ls.take (k+1)).Nodup:=hd.sublist (take_sublist _ _);rw[ht,KR]at h2;exact h2.2.2 x hx x aB F):c:=e
def ajq{ls:bq}{k:Nat}{x:ByteArray}(h:ls[k]? =some x)(hn:(ls.take k).Nodup):(x∉ls.take k->(ls.take (k+1)).Nodup)/\(x∈ls.take k->¬ls.Nodup):=ZW
def ZX{d:Prop}(e:d:=by
 obtain⟨HN,HX⟩:=aA hn hx;clear hn hx;first|go_enter func245,ntmps245|go_enter func246,ntmps246
 go_wp2;go_loopw [7] (λi wr=>∃k:Nat,k<=n/\i= .int .i64 (k:Int)/\(ls.take k).Nodup/\aj w wr) (λi _=>n - (intOf i).toNat)
 ·exact⟨0,J,F,aB,aj.refl _⟩
 ·obtain⟨k,hk,rfl,gu,e1⟩:=hrel;obtain⟨E1,uw⟩:=aA e1 gu;clear e1 gu;by_cases aS:k<n
  ·obtain⟨x,gy⟩:∃x,ls[k]? =some x:=⟨ls[k]'(by rw[HN.out];exact aS),aB⟩;first
    |obtain⟨A,rfl,dD⟩:∃A,a=some A/\w.cell? (A.add k)=some (.string x):=by
      obtain⟨g,o,rfl,h⟩:=HX.jg (by rw[aI,HN.out];omega);exact⟨_,F,by rw[eX];exact h k _ (NP gy)⟩
    |obtain⟨A,rfl,dD⟩:∃A,a=some A/\w.cell? (A.add k)=some (.int .i64 x):=by
      obtain⟨g,o,rfl,h⟩:=HX.jg (by rw[aI,HN.out];omega);exact⟨_,F,by rw[eX];exact h k _ (U4 gy)⟩
   have hcl:=oP dD E1;first|have fE:=O (ajq gy uw)|have fE:=O (ajp gy uw)
   first|(have Bp:aM wr (some A) ((ls.take k).map dx):=by rw[wW];exact(HX.ext E1).take k)|(have Bp:aM wr (some A) ((ls.take k).map qH):=by rw[wW];exact(HX.ext E1).take k)
   have rG:(ls.take k).length=k:=by rw[fP,HN.out];omega
   first|have rE:=O (Zc x (ls.take k) (some A) k c wr rG J Bp)|have rE:=O (NG x (ls.take k) (some A) k c wr rG J Bp)
   have hkc:k<=c:=J;clear dD gy Bp rG;go_wp2_with fail;refine rE.mono ?_;rintro e wU ⟨b,rfl,hb,rfl⟩;have HB:=O hb;clear hb;cases b with
   |true=>
    have HD:=O (fE.2 (HB.1 F));go_wp2;go_ret;exact⟨true,F,(by first|exact⟨λ_=>HD,λ_=>rfl⟩|exact⟨λ_=>HD,λ_=>trivial⟩|simpa using HD.out),E1⟩
   |false=>
    have o8:=O (fE.1 λh=>by have:=HB.2 h;cases this);go_wp2;go_roundw
    ·exact⟨k+1,J,by go_num,o8,E1⟩
    ·exact fV
  ·obtain rfl:k=n:=J;have kP:=uw.out;rw[gY (by rw[HN.out];exact aQ _)]at kP;have HR:=O kP;clear kP;go_wp2;go_ret;exact⟨false,F,(by first|exact⟨λh=>(Bool.noConfusion h),λh=>absurd HR.out h⟩|exact HR|simpa using HR.out),E1⟩):d:=e
def acH(ls:bq)(a:aO)(n c:Nat)(w:World)(hn:ls.length=n)(d:n<=4611686018427387904)(f:n<=c)(hx:aM w a (ls.map dx)):
 Calls prog 245 #[.slice a n c] w λe w'=>∃b:Bool,e= .returned (.bool b)/\(b=true↔¬ls.Nodup)/\aj w w':=ZX
end
section
open Go Go.RowKit Go.Maps Go.MapKept Go.WideShapes
set_option maxRecDepth 100000
set_option maxHeartbeats 4000000
def ajp{ls:List Int}{k:Nat}{x:Int}(h:ls[k]? =some x)(hn:(ls.take k).Nodup):(x∉ls.take k->(ls.take (k+1)).Nodup)/\(x∈ls.take k->¬ls.Nodup):=ZW
def ak8(ls:List Int)(a:aO)(n c:Nat)(w:World)(hn:ls.length=n)(d:n<=4611686018427387904)(f:n<=c)(hx:aM w a (ls.map qH)):
 Calls prog 246 #[.slice a n c] w λe w'=>∃b:Bool,e= .returned (.bool b)/\(b=true↔¬ls.Nodup)/\aj w w':=ZX
end
def alC(s:ByteArray)(i:Nat)(c:UInt8)(h:s.data[i]? =some c)(w:World):(Instr.index 9 (.string s) (.int .i64 (i:Int))).run prog w= .ok (.int .u8 (c.toNat:Int)) w:=by
 have a:s[i]? =some c:=by
  have b:i<s.size:=(o9.1 h).1;rw[getElem?_pos s i b];have:=(o9.1 h).2;exact lq some this
 simp[Instr.index,asIntOf,jB underlying9,a]
def XL{a:Prop}(e:a:=by
 have qf:((C:Int)==45)=false:=by simp;omega
 have WC:=bU ((C:Int)=45);have qg:((C:Int)==46)=false:=by simp;omega
 have qgd:=bU ((C:Int)=46);have qk:((C:Int)==95)=false:=by simp;omega
 have qkd:=bU ((C:Int)=95);clear h;have ahR:=PW.out;go_wp2;go_ret;exact⟨by rw[iQ.out];rfl,hw⟩):a:=e
def Px{a:Prop}(e:a:=by
 clear h;have ahR:=PW.out;go_wp2;go_roundw
 ·exact⟨i+1,J,by go_num,O (by rw[fE.out,AF.out]),hw⟩
 ·simp[intOf];omega):a:=e
def aaH(s:ByteArray)(w:World)(an:s.size<=140737488355328):
 qR 277 #[.string s] w (.bool (nH s.data.toList)):=by
 obtain⟨n,ae⟩:=aF s.size;have Q:s.data.toList.length=n:=by rw[<-ae,pz];rfl
 obtain⟨r,v⟩:=aF (nH s.data.toList);rw[v];unfold nH at v;obtain⟨B,A⟩:=aA v Q;have M:∀i:Nat,s.data[i]? =s.data.toList[i]? :=λi=>by rw[KI]
 have T:=O M;clear v Q M;go_enter func277,ntmps277;go_wp2;go_loopw [3] (λx wr=>∃i:Nat,i<=n/\x= .int .i64 i/\Hid ((s.data.toList.take i).all lZ=true)/\Hid (w=wr))
  (λx _=>n - (intOf x).toNat)
 ·exact⟨0,J,F,O aB,O F⟩
 ·obtain⟨i,am,rfl,q,hw⟩:=hrel;by_cases ac:i<n
  ·have al:=cO ((i:Int)<(n:Int));obtain⟨c,y⟩:∃c,s.data.toList[i]? =some c:=⟨_,mG (by rw[A.out];exact ac)⟩;have P:=λw=>alC s i c (by rw[T.out];exact y) w;have W:=c.toNat_lt;have S:(s.data.toList.take (i+1)).all lZ=lZ c:=by
    rw[ny,y,all_append,q.out];simp
   have N:lZ c=false->r=false:=by
    intro aa;have ad:=f_ y;have:s.data.toList.all lZ=false:=by
     rw[all_eq_false];exact⟨c,ad,by rw[aa];simp⟩
    rw[<-B.out,this];rfl
   obtain⟨fE,z⟩:=aA S N;obtain⟨C,u⟩:=aF c.toNat;rw[u]at P W;obtain⟨ai,PW⟩:=aA u P;have R:∀b,lZ c=b↔((decide (97<=C)&&decide (C<=122))||(decide (48<=C)&&decide (C<=57))||C==45||C==46||C==95)=b:=by
    intro b;unfold lZ;rw[u]
   have d:=O R;clear S N u R y;have ao:(0:Int)<=(i:Int):=J;have i1:(i:Int)<(n:Int):=J;rcases(by omega:(97<=C/\C<=122)∨122<C∨(48<=C/\C<=57)∨C=95∨(57<C/\C<97/\¬C=95)∨C=45∨C=46∨(C<48/\¬C=45/\¬C=46))with h|h|h|h|h|h|h|h
   ·have a:lZ c=true:=(d true).2 (by simp;omega);have AF:=O a;clear a;have g:=cO (97<=(C:Int));have j:=cO (97<=C);have af:=cO ((C:Int)<=122);have ag:=cO (C<=122);exact Px
   ·have a:lZ c=false:=(d false).2 (by simp;omega);have e:=z.out a;have iQ:=O e;clear a e;have g:=cO (97<=(C:Int));have j:=cO (97<=C);have af:=bU ((C:Int)<=122);have ag:=bU (C<=122);have m:=cO (48<=(C:Int));have o:=cO (48<=C);have G:=bU ((C:Int)<=57);have H:=bU (C<=57);exact XL
   ·have a:lZ c=true:=(d true).2 (by simp;omega);have AF:=O a;clear a;have g:=bU (97<=(C:Int));have j:=bU (97<=C);have m:=cO (48<=(C:Int));have o:=cO (48<=C);have G:=cO ((C:Int)<=57);have H:=cO (C<=57);exact Px
   ·have a:lZ c=true:=(d true).2 (by simp;omega);have AF:=O a;clear a;have g:=bU (97<=(C:Int));have j:=bU (97<=C);have m:=cO (48<=(C:Int));have o:=cO (48<=C);have G:=bU ((C:Int)<=57);have H:=bU (C<=57);have qf:((C:Int)==45)=false:=by simp;omega
    have WC:=bU ((C:Int)=45);have qg:((C:Int)==46)=false:=by simp;omega
    have qgd:=bU ((C:Int)=46);have qk:((C:Int)==95)=true:=by simp;omega
    have qkd:=cO ((C:Int)=95);exact Px
   ·have a:lZ c=false:=(d false).2 (by simp;omega);have e:=z.out a;have iQ:=O e;clear a e;have g:=bU (97<=(C:Int));have j:=bU (97<=C);have m:=cO (48<=(C:Int));have o:=cO (48<=C);have G:=bU ((C:Int)<=57);have H:=bU (C<=57);exact XL
   ·have a:lZ c=true:=(d true).2 (by simp;omega);have AF:=O a;clear a;have g:=bU (97<=(C:Int));have j:=bU (97<=C);have m:=bU (48<=(C:Int));have o:=bU (48<=C);have qf:((C:Int)==45)=true:=by simp;omega
    have WC:=cO ((C:Int)=45);exact Px
   ·have a:lZ c=true:=(d true).2 (by simp;omega);have AF:=O a;clear a;have g:=bU (97<=(C:Int));have j:=bU (97<=C);have m:=bU (48<=(C:Int));have o:=bU (48<=C);have qf:((C:Int)==45)=false:=by simp;omega
    have WC:=bU ((C:Int)=45);have qg:((C:Int)==46)=true:=by simp;omega
    have qgd:=cO ((C:Int)=46);exact Px
   ·have a:lZ c=false:=(d false).2 (by simp;omega);have e:=z.out a;have iQ:=O e;clear a e;have g:=bU (97<=(C:Int));have j:=bU (97<=C);have m:=bU (48<=(C:Int));have o:=bU (48<=C);exact XL
  ·have ab:i=n:=J;subst ab;have L:s.data.toList.all lZ=true:=by
    have:=q.out;rwa[gY (by rw[A.out];exact aQ _)]at this
   have E:=B.out;rw[L,A.out]at E;clear L;have iQ:=O E;clear E B;have l:s.toList=s.data.toList:=FN s;by_cases k:s.data.toList=[]
   ·have I:s.toList=[]:=by rw[l,k]
    have f:r=false:=by rw[<-iQ.out,k];rfl
    have p:=O f;clear f l k q;go_wp2;go_ret;exact⟨by rw[p.out];rfl,hw⟩
   ·have I:¬s.toList=[]:=by rw[l];exact k
    have V:s.toList.isEmpty=false:=by
     cases h:s.toList.isEmpty with
     |false=>rfl
     |true=>exact absurd (FB.1 h) I
    have t:s.data.toList.isEmpty=false:=by rw[<-l];exact V
    by_cases K:i<=32
    ·have U:=cO ((i:Int)<=32);have D:=bV K;have f:r=true:=by rw[<-iQ.out,t,D];rfl
     have p:=O f;clear f l k t q;go_wp2;go_ret;exact⟨by rw[p.out];rfl,hw⟩
    ·have U:=bU ((i:Int)<=32);have D:=bg K;have f:r=false:=by rw[<-iQ.out,t,D];rfl
     have p:=O f;clear f l k t q;go_wp2;go_ret;exact⟨by rw[p.out];rfl,hw⟩
def A_:ByteArray:=⟨#[97,98,99,100,101,102,103,104,105,106,107,108,109,110,111,112,113,114,115,116,117,118,119,120,121,122,48,49,50,51,52,53,54,55,56,57,45,46,95]⟩
def YN:∀b∈A_.data.toList,b.toNat<128:=bS
def aff:∀c:Fin 256,A_.data.toList.any (· ==UInt8.ofNat c.val)=lZ (UInt8.ofNat c.val):=by decide+kernel
def DR(r:Nat):Bool:=decide (r<128)&&lZ (UInt8.ofNat r)
def aaA(s:ByteArray)(c:Int)(w:World):
 qR 325 #[.string s,.int .u8 c] w (.int .i64 (firstIdx s c.toNat.toUInt8)):=by
 go_enter func325,ntmps325;go_wp2;rw[run_callFunc_extern func328 aC aC aC (e:=Extern.BytealgIndexByte.indexByte) aC,run_indexByte_string];simp only[Result.andThen];rw[Cb];go_wp2;go_ret;exact⟨F,F⟩
def aia(r:Nat)(w:World)(a:r<128):
 qR 291 #[.string A_,.int .i32 (r:Int)] w (.int .i64 (firstIdx A_ (UInt8.ofNat r))):=by
 have h:=O (λw'=>aaA A_ (r:Int) w');have g1:=cO ((0:Int)<=(r:Int));have b:=cO ((r:Int)<128);have c:=bV a;have d:IntKind.u8.wrap (r:Int)=r:=Nk _ J;go_enter func291,ntmps291;go_wp2_with (first|(go_at_call 325;refine(h _).mono ?_;rintro e w' ⟨rfl,rfl⟩));go_ret;exact⟨F,F⟩
def ah8(w:World):
 eO 291 #[.string A_,.int .i32 65533] w (.int .i64 (-1)):=by
 obtain⟨s,hs⟩:=aF A_;have q:s.size=39:=by rw[<-hs];rfl
 have l:∀b∈s.data.toList,b.toNat<128:=by rw[<-hs];exact YN
 rw[hs];obtain⟨v,t⟩:=aA q l;clear hs q l;go_enter func291,ntmps291;go_wp2
 go_loopg [] 39 (λx r=>∃a:Nat,r.heap[w.heap.size]? =some (.stringIter s a)/\Below w.heap.size w r/\39<=a+x)
 ·exact⟨0,Qo w s 0,(Aa _ w).alloc (aQ _) _,J⟩
 ·obtain⟨a,d,f,A⟩:=hrel;by_cases c:a<s.size
  ·obtain⟨e,rfl⟩:∃e,gk=e+1:=⟨gk - 1,by have:=v.out;omega⟩;have g:∀ty,(Instr.next (.pointer (some ⟨w.heap.size,0,none⟩)) true ty).run prog wr=_:=λty=>Qg wr w.heap.size s a ty d c;have m:(s[a]'c).toNat<128:=t.out _ (Array.getElem_mem_toList (xs:=s.data) c);have o:=decode_ascii s a c m;rw[o]at g;simp only at g;obtain⟨i,j⟩:=aF ((s[a]'c).toNat);rw[j]at g m;have p:=Qq wr w.heap.size s a (a+1) d;have n:=Lib.below_iterAt f (k:=w.heap.size) (aQ _) s (a+1);obtain⟨u,h⟩:=aA p n;have g1:((i:Int)==65533)=false:=by simp;omega
   have z:(i==65533)=false:=by simp;omega
   have y:39<=(a+1)+e:=J;clear p n d f o j;go_wp2
   go_roundg e
   case measure=>omega
   case rel=>exact⟨a+1,u,h,y⟩
  ·have g:∀ty,(Instr.next (.pointer (some ⟨w.heap.size,0,none⟩)) true ty).run prog wr=_:=λty=>Qf wr w.heap.size s a ty d c;have h:=O f;clear d f;go_wp2;go_ret;exact⟨F,h⟩
def ah6(r:Nat)(w:World)(i:55296<=r)(j:r<=57343):
 qR 291 #[.string A_,.int .i32 (r:Int)] w (.int .i64 (-1)):=by
 have g1:=cO ((0:Int)<=(r:Int));have a:=bU ((r:Int)<128);have b:=bU (r<128);have c:((r:Int)==65533)=false:=by simp;omega
 have d:(r==65533)=false:=by simp;omega
 have e:=bU ((r:Int)<55296);have f:=bU (r<55296);have g:=bU ((57343:Int)<(r:Int));have h:=bU (57343<r);go_enter func291,ntmps291;go_wp2;go_ret;exact⟨F,F⟩
def acW(s:ByteArray)(i:Nat)(h:i<s.size)(w:World):(Instr.index 9 (.string s) (.int .i64 (i:Int))).run prog w= .ok (.int .u8 ((s[i]'h).toNat:Int)) w:=by
 have a:s[i]? =some (s[i]'h):=getElem?_pos s i h;simp[Instr.index,asIntOf,jB underlying9,a]
def Va{o:Oper}{a:Act}{x y:Operand}{s:ByteArray}{i:Nat}{v:Value}(b:o.op= .index 9 x y)(c:a.eval x= .string s)(d:a.eval y= .int .i64 (i:Int))(h:∀w,(Instr.index 9 (.string s) (.int .i64 (i:Int))).run prog w= .ok v w)(w:World):
 (execOp a.eval o).run prog w= .ok (.value v) w:=by simp_all [execOp]
def alB(s:ByteArray)(i:Nat)(a:i<=s.size)(w:World):(Instr.sliceAt 9 (.string s) (some (.int .i64 (i:Int))) none none).run prog w= .ok (.string (s.extract i s.size)) w:=by
 have b:(0:Int)<=i/\(i:Int)<=s.size:=J;simp[Instr.sliceAt,Instr.slice,Instr.sliceBounds,Instr.sliceBound,asIntOf,jB underlying9,a]
def agS{o:Oper}{a:Act}{x y:Operand}{s:ByteArray}{i:Nat}(c:o.op= .slice 9 x (some y) none none)(d:a.eval x= .string s)(e:a.eval y= .int .i64 (i:Int))(b:i<=s.size)(w:World):
 (execOp a.eval o).run prog w= .ok (.value (.string (s.extract i s.size))) w:=by
 unfold execOp;simp only[c,d,e,jr,G9,iC,alB s i b w,ng,ni]
def anA(r:Nat)(w:World)(g:r<=1114111)(i:r<55296∨57343<r):
 qR 326 #[.int .i32 (r:Int)] w (.bool true):=by
 have g1:=cO ((0:Int)<=(r:Int));by_cases h:r<55296
 ·have a:=cO ((r:Int)<55296);have b:=cO (r<55296);go_enter func326,ntmps326;go_wp2;go_ret;exact⟨F,F⟩
 ·have a:=bU ((r:Int)<55296);have b:=bU (r<55296);have e:=cO ((57343:Int)<(r:Int));have f:=cO (57343<r);have c:=cO ((r:Int)<=1114111);have d:=cO (r<=1114111);go_enter func326,ntmps326;go_wp2;go_ret;exact⟨F,F⟩
def ah9(r:Nat)(w:World)(ag:128<=r)(P:r<=1114111)(p:r<55296∨57343<r)(Q:r≠65533):
 eO 291 #[.string A_,.int .i32 (r:Int)] w (.int .i64 (-1)):=by
 have G:Utf8.valid (r:Int)=true:=by
  rw[validRune_eq];unfold validRune;exact bV J
 obtain⟨M,N,h⟩:=encode_facts (r:Int) G J;obtain⟨rs,V⟩:=aF (Utf8.encode (r:Int));rw[V]at M N h;obtain⟨m,B⟩:=mP (rs.size - 1);have n:m<rs.size:=J;have D:=h J;have v:128<=(rs[m]'n).toNat:=by subst B;exact D
 have al:((rs.size:Nat):Int) - 1=(m:Int):=J;have l:=λw=>acW rs m n w;obtain⟨s,hs⟩:=aF A_;have E:s.size=39:=by rw[<-hs];rfl
 have k:∀b∈s.data.toList,b.toNat<128:=by rw[<-hs];exact YN
 have g:m<s.size:=J;have z:=λw=>acW s m g w;have R:(s[m]'g).toNat<128:=k _ (Array.getElem_mem_toList (xs:=s.data) g);obtain⟨c,u⟩:=aF ((rs[m]'n));obtain⟨b,t⟩:=aF ((s[m]'g).toNat);rw[u]at l v;rw[t]at z R;have ai:=c.toNat_lt;obtain⟨A,U⟩:=aA (λa e w'=>aaA (s.extract a e) (c.toNat:Int) w') (λa e=>firstIdx_ascii s a e c k v);have y:((c.toNat:Int)).toNat.toUInt8=c:=aB;rw[y]at A;rw[hs];obtain⟨ab,W⟩:=aA E (λw'=>anA r w' P p);clear hs k D h B u t E p G y;have g1:=cO ((0:Int)<=(r:Int));have ac:=bU ((r:Int)<128);have ad:=bU (r<128);have ae:((r:Int)==65533)=false:=by simp;omega
 have af:(r==65533)=false:=by simp[Q]
 go_enter func291,ntmps291;go_wp2_with (first|(go_at_call 326;refine(W _).mono ?_;rintro e w' ⟨rfl,rfl⟩))
 go_step3
 go_wp2_with fail;go_loopw [9] (λx wr=>x= .int .i64 (m:Int)/\wr=w) (λ_ _=>0)
 ·exact⟨F,F⟩
 ·obtain⟨rfl,rfl⟩:=hrel;have k1:=cO ((m:Int)<(s.size:Int));have k2:=bV g;have k3:((b:Int) != (c.toNat:Int))=true:=by simp;omega
  have k4:(b != c.toNat)=true:=by simp;omega
  go_wp2_with fail
  go_step3
  go_wp2_with fail;obtain⟨C,f,j⟩:=nR wr;refine qX (S:=C) aC ((f _).2 (aj.refl wr).drew) (λX=> ?_);refine ay 0 ?_;refine ay 1 ?_;refine aV 2 F (aY F (λd _=>Va F F F z d)) ?_;refine ay 3 ?_;refine ay 4 ?_;refine aV 5 F (aY F (λd _=>Va F F F l d)) ?_;refine ay 6 ?_;have L:aj wr wr.drew:=(aj.refl wr).drew;generalize wr.drew=o at*;refine dP ?_;clear X j f C;go_wp2_with fail;obtain⟨C,f,j⟩:=nR o;refine qX (S:=C) aC ((f _).2 (aj.refl o).drew) (λX=> ?_);have aa:IntKind.i64.wrap ((m:Int)+1)=((m+1:Nat):Int):=by rw[fJ _ J];omega
  have T:m+1<=s.size:=J;generalize m+1=H at*;refine ay 0 ?_;refine ay 1 ?_;refine ay 2 ?_;refine aV 3 F (aY F (λd _=>agS (i:=H) F F F T d)) ?_;refine ay 4 ?_;refine ay 5 ?_;refine aV 6 F (aY F (λd _=>Va F F F l d)) ?_;clear aa;generalize o.drew=am at*;refine aT 7 ?_;intro K q;go_wp2_with fail;refine(A H s.size _).mono ?_;rintro e an ⟨rfl,rfl⟩;go_wp2_with fail;refine q _ _ X ?_;clear q K;refine aL ?_;rw[U.out];refine ay 8 ?_;refine dP ?_;have I:=O (L.ext ((f _).1 X));clear X j f C;go_wp2_with fail;rw[Exit.noGoto_ret];go_wp2_with fail;rw[Exit.noGoto_ret];go_ret;exact⟨F,I⟩
def abb{c:UInt8}(h:128<=c.toNat):lZ c=false:=by
 unfold lZ;simp;omega
def acX{r:Nat}(h:r<128):DR r=lZ (UInt8.ofNat r):=by grind [DR]
def SI{r:Nat}(h:128<=r):DR r=false:=by grind [DR]
def alD(c:UInt8)(h:c.toNat<128):DR c.toNat=lZ c:=by
 rw[acX h,UInt8.ofNat_toNat]
def ah7(r:Nat)(w:World)(h:r<=1114111):
 Calls prog 291 #[.string A_,.int .i32 (r:Int)] w λe w'=>∃z:Int,e= .returned (.int .i64 z)/\decide (0<=z)=DR r/\aj w w':=by
 by_cases b:r<128
 ·refine(aia r w b).mono ?_;rintro e w' ⟨rfl,rfl⟩;refine⟨_,F,?_,aj.refl _⟩;rw[firstIdx_nonneg,acX b];have:=aff ⟨r,J⟩;exact this
 ·by_cases c:r=65533
  ·subst c;refine(ah8 w).mono ?_;rintro e w' ⟨rfl,a⟩;exact⟨_,F,by rw[SI J];rfl,a⟩
  ·by_cases d:55296<=r/\r<=57343
   ·refine(ah6 r w d.1 d.2).mono ?_;rintro e w' ⟨rfl,rfl⟩;exact⟨_,F,by rw[SI J];rfl,aj.refl _⟩
   ·refine(ah9 r w J h J c).mono ?_;rintro e w' ⟨rfl,a⟩;exact⟨_,F,by rw[SI J];rfl,a⟩
def af6(r:Nat)(w:World)(h:r<=1114111):
 eO 235 #[.string A_,.int .i32 (r:Int)] w (.bool (DR r)):=by
 have c:=O (λw'=>ah7 r w' h);generalize DR r=f at*;generalize A_=s at*;go_enter func235,ntmps235;go_wp2_with fail;refine(c w).mono ?_;rintro e g ⟨z,rfl,d,a⟩;have b:=O a;clear a;go_wp2;go_ret;exact⟨by first|rfl|rw[d],b⟩
def ajr(r:Nat)(w:World)(h:r<=1114111):
 eO 234 #[.int .i32 (r:Int)] w (.bool (!DR r)):=by
 have c:=O (λw'=>af6 r w' h);generalize DR r=d at*;go_enter func234,ntmps234;go_wp2_with fail;refine(c w).mono ?_;rintro e f ⟨rfl,a⟩;have b:=O a;clear a;go_wp2;go_ret;exact⟨F,b⟩
def OY:Value:= .func (.func 234) #[] #[]
def ah4(s:ByteArray)(w:World):
 Calls prog 324 #[.string s,OY,.bool true] w λe w'=>∃z:Int,e= .returned (.int .i64 z)/\decide (0<=z)= !(s.data.toList.all lZ)/\aj w w':=by
 obtain⟨q,y⟩:=aF s.size;have S:s.data.toList.length=q:=by rw[<-y,pz];rfl
 obtain⟨ad,L⟩:=aA S y;clear S y;unfold OY;go_enter func324,ntmps324;go_wp2
 go_loopg [] q (λaf W=>∃a:Nat,W.heap[w.heap.size]? =some (.stringIter s a)/\Below w.heap.size w W/\Hid ((s.data.toList.take a).all lZ=true)/\q<=a+af)
 ·exact⟨0,Qo w s 0,(Aa _ w).alloc (aQ _) _,O aB,J⟩
 ·obtain⟨a,l,n,A,am⟩:=hrel;by_cases c:a<s.size
  ·have an:a<q:=by rw[<-L.out];exact c
   obtain⟨x,rfl⟩:∃x,gk=x+1:=⟨gk - 1,J⟩;have E:∀ty,(Instr.next (.pointer (some ⟨w.heap.size,0,none⟩)) true ty).run prog wr=_:=λty=>Qg wr w.heap.size s a ty l c;have u:=Lib.rune_le s a;have r:s.data.toList[a]? =some (s[a]'c):=by rw[KI];exact Array.getElem?_eq_getElem c
   obtain⟨M,d⟩:=aF ((Utf8.decode s a).1);obtain⟨p,i⟩:=aF ((Utf8.decode s a).2);have T:DR M=lZ (s[a]'c)/\(lZ (s[a]'c)=true->p=1):=by
    by_cases j:(s[a]'c).toNat<128
    ·have ai:=decode_ascii s a c j;rw[ai]at d i;simp only at d i;rw[<-d];exact⟨alD _ j,λ_=>i.symm⟩
    ·have Q:=(decode_high s a c J).1;rw[d]at Q;refine⟨by rw[SI Q,abb J],λh=> ?_⟩;rw[abb J]at h;cases h
   rw[d]at E u;rw[i]at E;obtain⟨b,j⟩:=aF ((s[a]'c));rw[j]at T r;obtain⟨m,G⟩:=T;have D:=Qq wr w.heap.size s a (a+p) l;have C:=Lib.below_iterAt n (k:=w.heap.size) (aQ _) s (a+p);obtain⟨K,f,t,I⟩:=bT D C (λw'=>ajr M w' u) r;generalize wr.iterAt w.heap.size s (a+p)=H at*;have al:w.heap.size<H.heap.size:=(o9.1 K).1;cases o:lZ b with
   |true=>
    rw[o]at m;have ag:=G o;subst ag;rw[m]at t;have U:(s.data.toList.take (a+1)).all lZ=true:=by
     rw[ny,I.out,all_append,A.out];simp[o]
    have ae:=O U;clear l n D C d i m G r U j u;go_wp2_with fail;refine(t H).mono ?_;rintro e V ⟨rfl,g⟩;have R:V.heap[w.heap.size]? =some (.stringIter s (a+1)):=by rw[g.block _ al];exact K
    obtain⟨ac,v⟩:=aA R (f.trans (g.mono f.size));clear g R;go_wp2
    go_roundg x
    case measure=>omega
    case rel=>exact⟨a+1,ac,v,ae,J⟩
   |false=>
    rw[o]at m;rw[m]at t;have N:s.data.toList.all lZ=false:=by
     rw[all_eq_false];exact⟨b,f_ I,by rw[o];simp⟩
    have ab:=O N;clear l n D C d i m G r N j u;go_wp2_with fail;refine(t H).mono ?_;rintro e V ⟨rfl,g⟩;have v:=O (f.trans (g.mono f.size));clear g;go_wp2;go_ret;exact⟨_,F,by rw[ab.out];exact bV J,v⟩
  ·have E:∀ty,(Instr.next (.pointer (some ⟨w.heap.size,0,none⟩)) true ty).run prog wr=_:=λty=>Qf wr w.heap.size s a ty l c;have P:s.data.toList.take a=s.data.toList:=gY (by rw[ad.out];have:=L.out;omega);have B:=A.out;rw[P]at B;obtain⟨aa,f⟩:=aA B n;clear l n A B P;go_wp2;go_ret;exact⟨_,F,by rw[aa.out];rfl,f⟩
def af5(s:ByteArray)(w:World):
 eO 233 #[.string s,OY] w (.bool (!(s.data.toList.all lZ))):=by
 have g:=O (λw'=>ah4 s w');generalize s.data.toList.all lZ=b at*;generalize OY=i at*;have h:Hid (∀w,Calls prog 290 #[.string s,i] w λe w'=>∃z:Int,e= .returned (.int .i64 z)/\decide (0<=z)=(!b)/\aj w w'):=by
  refine O λw=> ?_;go_enter func290,ntmps290;go_wp2_with fail;refine(g w).mono ?_;rintro e j ⟨z,rfl,c,a⟩;obtain⟨d,f⟩:=aA a c;clear a c;go_wp2;go_ret;exact⟨z,F,f,d⟩
 go_enter func233,ntmps233;go_wp2_with fail;refine(h w).mono ?_;rintro e j ⟨z,rfl,c,a⟩;have d:=O a;clear a;go_wp2;go_ret;exact⟨by first|rfl|rw[c],d⟩
def O6(s:ByteArray)(w:World)(v:s.size<=9223372036854775807):
 eO 186 #[.string s] w (.bool (nH s.data.toList)):=by
 have p:=O (λw'=>af5 s w');obtain⟨n,k⟩:=aF s.size;have c:s.data.toList.length=n:=by rw[<-k,pz];rfl
 obtain⟨u,a⟩:=aF (nH s.data.toList);rw[a];unfold nH at a;have i:s.data.toList.isEmpty=decide (n=0):=by
  rw[Cc,FB,tJ,<-c,qm]
 have f:s=ByteArray.empty↔n=0:=by
  constructor
  ·rintro rfl;rw[<-k];rfl
  ·intro h;have:s.data.toList=[]:=qm.1 (by rw[c];exact h);cases s with
   |mk d=>cases d with
    |mk l=>simp at this;subst this;rfl
 rw[i,c]at a;generalize s.data.toList.all lZ=b at*;by_cases g:n=0
 ·have hs:=f.2 g;subst hs;subst g;simp at a;subst a;clear f i c k;go_enter func186,ntmps186;go_wp2;go_ret;exact⟨F,aj.refl _⟩
 ·have t:¬s=ByteArray.empty:=λh=>g (f.1 h);have q:s.toList.isEmpty=false:=by
   have:=decide_eq_emptyBytes s;rw[bg t]at this;exact this.symm
  have x:¬s.toList=[]:=by
   intro h;rw[h]at q;cases q
  rw[bg g]at a;by_cases o:n<=32
  ·have g1:=cO ((n:Int)<=32);have j:=bV o;rw[j]at a;simp at a;subst a;clear f i c;unfold OY at p;go_enter func186,ntmps186;go_wp2_with fail;refine(p w).mono ?_;rintro e y ⟨rfl,m⟩;have r:=O m;clear m;go_wp2;go_ret;exact⟨by first|rfl|simp,r⟩
  ·have g1:=bU ((n:Int)<=32);have j:=bg o;rw[j]at a;simp at a;subst a;clear f i c;go_enter func186,ntmps186;go_wp2;go_ret;exact⟨F,aj.refl _⟩
end Go.Proofs.YtjlhhnkhcbpnjaaGreatDoor
