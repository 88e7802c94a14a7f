/- The Summer's block; conditions: the lengths, and where the octets lie. -/
import Derived.Test.YthfddfgncolnbaaDoorS6
import Derived.Laws.AppendOwn
namespace Go.Proofs.YthfddfgncolnbaaDoor
open Go Go.RowKit

/-- the first i octets of b, exclusive or -/
def mixTo (s b : List UInt8) : Nat → List UInt8
  | 0 => s
  | i + 1 => (mixTo s b i).set i (xor8 ((mixTo s b i)[i]?.getD 0) (b[i]?.getD 0))
theorem mixTo_length (s b : List UInt8) (i : Nat) : (mixTo s b i).length = s.length := by
  induction i with
  | zero => rfl
  | succ i ih => simp [mixTo, ih]
/-- the end of a function without results -/
theorem end_none {P : Program} {fn : Func} {R : Ending → World → Prop} {a : Act} {w : World} (hr : fn.results = #[]) (hd : a.defers = []) (hR : R (.returned (.tuple #[])) w) : bodyPost P fn R .normal a w := by
  unfold bodyPost
  simp [hd, results_none hr, hR]
/-- a block taken into the state -/
def absorb (s b : List UInt8) : List UInt8 := stirL (mixTo s b 32)
theorem stirL_length (l : List UInt8) : (stirL l).length = 64 := by simp [stirL, stateL_length]
theorem absorb_length (s b : List UInt8) : (absorb s b).length = 64 := stirL_length _

theorem grown_refl (w : World) (r : Option Nat) : w.grownBy w r := ⟨rfl, rfl, rfl, Nat.le_refl _, fun _ _ _ => rfl⟩
theorem grown_drewN {w w' : World} {r : Option Nat} (h : w.grownBy w' r) (n : Nat) : w.grownBy (w'.drewN n) r := ⟨h.os, h.tape, h.output, h.size, h.block⟩
theorem grown_set {w w' : World} {g : Nat} (h : w.grownBy w' (some g)) (i : Nat) (v : Value) : w.grownBy (w'.setCell ⟨g, i, none⟩ v) (some g) :=
  ⟨h.os, h.tape, h.output, by simp [World.setCell]; exact h.size, fun k hk hn => by rw [Below.heap_setCell _ _ _ _ (fun e => hn (by rw [e]))]; exact h.block k hk hn⟩
theorem grown_ext {w w1 w2 : World} {r : Option Nat} (h : w.grownBy w1 r) (k : Ext w1 w2) : w.grownBy w2 r :=
  ⟨k.os.trans h.os, k.tape.trans h.tape, k.output.trans h.output, Nat.le_trans h.size k.size, fun i hi hn => (k.block i (Nat.lt_of_lt_of_le hi h.size)).trans (h.block i hi hn)⟩
theorem grown_upd {w w1 w2 : World} {g : Nat} (h : w.grownBy w1 (some g)) (k : Upd w1 g w2) : w.grownBy w2 (some g) :=
  ⟨k.os.trans h.os, k.tape.trans h.tape, k.output.trans h.output, by rw [k.size]; exact h.size, fun i hi hn => (k.block i (fun e => hn (by rw [e]))).trans (h.block i hi hn)⟩

/-- the octet behind place i, wherever it lies -/
theorem mix_cell {w : World} {g : Nat} {l : List UInt8} {tl : List Value} {T : TypeId} (h : Blk w g (l.map u8v ++ tl) T) {i : Nat} (hi : i < l.length) :
    w.cell? ⟨g, i, none⟩ = some (.int .u8 ((l[i]?.getD 0).toNat : Int)) := by
  refine h.cell' ?_
  rw [List.getElem?_append_left (by simpa using hi)]
  simp [hi, u8v]
theorem mix_set {w : World} {g : Nat} {l : List UInt8} {tl : List Value} {T : TypeId} (h : Blk w g (l.map u8v ++ tl) T) {i : Nat} (hi : i < l.length) (x : UInt8) :
    Blk (w.setCell ⟨g, i, none⟩ (.int .u8 (x.toNat : Int))) g ((l.set i x).map u8v ++ tl) T := by
  have := h.set i (u8v x)
  rwa [List.set_append_left _ _ (by simpa using hi), ← List.map_set] at this

end Go.Proofs.YthfddfgncolnbaaDoor
