/- Stir and Unstir, and the references' ones: what they compute; condition: the array's length. -/
import Derived.Test.YthfddfgncolnbaaDoorS3
namespace Go.Proofs.YthfddfgncolnbaaDoor
open Go Go.RowKit

/-- w[i] += turn(&w, r, i) -/
def addW (ws : List UInt32) (r i : Nat) : List UInt32 := ws.set i (add32 (ws[i]?.getD 0) (turnW ws r i))
def subW (ws : List UInt32) (r i : Nat) : List UInt32 := ws.set i (sub32 (ws[i]?.getD 0) (turnW ws r i))
/-- w[(i+9)%16] ^= rotl(w[i], 11) -/
def xorW (ws : List UInt32) (i : Nat) : List UInt32 := ws.set ((i + 9) % 16) (xor32 (ws[(i + 9) % 16]?.getD 0) (rotl (ws[i]?.getD 0) 11))
def stepW (ws : List UInt32) (r i : Nat) : List UInt32 := xorW (addW ws r i) i
def unstepW (ws : List UInt32) (r i : Nat) : List UInt32 := subW (xorW ws i) r i
/-- the first i steps of round r -/
def roundTo (r : Nat) (ws : List UInt32) : Nat → List UInt32
  | 0 => ws
  | i + 1 => stepW (roundTo r ws i) r i
def stirTo (ws : List UInt32) : Nat → List UInt32
  | 0 => ws
  | r + 1 => roundTo r (stirTo ws r) 16
/-- steps 15, 14, .. of round r undone, i of them -/
def unroundTo (r : Nat) (ws : List UInt32) : Nat → List UInt32
  | 0 => ws
  | i + 1 => unstepW (unroundTo r ws i) r (15 - i)
def unstirTo (ws : List UInt32) : Nat → List UInt32
  | 0 => ws
  | r + 1 => unroundTo (7 - r) (unstirTo ws r) 16
def stirL (l : List UInt8) : List UInt8 := stateL (stirTo (wordsL l) 8)
def unstirL (l : List UInt8) : List UInt8 := stateL (unstirTo (wordsL l) 8)

theorem addW_length (ws : List UInt32) (r i : Nat) : (addW ws r i).length = ws.length := by simp [addW]
theorem subW_length (ws : List UInt32) (r i : Nat) : (subW ws r i).length = ws.length := by simp [subW]
theorem xorW_length (ws : List UInt32) (i : Nat) : (xorW ws i).length = ws.length := by simp [xorW]
theorem roundTo_length (r : Nat) (ws : List UInt32) (i : Nat) : (roundTo r ws i).length = ws.length := by
  induction i with
  | zero => rfl
  | succ i ih => simp [roundTo, stepW, xorW_length, addW_length, ih]
theorem stirTo_length (ws : List UInt32) (r : Nat) : (stirTo ws r).length = ws.length := by
  induction r with
  | zero => rfl
  | succ r ih => simp [stirTo, roundTo_length, ih]
theorem unroundTo_length (r : Nat) (ws : List UInt32) (i : Nat) : (unroundTo r ws i).length = ws.length := by
  induction i with
  | zero => rfl
  | succ i ih => simp [unroundTo, unstepW, xorW_length, subW_length, ih]
theorem unstirTo_length (ws : List UInt32) (r : Nat) : (unstirTo ws r).length = ws.length := by
  induction r with
  | zero => rfl
  | succ r ih => simp [unstirTo, unroundTo_length, ih]
theorem wordsL_length (l : List UInt8) : (wordsL l).length = 16 := by simp [wordsL]
theorem stateL_length (ws : List UInt32) : (stateL ws).length = 64 := by simp [stateL]

end Go.Proofs.YthfddfgncolnbaaDoor
