/- Contracts and laws that the claim's row leans on (2 texts, joined): Numbers of at most three digits, the words of a rule: plain; no condition. append to a row of one's own, of any element type, its block told; rows side by side; condition: the bounds. -/
import Derived.Test.YthfddfgncolnbaaGreatDoorJ2
import Derived.Laws.OwnMore
import Derived.Lib.AppendZeros
import Derived.Lib.SlFresh
namespace Go.Proofs.YthfddfgncolnbaaGreatDoor
section
open Go Go.RowKit

def numV (l : List UInt8) : Nat := l.foldl (fun n b => 10 * n + (b.toNat - 48)) 0
def numB (l : List UInt8) : Bool := !l.isEmpty && decide (l.length ≤ 3) && !(decide (l.headD 0 = 48) && !decide (l = [48])) && l.all digB
def smallB (l : List UInt8) : Bool := numOk l && decide (0 ≤ numOf l) && decide (l.length ≤ 3) && decide (Lib.itoa (numOf l) = l)
theorem numV_snoc (l : List UInt8) (b : UInt8) : numV (l ++ [b]) = 10 * numV l + (b.toNat - 48) := by unfold numV; rw [List.foldl_append]; rfl
theorem numV_dec (u : Nat) : numV (Lib.decDigits u) = u := by
  induction u using Nat.strongRecOn with
  | _ u ih =>
    rw [Lib.decDigits]
    by_cases h : u < 10
    · rw [dif_pos h]
      have := ofNat48 u h
      unfold numV
      simp only [List.foldl_cons, List.foldl_nil, this]
      omega
    · rw [dif_neg h, numV_snoc, ih (u / 10) (by omega), ofNat48 (u % 10) (by omega)]
      omega
theorem dec_head (u : Nat) : (Lib.decDigits u).headD 0 = 48 → u = 0 := by
  induction u using Nat.strongRecOn with
  | _ u ih =>
    intro h0
    rw [Lib.decDigits] at h0
    by_cases h : u < 10
    · rw [dif_pos h] at h0
      have h1 := ofNat48 u h
      have h2 : UInt8.ofNat (48 + u) = 48 := by simpa using h0
      rw [h2] at h1
      have : (48 : UInt8).toNat = 48 := rfl
      omega
    · rw [dif_neg h] at h0
      have hne := dec_ne (u / 10)
      cases hd : Lib.decDigits (u / 10) with
      | nil => exact absurd hd hne
      | cons x r =>
        rw [hd] at h0
        have := ih (u / 10) (by omega) (by rw [hd]; simpa using h0)
        omega
theorem dig_lt {b : UInt8} (h : digB b = true) : 48 ≤ b.toNat ∧ b.toNat ≤ 57 := by
  unfold digB at h
  simpa using h
theorem dig_of {b : UInt8} (h : digB b = true) : UInt8.ofNat (48 + (b.toNat - 48)) = b := by
  have := dig_lt h
  rw [show 48 + (b.toNat - 48) = b.toNat by omega]
  simp
theorem dec_snoc {x : Nat} {b : UInt8} (hx : 0 < x) (h : digB b = true) : Lib.decDigits (10 * x + (b.toNat - 48)) = Lib.decDigits x ++ [b] := by
  have := dig_lt h
  rw [Lib.decDigits, dif_neg (by omega), show (10 * x + (b.toNat - 48)) / 10 = x by omega, show (10 * x + (b.toNat - 48)) % 10 = b.toNat - 48 by omega, dig_of h]
theorem dec_one {b : UInt8} (h : digB b = true) : Lib.decDigits (b.toNat - 48) = [b] := by
  have := dig_lt h
  rw [Lib.decDigits, dif_pos (by omega), dig_of h]
theorem numV_lt {l : List UInt8} (h : numB l = true) : numV l < 1000 := by
  unfold numB at h
  simp only [Bool.and_eq_true, decide_eq_true_eq] at h
  obtain ⟨⟨⟨_, hl⟩, _⟩, hd⟩ := h
  rw [List.all_eq_true] at hd
  match l, hl, hd with
  | [], _, _ => decide
  | [a], _, hd =>
    have := dig_lt (hd a (by simp))
    show 10 * 0 + (a.toNat - 48) < 1000
    omega
  | [a, b], _, hd =>
    have := dig_lt (hd a (by simp))
    have := dig_lt (hd b (by simp))
    show 10 * (10 * 0 + (a.toNat - 48)) + (b.toNat - 48) < 1000
    omega
  | [a, b, c], _, hd =>
    have := dig_lt (hd a (by simp))
    have := dig_lt (hd b (by simp))
    have := dig_lt (hd c (by simp))
    show 10 * (10 * (10 * 0 + (a.toNat - 48)) + (b.toNat - 48)) + (c.toNat - 48) < 1000
    omega
theorem not48 {a : UInt8} (h : digB a = true) (h0 : a ≠ 48) : 0 < a.toNat - 48 := by
  have := dig_lt h
  have : a.toNat ≠ 48 := fun e => h0 (UInt8.toNat_inj.1 e)
  omega
theorem numB_dec {l : List UInt8} (h : numB l = true) : Lib.decDigits (numV l) = l := by
  unfold numB at h
  simp only [Bool.and_eq_true, decide_eq_true_eq] at h
  obtain ⟨⟨⟨hn, hl⟩, hz⟩, hd⟩ := h
  rw [List.all_eq_true] at hd
  match l, hn, hl, hz, hd with
  | [a], _, _, _, hd =>
    have h1 := hd a (by simp)
    show Lib.decDigits (10 * 0 + (a.toNat - 48)) = [a]
    rw [Nat.mul_zero, Nat.zero_add]
    exact dec_one h1
  | [a, b], _, _, hz, hd =>
    have h1 := hd a (by simp)
    have h2 := hd b (by simp)
    have ha : a ≠ 48 := by
      rintro rfl
      simp at hz
    show Lib.decDigits (10 * (10 * 0 + (a.toNat - 48)) + (b.toNat - 48)) = [a, b]
    rw [Nat.mul_zero, Nat.zero_add, dec_snoc (not48 h1 ha) h2, dec_one h1]
    rfl
  | [a, b, c], _, _, hz, hd =>
    have h1 := hd a (by simp)
    have h2 := hd b (by simp)
    have h3 := hd c (by simp)
    have ha : a ≠ 48 := by
      rintro rfl
      simp at hz
    have := not48 h1 ha
    show Lib.decDigits (10 * (10 * (10 * 0 + (a.toNat - 48)) + (b.toNat - 48)) + (c.toNat - 48)) = [a, b, c]
    rw [Nat.mul_zero, Nat.zero_add, dec_snoc (by omega) h3, dec_snoc this h2, dec_one h1]
    rfl
theorem smallB_eq (l : List UInt8) : smallB l = numB l ∧ (numB l = true → numOf l = numV l) := by
  have back : numB l = true → numOk l = true ∧ numOf l = numV l := by
    intro h
    have hd := numB_dec h
    have hlt := numV_lt h
    have e : Lib.itoa (numV l : Int) = l := by rw [itoa_dec (by omega), Int.toNat_natCast, hd]
    have k1 := numOk_itoa (n := (numV l : Int)) (by omega) (by omega)
    have k2 := numOf_itoa (n := (numV l : Int)) (by omega) (by omega)
    rw [e] at k1 k2
    exact ⟨k1, k2⟩
  refine ⟨?_, fun h => (back h).2⟩
  rw [Bool.eq_iff_iff]
  constructor
  · intro h
    unfold smallB at h
    simp only [Bool.and_eq_true, decide_eq_true_eq] at h
    obtain ⟨⟨⟨_, h0⟩, hl⟩, he⟩ := h
    rw [itoa_dec h0] at he
    unfold numB
    simp only [Bool.and_eq_true, decide_eq_true_eq]
    refine ⟨⟨⟨?_, hl⟩, ?_⟩, ?_⟩
    · rw [← he]
      cases hd : Lib.decDigits (numOf l).toNat with
      | nil => exact absurd hd (dec_ne _)
      | cons x r => rfl
    · by_cases hh : l.headD 0 = 48
      · rw [← he] at hh
        have h3 := dec_head _ hh
        rw [h3] at he
        have h4 : l = [48] := by
          rw [← he, Lib.decDigits, dif_pos (by decide)]
          rfl
        simp [h4]
      · rw [decide_eq_false hh]; rfl
    · rw [List.all_eq_true]
      rw [← he]
      exact dec_dig _
  · intro h
    obtain ⟨k1, k2⟩ := back h
    have hlt := numV_lt h
    unfold smallB
    simp only [Bool.and_eq_true, decide_eq_true_eq]
    refine ⟨⟨⟨k1, by omega⟩, ?_⟩, ?_⟩
    · unfold numB at h
      simp only [Bool.and_eq_true, decide_eq_true_eq] at h
      exact h.1.1.2
    · rw [k2, itoa_dec (by omega), Int.toNat_natCast]
      exact numB_dec h

/-! ### the words of a rule -/
def wdDeny : ByteArray := ⟨#[100, 101, 110, 121]⟩
def wdAllow : ByteArray := ⟨#[97, 108, 108, 111, 119]⟩
def wdRole : ByteArray := ⟨#[114, 111, 108, 101]⟩
def wdAct : ByteArray := ⟨#[97, 99, 116]⟩
def wdOn : ByteArray := ⟨#[111, 110]⟩
def wdAt : ByteArray := ⟨#[97, 116]⟩
def wdNeed : ByteArray := ⟨#[110, 101, 101, 100]⟩
def actW : List ByteArray := [⟨#[112, 111, 108, 105, 99, 121]⟩, ⟨#[101, 110, 114, 111, 108, 108]⟩, ⟨#[100, 105, 115, 109, 105, 115, 115]⟩, ⟨#[99, 114, 101, 97, 116, 101]⟩, ⟨#[114, 111, 116, 97, 116, 101]⟩, ⟨#[117, 115, 101]⟩, ⟨#[114, 101, 118, 111, 107, 101]⟩, ⟨#[97, 112, 112, 114, 111, 118, 101]⟩, ⟨#[101, 115, 99, 114, 111, 119]⟩, ⟨#[114, 101, 99, 111, 118, 101, 114]⟩, ⟨#[98, 97, 99, 107, 117, 112]⟩, ⟨#[114, 101, 115, 116, 111, 114, 101]⟩]
def partB (x : ByteArray) : Bool := decide (x = wdRole) || decide (x = wdAct) || decide (x = wdOn) || decide (x = wdAt) || decide (x = wdNeed)
def secB (nm : ByteArray) : List ByteArray → Bool
  | [] => false
  | x :: _ => decide (x = nm)
/-- how many words come before the next part -/
def upN (ws : List ByteArray) : Nat := (ws.takeWhile fun x => !partB x).length
def secL (nm : ByteArray) (ws : List ByteArray) : List ByteArray := if secB nm ws then ws.tail.take (upN ws.tail) else []
def secR (nm : ByteArray) (ws : List ByteArray) : List ByteArray := if secB nm ws then ws.tail.drop (upN ws.tail) else ws
theorem upN_le (ws : List ByteArray) : upN ws ≤ ws.length := by
  unfold upN
  exact (List.takeWhile_prefix _).length_le
theorem upN_of {ws : List ByteArray} {k : Nat} (hk : k ≤ ws.length) (hp : ∀ x ∈ ws.take k, partB x = false) (he : ∀ x, ws[k]? = some x → partB x = true) : upN ws = k := by
  induction ws generalizing k with
  | nil => simp at hk; subst hk; rfl
  | cons y ws ih =>
    unfold upN at ih ⊢
    cases k with
    | zero =>
      have := he y rfl
      simp [this]
    | succ k =>
      have h1 := hp y (by simp)
      have h2 := ih (k := k) (by simpa using hk) (fun x hx => hp x (by simp [hx])) (fun x hx => he x (by simpa using hx))
      simp [h1, h2]
def idxN (x : ByteArray) : List ByteArray → Option Nat
  | [] => none
  | y :: r => if y = x then some 0 else (idxN x r).map (· + 1)
theorem idxN_none {x : ByteArray} : ∀ {l : List ByteArray}, idxN x l = none ↔ x ∉ l
  | [] => by simp [idxN]
  | y :: r => by
    unfold idxN
    by_cases h : y = x
    · subst h; simp
    · rw [if_neg h]
      simp only [Option.map_eq_none_iff, idxN_none (l := r), List.mem_cons, not_or]
      exact ⟨fun k => ⟨fun e => h e.symm, k⟩, fun k => k.2⟩
theorem idxN_some {x : ByteArray} : ∀ {l : List ByteArray} {k : Nat}, l[k]? = some x → x ∉ l.take k → idxN x l = some k
  | [], k, h, _ => by simp at h
  | y :: r, 0, h, _ => by
    simp at h
    unfold idxN; rw [if_pos h]
  | y :: r, k + 1, h, hn => by
    rw [List.getElem?_cons_succ] at h
    rw [List.take_succ_cons, List.mem_cons, not_or] at hn
    unfold idxN
    rw [if_neg (fun e => hn.1 e.symm), idxN_some h hn.2]
    rfl
def idxI (x : ByteArray) (l : List ByteArray) : Int := match idxN x l with | some k => k | none => -1
theorem idxN_lt {x : ByteArray} : ∀ {l : List ByteArray} {k : Nat}, idxN x l = some k → k < l.length
  | [], k, h => by simp [idxN] at h
  | y :: r, k, h => by
    unfold idxN at h
    by_cases e : y = x
    · rw [if_pos e] at h
      injection h with h
      subst h
      simp
    · rw [if_neg e] at h
      cases hr : idxN x r with
      | none => rw [hr] at h; cases h
      | some j =>
        rw [hr] at h
        have := idxN_lt hr
        simp at h
        simp; omega
theorem idxI_b (x : ByteArray) (l : List ByteArray) : -1 ≤ idxI x l ∧ idxI x l < l.length := by
  unfold idxI
  cases h : idxN x l with
  | none => exact ⟨by decide, by show (-1 : Int) < _; omega⟩
  | some k =>
    have := idxN_lt h
    exact ⟨by show (-1 : Int) ≤ (k : Int); omega, by show (k : Int) < _; omega⟩
/-- the act of a word, from 1 -/
def actI (x : ByteArray) : Int := idxI x actW + 1
def actsB (l : List ByteArray) : Bool := l.all fun x => decide (actI x ≠ 0)
theorem actI_b (x : ByteArray) : 0 ≤ actI x ∧ actI x ≤ 12 := by
  have h := idxI_b x actW
  have hl : actW.length = 12 := rfl
  unfold actI
  omega
/-- the same by a list with an empty word ahead -/
theorem idxI_cons (x : ByteArray) : idxI x (⟨#[]⟩ :: actW) = if x = ⟨#[]⟩ then 0 else if actI x = 0 then -1 else actI x := by
  by_cases h : x = ⟨#[]⟩
  · rw [if_pos h]
    unfold idxI idxN
    rw [if_pos h.symm]
    rfl
  · rw [if_neg h]
    unfold actI idxI
    rw [idxN, if_neg (fun e => h e.symm)]
    cases hi : idxN x actW with
    | none => rfl
    | some k =>
      show ((k + 1 : Nat) : Int) = if ((k : Int) + 1 = 0) then -1 else (k : Int) + 1
      rw [if_neg (by omega)]
      omega
theorem actI_none : actI ⟨#[]⟩ = 0 := by decide
theorem ref_act (x : ByteArray) : decide (idxI x (⟨#[]⟩ :: actW) < 1) = decide (actI x = 0) ∧ (actI x ≠ 0 → idxI x (⟨#[]⟩ :: actW) = actI x) := by
  have hb := actI_b x
  rw [idxI_cons]
  by_cases h : x = ⟨#[]⟩
  · subst h
    rw [actI_none]
    exact ⟨rfl, fun h => absurd rfl h⟩
  · rw [if_neg h]
    by_cases h0 : actI x = 0
    · rw [if_pos h0, h0]
      exact ⟨rfl, fun h => absurd rfl h⟩
    · rw [if_neg h0]
      exact ⟨by simp [h0]; omega, fun _ => rfl⟩

/-! ### a rule of words -/
def cutA (x : ByteArray) : List UInt8 × List UInt8 × Bool := Lib.cut x.data.toList [45]
def headB (ws : List ByteArray) : Bool := secB wdDeny ws || secB wdAllow ws
def hrB (x : ByteArray) : Bool := (cutA x).2.2 && numB (cutA x).1 && numB (cutA x).2.1
def atB : List ByteArray → Bool
  | [x] => hrB x
  | _ => false
def needB : List ByteArray → Bool
  | [x, _] => numB x.data.toList
  | _ => false
def frV : List ByteArray → Int
  | [x] => numV (cutA x).1
  | _ => 0
def toV : List ByteArray → Int
  | [x] => numV (cutA x).2.1
  | _ => 0
def ndV : List ByteArray → Int
  | [x, _] => numV x.data.toList
  | _ => 0
def ofV : List ByteArray → ByteArray
  | [_, y] => y
  | _ => ⟨#[]⟩
structure SecsL where
  roles : List ByteArray
  acts : List ByteArray
  labels : List ByteArray
  at_ : List ByteArray
  need : List ByteArray
  rest : List ByteArray
def wd1 (ws : List ByteArray) : List ByteArray := ws.tail
def wd2 (ws : List ByteArray) : List ByteArray := secR wdRole (wd1 ws)
def wd3 (ws : List ByteArray) : List ByteArray := secR wdAct (wd2 ws)
def wd4 (ws : List ByteArray) : List ByteArray := secR wdOn (wd3 ws)
def wd5 (ws : List ByteArray) : List ByteArray := secR wdAt (wd4 ws)
def wd6 (ws : List ByteArray) : List ByteArray := secR wdNeed (wd5 ws)
def rolesL (ws : List ByteArray) : List ByteArray := secL wdRole (wd1 ws)
def actsL (ws : List ByteArray) : List ByteArray := secL wdAct (wd2 ws)
def labsL (ws : List ByteArray) : List ByteArray := secL wdOn (wd3 ws)
def atL (ws : List ByteArray) : List ByteArray := secL wdAt (wd4 ws)
def needL (ws : List ByteArray) : List ByteArray := secL wdNeed (wd5 ws)
/-- the first reader's word on the parts -/
def okR (ws : List ByteArray) : Bool :=
  headB ws && (!secB wdRole (wd1 ws) || !(rolesL ws).isEmpty) && (!secB wdAct (wd2 ws) || (actsB (actsL ws) && !(actsL ws).isEmpty)) &&
  (!secB wdOn (wd3 ws) || !(labsL ws).isEmpty) && (!secB wdAt (wd4 ws) || atB (atL ws)) && (!secB wdNeed (wd5 ws) || needB (needL ws)) && (wd6 ws).isEmpty
def ruleOf (ws : List ByteArray) : RuleR :=
  { deny := secB wdDeny ws, ra := none, rn := (rolesL ws).length, rc := 0, roles := rolesL ws, aa := none, an := (actsL ws).length, ac := 0, acts := (actsL ws).map actI,
    la := none, ln := (labsL ws).length, lc := 0, labels := labsL ws, fr := frV (atL ws), tt := toV (atL ws), nd := ndV (needL ws), ow := ofV (needL ws) }
/-- the second reader's: each part that is there has a word -/
def okF (ws : List ByteArray) : Bool :=
  headB ws && (!secB wdRole (wd1 ws) || !(rolesL ws).isEmpty) && (!secB wdAct (wd2 ws) || !(actsL ws).isEmpty) && (!secB wdOn (wd3 ws) || !(labsL ws).isEmpty) &&
  (!secB wdAt (wd4 ws) || !(atL ws).isEmpty) && (!secB wdNeed (wd5 ws) || !(needL ws).isEmpty) && (wd6 ws).isEmpty && actsB (actsL ws) && ((atL ws).isEmpty || atB (atL ws)) && ((needL ws).isEmpty || needB (needL ws))
theorem secL_off {nm : ByteArray} {ws : List ByteArray} (h : secB nm ws = false) : secL nm ws = [] := by
  unfold secL; rw [h]; rfl
theorem okF_eq (ws : List ByteArray) : okF ws = okR ws := by
  unfold okF okR
  have a1 : secB wdAct (wd2 ws) = false → actsL ws = [] := secL_off
  have a2 : secB wdAt (wd4 ws) = false → atL ws = [] := secL_off
  have a3 : secB wdNeed (wd5 ws) = false → needL ws = [] := secL_off
  have e1 : actsB [] = true := rfl
  have e2 : ([] : List ByteArray).isEmpty = true := rfl
  have at0 : (atL ws).isEmpty = true → atB (atL ws) = false := by
    intro h
    rw [List.isEmpty_iff.1 h]; rfl
  have nd0 : (needL ws).isEmpty = true → needB (needL ws) = false := by
    intro h
    rw [List.isEmpty_iff.1 h]; rfl
  cases h1 : secB wdAct (wd2 ws) <;> cases h2 : secB wdAt (wd4 ws) <;> cases h3 : secB wdNeed (wd5 ws)
  all_goals
    (try rw [a1 h1])
    (try rw [a2 h2])
    (try rw [a3 h3])
    generalize headB ws = b0
    generalize (!secB wdRole (wd1 ws) || !(rolesL ws).isEmpty) = b1
    generalize (!secB wdOn (wd3 ws) || !(labsL ws).isEmpty) = b2
    generalize (wd6 ws).isEmpty = b3
  all_goals (revert at0 nd0; (try simp only [e1, e2]); generalize (atL ws).isEmpty = c1; generalize (needL ws).isEmpty = c2; generalize (actsL ws).isEmpty = c3; generalize atB (atL ws) = d1; generalize needB (needL ws) = d2; generalize actsB (actsL ws) = d3; revert b0 b1 b2 b3 c1 c2 c3 d1 d2 d3; decide)

/-! ### the lines of a text -/
def wordsOf (l : List UInt8) : List ByteArray := (wordsTL (Lib.cut l [35]).1).map strOf
def linesOf (s : List UInt8) : List (List ByteArray) := (splitR 10 s).map wordsOf
def goodB (ws : List ByteArray) : Bool := ws.isEmpty || okR ws
def rulesOf (ls : List (List ByteArray)) : List RuleR := (ls.filter fun ws => !ws.isEmpty).map ruleOf
/-- the first line that cannot be read -/
def badAt : List (List ByteArray) → Option Nat
  | [] => none
  | ws :: r => if goodB ws then (badAt r).map (· + 1) else some 0
theorem badAt_none {ls : List (List ByteArray)} (h : ∀ ws ∈ ls, goodB ws = true) : badAt ls = none := by
  induction ls with
  | nil => rfl
  | cons x ls ih => unfold badAt; rw [if_pos (h x (by simp)), ih fun y hy => h y (List.mem_cons_of_mem _ hy)]; rfl
theorem badAt_some {ls : List (List ByteArray)} {k : Nat} {ws : List ByteArray} (hk : ls[k]? = some ws) (hp : ∀ x ∈ ls.take k, goodB x = true) (hb : goodB ws = false) : badAt ls = some k := by
  induction ls generalizing k with
  | nil => simp at hk
  | cons x ls ih =>
    cases k with
    | zero =>
      simp at hk
      subst hk
      unfold badAt
      rw [if_neg (by rw [hb]; simp)]
    | succ k =>
      rw [List.getElem?_cons_succ] at hk
      rw [List.take_succ_cons] at hp
      unfold badAt
      rw [if_pos (hp x (by simp)), ih hk fun y hy => hp y (List.mem_cons_of_mem _ hy)]
      rfl
theorem rules_step {ls : List (List ByteArray)} {k : Nat} {ws : List ByteArray} (hk : ls[k]? = some ws) : rulesOf (ls.take (k + 1)) = rulesOf (ls.take k) ++ (if ws.isEmpty then [] else [ruleOf ws]) := by
  unfold rulesOf
  rw [List.take_add_one, hk, List.filter_append, List.map_append]
  congr 1
  cases h : ws.isEmpty with
  | true => simp [List.filter, h]
  | false => simp [List.filter, h]
end

section
open Go Go.RowKit

/-- slices of t's make: elements of type e, of z cells and y octets -/
structure ElemT (P : Program) (t e : TypeId) (z y : Nat) : Prop where
  hu : P.underlying t = some (.slice e)
  info : ∃ i0 z0, P.info? e = some i0 ∧ i0.zero = some z0 ∧ i0.size = z ∧ i0.bytes = y ∧ z0.cells.size = z
  pos : 0 < z

theorem ok_blockA {P : Program} {f : Sem Value} {w w' w2 : World} {v v' : Value} {b : Option Nat} (h1 : f.run P w = .ok v w2) (h2 : f.run P w = .ok v' w') (h3 : v.ownBlock = b) : v'.ownBlock = b := by
  rw [h1] at h2
  injection h2 with h4 h5
  rw [← h4]; exact h3



section
variable {P : Program} {t e : TypeId} {z y : Nat}
theorem append_any (T : ElemT P t e z y) (ty : TypeId) (w : World) (B : Nat) {v : Value} {n m c : Nat} {xs news : List Value} {ad : Addr} (hown : w.ownsRow B e z v n xs) (hl : news.length = m * z) (hc : ∀ j u, news[j]? = some u → w.cell? (ad.add j) = some u) (h1 : ∀ u ∈ news, u.oneCell' = true)
    (h63 : n + m ≤ 140737488355328) (hb : (n + m) * y ≤ 140737488355328) (hbase : B ≤ w.heap.size) :
    ∃ v' w', (Builtin.append_ #[t, t] ty #[v, .slice (some ad) m c]).run P w = .ok v' w' ∧ w'.ownsRow B e z v' (n + m) (xs ++ news) ∧ w.grownBy w' v.ownBlock ∧
      (v'.ownBlock = v.ownBlock ∨ v'.ownBlock = some w.heap.size) := by
  obtain ⟨i0, z0, hi, hz, hsz, hb1, hzs⟩ := T.info
  obtain ⟨v', w', hr, h1', h2, h3⟩ := run_append_own (P := P) w B t ty e i0 z0 z y T.hu hi hz hsz hb1 hzs T.pos v n xs hown ad m c news hl hc h1 (by unfold maxLen; omega) hb hbase
  refine ⟨v', w', hr, h1', h2, ?_⟩
  rcases hown.2 with ⟨rfl, rfl⟩ | ⟨g, cap, cur, rfl, hbg, hg, hnc, hcm, hcs, htake⟩
  · by_cases hm0 : m = 0
    · left
      rw [h3.2 ⟨rfl, hm0⟩]
    · right
      have hl' : news.length = m * i0.size := by rw [hsz]; exact hl
      have hr2 := run_append_nil (P := P) w t ty e i0 z0 T.hu hi hz ad m c news hl' hc (by omega) (by omega) (by rw [hb1]; rw [Nat.zero_add] at hb; omega)
      exact ok_blockA hr2 hr rfl
  · by_cases hroom : n + m ≤ cap
    · left
      obtain ⟨w2, hr2, _⟩ := run_append_fits (P := P) w B t ty e i0 z T.hu hi hsz g n cap xs hown ad m c news hl hc h1 hroom
      exact ok_blockA hr2 hr rfl
    · right
      have hl' : news.length = m * i0.size := by rw [hsz]; exact hl
      have hr2 := run_append_grow (P := P) w t ty e i0 z0 T.hu hi hz ⟨g, 0, none⟩ n cap xs (by rw [hsz]; exact hown.1) (hown.cells (g := g) rfl) ad m c news hl' hc (by omega) (by omega) (growslice_fits (by omega) (by rw [hb1]; omega))
      exact ok_blockA hr2 hr rfl
theorem append_none (T : ElemT P t e z y) (ty : TypeId) (w : World) (B : Nat) {v : Value} {n : Nat} {xs : List Value} (hown : w.ownsRow B e z v n xs) :
    (Builtin.append_ #[t, t] ty #[v, .slice none 0 0]).run P w = .ok v w := by
  obtain ⟨i0, z0, hi, hz, hsz, hb1, hzs⟩ := T.info
  exact run_append_owned_none (P := P) (w := w) B t ty e i0 z T.hu hi v n xs hown
/-- append of what stands behind any slice, a nil one too -/
theorem append_cells (T : ElemT P t e z y) (ty : TypeId) (w : World) (B : Nat) {v : Value} {n m c : Nat} {xs news : List Value} {ad : Option Addr} (hown : w.ownsRow B e z v n xs) (hl : news.length = m * z) (hmc : m ≤ c) (h0 : ad = none → c = 0) (hc : Cells w ad news) (h1 : ∀ u ∈ news, u.oneCell' = true)
    (h63 : n + m ≤ 140737488355328) (hb : (n + m) * y ≤ 140737488355328) (hbase : B ≤ w.heap.size) :
    ∃ v' w', (Builtin.append_ #[t, t] ty #[v, .slice ad m c]).run P w = .ok v' w' ∧ w'.ownsRow B e z v' (n + m) (xs ++ news) ∧ w.grownBy w' v.ownBlock ∧
      (v'.ownBlock = v.ownBlock ∨ v'.ownBlock = some w.heap.size) := by
  cases ad with
  | some ad => exact append_any T ty w B hown hl (news_cells hc) h1 h63 hb hbase
  | none =>
    obtain rfl : c = 0 := h0 rfl
    obtain rfl : m = 0 := by omega
    have hn : news = [] := by
      have : news.length = 0 := by rw [hl]; omega
      exact List.length_eq_zero_iff.1 this
    subst hn
    refine ⟨v, w, append_none T ty w B hown, by simpa using hown, ⟨rfl, rfl, rfl, Nat.le_refl _, fun _ _ _ => rfl⟩, .inl rfl⟩
variable {ops : Array Oper} {rest : List Oper} {o : Oper} {a : Act} {w : World} {Q : Exit → Act → World → Prop}
theorem wpl_appendA (T : ElemT P t e z y) (hgd : o.guard = none) (s x : Operand) (ho : o.op = .call { callee := .builtin .append, args := #[s, x], argTypes := #[t, t] }) (B : Nat) {v : Value} {n m c : Nat} {xs news : List Value} {ad : Option Addr}
    (hs : a.eval s = v) (hx : a.eval x = .slice ad m c) (hown : w.ownsRow B e z v n xs) (hl : news.length = m * z) (hmc : m ≤ c) (h0 : ad = none → c = 0) (hc : Cells w ad news) (h1 : ∀ u ∈ news, u.oneCell' = true)
    (h63 : n + m ≤ 140737488355328) (hb : (n + m) * y ≤ 140737488355328) (hbase : B ≤ w.heap.size)
    (h : ∀ v' w', w'.ownsRow B e z v' (n + m) (xs ++ news) → w.grownBy w' v.ownBlock → (v'.ownBlock = v.ownBlock ∨ v'.ownBlock = some w.heap.size) → wpList P ops Q rest (a.put o.dst v') w') : wpList P ops Q (o :: rest) a w := by
  obtain ⟨v', w', hr, h1', h2, h3⟩ := append_cells T o.type w B hown hl hmc h0 hc h1 h63 hb hbase
  exact wpList_plain hgd fun K hK => Lib.wp_append_run w s x _ _ ho v _ hs hx v' w' hr (hK _ _ (h v' w' h1' h2 h3))
end

section
variable {w w' : World} {B B2 : Nat} {e e2 : TypeId} {z z2 n n2 : Nat} {v v' v2 : Value} {xs xs2 : List Value} {r : Option Nat}
/-- a row stays where another block grows -/
theorem own_beside (h : w.ownsRow B e z v n xs) (k : w.grownBy w' r) (hne : ∀ g, v.ownBlock = some g → r ≠ some g) : w'.ownsRow B e z v n xs := by
  refine h.kept k ?_
  cases hv : v.ownBlock with
  | none => exact .inl rfl
  | some g => exact .inr (fun e => hne g hv e.symm)
theorem own_ltA (h : w.ownsRow B e z v n xs) {g : Nat} (hg : v.ownBlock = some g) : B ≤ g ∧ g < w.heap.size := h.lt g hg
/-- two rows in two blocks -/
def Apart (v v2 : Value) : Prop := ∀ g, v.ownBlock = some g → v2.ownBlock ≠ some g
theorem Apart.symm (h : Apart v v2) : Apart v2 v := fun g h1 h2 => h g h2 h1
theorem Apart.nil (c : Nat) : Apart (.slice none 0 c) v2 := fun g h => by cases h
theorem Apart.of_ty (h : w.ownsRow B e z v n xs) (h2 : w.ownsRow B2 e2 z2 v2 n2 xs2) (hne : e ≠ e2) : Apart v v2 := by
  intro g h3 h4
  rcases h.2 with ⟨rfl, _⟩ | ⟨g1, c1, cur1, rfl, _, hg1, _⟩
  · cases h3
  rcases h2.2 with ⟨rfl, _⟩ | ⟨g2, c2, cur2, rfl, _, hg2, _⟩
  · cases h4
  simp only [Value.ownBlock, Option.some.injEq] at h3 h4
  subst h3
  subst h4
  rw [hg1] at hg2
  simp only [Option.some.injEq, Obj.cells.injEq] at hg2
  exact hne hg2.2.1
/-- behind an append the row lies apart of another one still -/
theorem Apart.append (h : Apart v v2) (h2 : w.ownsRow B2 e2 z2 v2 n2 xs2) (hb : v'.ownBlock = v.ownBlock ∨ v'.ownBlock = some w.heap.size) : Apart v' v2 := by
  intro g h3 h4
  rcases hb with hb | hb
  · exact h g (hb ▸ h3) h4
  · rw [hb] at h3
    injection h3 with h3
    have := (h2.lt g h4).2
    omega
theorem Apart.keep (h : Apart v v2) (h2 : w.ownsRow B2 e2 z2 v2 n2 xs2) (k : w.grownBy w' v.ownBlock) : w'.ownsRow B2 e2 z2 v2 n2 xs2 :=
  own_beside h2 k fun g h3 h4 => h g h4 h3
theorem own_blk_ne {g : Nat} {vs : List Value} {T : TypeId} (h : w.ownsRow B e z v n xs) (hb : Blk w g vs T) (hne : e ≠ T) : v.ownBlock ≠ some g := by
  intro hg
  rcases h.2 with ⟨rfl, _⟩ | ⟨g1, c1, cur1, rfl, _, hg1, _⟩
  · cases hg
  simp only [Value.ownBlock, Option.some.injEq] at hg
  subst hg
  unfold Blk at hb
  rw [hg1] at hb
  simp only [Option.some.injEq, Obj.cells.injEq] at hb
  exact hne hb.2.1
/-- a block of another type stays where a row grows -/
theorem Blk.besides {g : Nat} {vs : List Value} {T : TypeId} (hb : Blk w g vs T) (h : w.ownsRow B e z v n xs) (k : w.grownBy w' v.ownBlock) (hne : e ≠ T) : Blk w' g vs T := hb.grown k (fun e2 => own_blk_ne h hb hne e2.symm)
theorem upd_grownA {g : Nat} (u : Upd w g w') : w.grownBy w' (some g) := ⟨u.os, u.tape, u.output, by rw [u.size]; exact Nat.le_refl _, fun i _ hne => u.block i (fun e => hne (by rw [e]))⟩
theorem own_updA {g : Nat} {vs : List Value} {T : TypeId} (h : w.ownsRow B e z v n xs) (u : Upd w g w') (hb : Blk w g vs T) (hne : e ≠ T) : w'.ownsRow B e z v n xs :=
  own_beside h (upd_grownA u) fun g' hg he => own_blk_ne h hb hne (by cases he; exact hg)
/-- what the row's cells are -/
theorem own_cellsA (h : w.ownsRow B e z v n xs) : ∃ ad c, v = .slice ad n c ∧ n ≤ c ∧ (ad = none → c = 0) ∧ Cells w ad xs := by
  have hl := h.1
  rcases h.2 with ⟨rfl, rfl⟩ | ⟨g, cap, cur, rfl, _, hg, hnc, _⟩
  · have : xs = [] := List.length_eq_zero_iff.1 (by rw [hl]; omega)
    subst this
    exact ⟨none, 0, rfl, Nat.le_refl _, fun _ => rfl, .inl rfl⟩
  · refine ⟨some ⟨g, 0, none⟩, cap, rfl, hnc, (fun h => by cases h), Or.inr ⟨g, 0, rfl, fun i u hu => ?_⟩⟩
    have := h.cells (g := g) rfl i u hu
    have hadd : (⟨g, 0, none⟩ : Addr).add i = ⟨g, i, none⟩ := by unfold Addr.add; split <;> simp_all
    rw [hadd] at this
    simpa using this
end
end
end Go.Proofs.YthfddfgncolnbaaGreatDoor
