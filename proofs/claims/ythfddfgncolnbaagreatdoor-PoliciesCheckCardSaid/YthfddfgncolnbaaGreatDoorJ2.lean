/- Contracts and laws that the claim's row leans on (24 texts, joined): strings.ContainsRune of the alphabet of names, whatever the rune; conditions: the rune is none beyond the last. The rule for regions whose order is drawn, with variables that the region itself makes; no condition. Worlds in which one block has turned; no condition. Moves for regions whose order is drawn, where late operations need not keep what the early ones read; no condition. strings.ContainsRune of the alphabet at runes of more than one octet; the predicate of names; strings.IndexFunc, ContainsFunc with it; conditions: the rune is none beyond the last. The reference's IsName; conditions: the string's size. The reference's IsName, whole; conditions: the string's size. Hex, and that the first chapter is there; condition: the slice's size. Patterns: isPattern of the law and of the program, Fits of both; conditions: the string's size. Small functions of the policy: outside, isAct, the predicates handed to the library, patterns of the reference; conditions: the strings' sizes. Rules as values, and what is said of them, in plain Lean; no condition. keyref1.RuleError; conditions: the rule's memory. Whether a list of strings rises, in both packages; conditions: the length. Asks as values, and CheckAsk of both packages; conditions: the ask's memory. The reference's CheckAsk; conditions: the ask's memory. Whether a rule meets an ask: the closures, the hours; conditions: the ask's memory. Whether a rule meets an ask, in both packages; conditions: the memory of both, and that both are right. Whether a rule meets an ask, by the reference; conditions: the memory of both, and that both are right. policy.ruleFault; conditions: the rule's memory. Check of a policy, in both packages; conditions: the policy's memory. The reference's CheckPolicy; conditions: the policy's memory. Steps of a walk behind a guard; no condition. Findings in plain Lean: what Explain writes and ParseFinding reads; no condition. The words of a line, in two ways: cut at blanks behind a replacement, and by strings.FieldsFunc; plain. -/
import Derived.Test.YthfddfgncolnbaaGreatDoorJ1
import Derived.Laws.Runes
import Derived.Laws.RangeAny
import Derived.Laws.RangeString
import Derived.Lib.Bytealg
import Derived.Lib.OthersKept
import Derived.Lib.TrimU
import Derived.Lib.Small
import Derived.Deep.LoopGhost
import Derived.Deep.DeepCutAuto
import Derived.WalkMore
import Derived.Laws.BytesArg
import Derived.Laws.OwnMore
import Derived.Test.YthfddfgncolnbaaGreatDoorB3
import Derived.Laws.StructEq
import Derived.Stop.BytesEq
import Derived.Lib.AtoiAll
import Derived.Lib.ItoaNum
import Derived.Lib.IndexMore
import Derived.Lib.Strings
import Derived.Lib.SplitLaws
import Derived.Lib.ReplaceLaws
import Derived.Lib.FieldsP
import Derived.Lib.TrimUEq
import Derived.Lib.SpaceUEq
import Derived.Lib.RuneCount
namespace Go.Proofs.YthfddfgncolnbaaGreatDoor
section
open Go Go.RowKit

def alpha : ByteArray := ⟨#[97, 98, 99, 100, 101, 102, 103, 104, 105, 106, 107, 108, 109, 110, 111, 112, 113, 114, 115, 116, 117, 118, 119, 120, 121, 122, 48, 49, 50, 51, 52, 53, 54, 55, 56, 57, 45, 46, 95]⟩
theorem alpha_size : alpha.size = 39 := rfl
theorem alpha_ascii : ∀ b ∈ alpha.data.toList, b.toNat < 128 := by decide
theorem alpha_any : ∀ c : Fin 256, alpha.data.toList.any (· == UInt8.ofNat c.val) = nameOct (UInt8.ofNat c.val) := by decide +kernel
/-- a rune of the alphabet -/
def runeOk (r : Nat) : Bool := decide (r < 128) && nameOct (UInt8.ofNat r)

set_option maxRecDepth 100000 in
set_option maxHeartbeats 1000000 in
theorem indexByte_c (s : ByteArray) (c : Int) (w : World) :
    Calls Tryz.prog 135 #[.string s, .int .u8 c] w fun e w' => e = .returned (.int .i64 (firstIdx s c.toNat.toUInt8)) ∧ w = w' := by
  go_enter Tryz.func135, Tryz.ntmps135
  go_wp2
  rw [run_callFunc_extern Tryz.func125 (by kernel_rfl) (by kernel_rfl) (by kernel_rfl) (e := Extern.BytealgIndexByte.indexByte) (by kernel_rfl), run_indexByte_string]
  simp only [Result.andThen]
  rw [Oper.upon_value]
  go_wp2
  go_ret
  exact ⟨rfl, rfl⟩

set_option maxRecDepth 100000 in
set_option maxHeartbeats 1000000 in
theorem indexRune_low (r : Nat) (w : World) (hr : r < 128) :
    Calls Tryz.prog 116 #[.string alpha, .int .i32 (r : Int)] w fun e w' => e = .returned (.int .i64 (firstIdx alpha (UInt8.ofNat r))) ∧ w = w' := by
  have h := hid (fun w' => indexByte_c alpha (r : Int) w')
  have g1 : decide ((0 : Int) ≤ (r : Int)) = true := decide_eq_true (by omega)
  have g2 : decide ((r : Int) < 128) = true := decide_eq_true (by omega)
  have g3 : decide (r < 128) = true := decide_eq_true hr
  have g4 : IntKind.u8.wrap (r : Int) = r := IntWalk.u8_in _ (by omega)
  go_enter Tryz.func116, Tryz.ntmps116
  go_wp2_with (first | (go_at_call 135; refine (h.out _).mono ?_; rintro e w' ⟨rfl, rfl⟩))
  go_ret
  exact ⟨rfl, rfl⟩

set_option maxRecDepth 100000 in
set_option maxHeartbeats 1000000 in
theorem indexRune_err (w : World) :
    Calls Tryz.prog 116 #[.string alpha, .int .i32 65533] w fun e w' => e = .returned (.int .i64 (-1)) ∧ Ext w w' := by
  obtain ⟨s, hs⟩ : ∃ s, alpha = s := ⟨_, rfl⟩
  have hsz : s.size = 39 := by rw [← hs]; rfl
  have hasc : ∀ b ∈ s.data.toList, b.toNat < 128 := by rw [← hs]; exact alpha_ascii
  rw [hs]
  have HSZ := hid hsz
  have HASC := hid hasc
  clear hs hsz hasc
  go_enter Tryz.func116, Tryz.ntmps116
  go_wp2
  go_loopg [] 39 (fun gf wx => ∃ pos : Nat, wx.heap[w.heap.size]? = some (.stringIter s pos) ∧ Below w.heap.size w wx ∧ 39 ≤ pos + gf)
  case atStart => exact ⟨0, World.iter_heap w s 0, (Below.refl _ w).alloc (Nat.le_refl _) _, by omega⟩
  case round =>
    obtain ⟨pos, hit, hbw, hfu⟩ := hrel
    by_cases hps : pos < s.size
    · obtain ⟨g', rfl⟩ : ∃ g', gk = g' + 1 := ⟨gk - 1, by have := HSZ.out; omega⟩
      have hnx : ∀ ty, (Instr.next (.pointer (some ⟨w.heap.size, 0, none⟩)) true ty).run Tryz.prog wr = _ := fun ty => Lib.run_next_any_at wr w.heap.size s pos ty hit hps
      have hb : (s[pos]'hps).toNat < 128 := HASC.out _ (Array.getElem_mem_toList (xs := s.data) hps)
      have hdec := decode_ascii s pos hps hb
      rw [hdec] at hnx
      simp only at hnx
      obtain ⟨R, hR⟩ : ∃ R, (s[pos]'hps).toNat = R := ⟨_, rfl⟩
      rw [hR] at hnx hb
      have hit2 := Lib.iterAt_heap wr w.heap.size s pos (pos + 1) hit
      have hbw2 := Lib.below_iterAt hbw (k := w.heap.size) (Nat.le_refl _) s (pos + 1)
      have HIT := hid hit2
      have HBW := hid hbw2
      have g1 : ((R : Int) == 65533) = false := by simp; omega
      have g2 : (R == 65533) = false := by simp; omega
      have hfu2 : 39 ≤ (pos + 1) + g' := by omega
      clear hit2 hbw2 hit hbw hdec hR
      go_wp2
      go_roundg g'
      case measure => omega
      case rel => exact ⟨pos + 1, HIT.out, HBW.out, hfu2⟩
    · have hnx : ∀ ty, (Instr.next (.pointer (some ⟨w.heap.size, 0, none⟩)) true ty).run Tryz.prog wr = _ := fun ty => Lib.run_next_end_at wr w.heap.size s pos ty hit hps
      have HBW := hid hbw
      clear hit hbw
      go_wp2
      go_ret
      exact ⟨rfl, HBW.out⟩

set_option maxRecDepth 100000 in
set_option maxHeartbeats 1000000 in
theorem indexRune_bad (r : Nat) (w : World) (h1 : 55296 ≤ r) (h2 : r ≤ 57343) :
    Calls Tryz.prog 116 #[.string alpha, .int .i32 (r : Int)] w fun e w' => e = .returned (.int .i64 (-1)) ∧ w = w' := by
  have g1 : decide ((0 : Int) ≤ (r : Int)) = true := decide_eq_true (by omega)
  have g2 : decide ((r : Int) < 128) = false := decide_eq_false (by omega)
  have g3 : decide (r < 128) = false := decide_eq_false (by omega)
  have g4 : ((r : Int) == 65533) = false := by simp; omega
  have g5 : (r == 65533) = false := by simp; omega
  have g6 : decide ((r : Int) < 55296) = false := decide_eq_false (by omega)
  have g7 : decide (r < 55296) = false := decide_eq_false (by omega)
  have g8 : decide ((57343 : Int) < (r : Int)) = false := decide_eq_false (by omega)
  have g9 : decide (57343 < r) = false := decide_eq_false (by omega)
  go_enter Tryz.func116, Tryz.ntmps116
  go_wp2
  go_ret
  exact ⟨rfl, rfl⟩
end

section
open Go Go.RowKit

section
variable {P : Program} {ops : Array Oper} {Q : Exit → Act → World → Prop} {C : World → Prop}

def uponE (P : Program) (C : World → Prop) (w : World) (v : Value) : Result Next → Prop
  | .ok (.value u) w' => w' = w ∧ u = v
  | .ok .skip w' => w' = w ∧ v = undef
  | .ok (.enter f args) w' => w' = w ∧ Calls P f args w (fun e w'' => e = .returned v ∧ C w'' ∧ Ext w w'')
  | _ => False

/-- in every world of the class the operation yields v, and nothing that was there turns -/
def yieldsE (P : Program) (C : World → Prop) (o : Oper) (a : Act) (v : Value) : Prop := ∀ w, C w → uponE P C w v ((execOp a.eval o).run P w)

def isAl (al : List (Nat × List Value × TypeId)) (k : Nat) : Bool := al.any fun x => x.1 == k

def wpQE (P : Program) (ops : Array Oper) (C : World → Prop) (al : List (Nat × List Value × TypeId)) (R : Act → Prop) : List Oper → Nat → Act → Prop
  | [], _, a => R a
  | o :: rest, k, a =>
    if isAl al k then wpQE P ops C al R rest (k + 1) (a.put o.dst undef)
    else if Region.wanted o (yielded ops a.tmps) then ∃ v, yieldsE P C o a v ∧ wpQE P ops C al R rest (k + 1) (a.put o.dst v)
    else wpQE P ops C al R rest (k + 1) (a.put o.dst undef)

theorem wpQE_nil {al : List (Nat × List Value × TypeId)} {R : Act → Prop} {k : Nat} {a : Act} (h : R a) : wpQE P ops C al R [] k a := h
theorem wpQE_al {al : List (Nat × List Value × TypeId)} {R : Act → Prop} {k : Nat} {a : Act} {o : Oper} {rest : List Oper} (hk : isAl al k = true) (h : wpQE P ops C al R rest (k + 1) (a.put o.dst undef)) :
    wpQE P ops C al R (o :: rest) k a := by simp only [wpQE, hk, if_true]; exact h
theorem wpQE_do {al : List (Nat × List Value × TypeId)} {R : Act → Prop} {k : Nat} {a : Act} {o : Oper} {rest : List Oper} (hk : isAl al k = false) (hw : Region.wanted o (yielded ops a.tmps) = true) (v : Value)
    (hv : yieldsE P C o a v) (h : wpQE P ops C al R rest (k + 1) (a.put o.dst v)) : wpQE P ops C al R (o :: rest) k a := by
  simp only [wpQE, hk, Bool.false_eq_true, if_false, hw, if_true]; exact ⟨v, hv, h⟩
theorem wpQE_no {al : List (Nat × List Value × TypeId)} {R : Act → Prop} {k : Nat} {a : Act} {o : Oper} {rest : List Oper} (hk : isAl al k = false) (hw : Region.wanted o (yielded ops a.tmps) = false)
    (h : wpQE P ops C al R rest (k + 1) (a.put o.dst undef)) : wpQE P ops C al R (o :: rest) k a := by
  simp only [wpQE, hk, Bool.false_eq_true, if_false, hw]; exact h

/-- what the lexical walk says of one operation -/
def stepE (P : Program) (ops : Array Oper) (C : World → Prop) (al : List (Nat × List Value × TypeId)) (o : Oper) (k : Nat) (a : Act) (v : Value) : Prop :=
  isAl al k = true ∨ (Region.wanted o (yielded ops a.tmps) = true ∧ yieldsE P C o a v) ∨ (Region.wanted o (yielded ops a.tmps) = false ∧ v = undef)

theorem lex_valsE {al : List (Nat × List Value × TypeId)} {R : Act → Prop} : ∀ (l : List Oper) (k : Nat) (a : Act), (∀ j, j < l.length → ops[k + j]? = l[j]?) → wpQE P ops C al R l k a →
    ∃ (vs : Nat → Value) (st : Nat → Act), st k = a ∧ (∀ j, k ≤ j → j < k + l.length → st (j + 1) = (st j).put (dstOf ops j) (vs j) ∧ ∃ o, ops[j]? = some o ∧ stepE P ops C al o j (st j) (vs j)) ∧ R (st (k + l.length))
  | [], k, a, _, h => ⟨fun _ => undef, fun _ => a, rfl, fun j h1 h2 => by simp at h2; omega, h⟩
  | o :: l, k, a, hl, h => by
    have h0 : ops[k]? = some o := by simpa using hl 0 (by simp)
    have hv : ∃ v, stepE P ops C al o k a v ∧ wpQE P ops C al R l (k + 1) (a.put o.dst v) := by
      simp only [wpQE] at h
      by_cases h1 : isAl al k = true
      · rw [if_pos h1] at h; exact ⟨undef, .inl h1, h⟩
      · rw [if_neg h1] at h
        by_cases h2 : Region.wanted o (yielded ops a.tmps) = true
        · rw [if_pos h2] at h
          obtain ⟨v, hv, h⟩ := h
          exact ⟨v, .inr (.inl ⟨h2, hv⟩), h⟩
        · rw [if_neg h2] at h
          exact ⟨undef, .inr (.inr ⟨by simpa using h2, rfl⟩), h⟩
    obtain ⟨v, hy, hK⟩ := hv
    obtain ⟨vs, st, h1, h2, h3⟩ := lex_valsE l (k + 1) _ (fun j hj => by
      have := hl (j + 1) (by simpa using hj)
      simpa [Nat.add_assoc, Nat.add_comm 1 j] using this) hK
    refine ⟨fun j => if j = k then v else vs j, fun j => if j = k then a else st j, by simp, fun j hj hj' => ?_, ?_⟩
    · by_cases hjk : j = k
      · subst hjk
        simp only [if_true, if_neg (show j + 1 ≠ j by omega)]
        refine ⟨by rw [h1]; simp [dstOf, h0], o, h0, hy⟩
      · simp only [if_neg hjk, if_neg (show j + 1 ≠ k by omega)]
        exact h2 j (by omega) (by simp only [List.length_cons] at hj'; omega)
    · simp only [List.length_cons, if_neg (show k + (l.length + 1) ≠ k by omega)]
      have e : k + (l.length + 1) = k + 1 + l.length := by omega
      rw [e]; exact h3

theorem Agree.same2 {n : Nat} {vs vs' : Nat → Value} {a0 a a' : Act} {S S' : Nat → Bool} (h : Agree ops n vs a0 S a) (h' : Agree ops n vs' a0 S' a') {t : Nat}
    (hSS : ∀ j, j < n → dstOf ops j = some t → S j = S' j ∧ vs j = vs' j) : a.tmps[t]? = a'.tmps[t]? := by
  by_cases ht : t < a0.tmps.size
  · by_cases he : ∃ i, i < n ∧ S i = true ∧ dstOf ops i = some t
    · obtain ⟨i, hi, hSi, hdi⟩ := he
      rw [h.yes t ht i hi hSi hdi, h'.yes t ht i hi (by rw [← (hSS i hi hdi).1]; exact hSi) hdi, (hSS i hi hdi).2]
    · have hn : ∀ i, i < n → S i = true → dstOf ops i ≠ some t := fun i hi hs hd => he ⟨i, hi, hs, hd⟩
      rw [h.no t ht hn, h'.no t ht fun i hi hs hd => hn i hi (by rw [(hSS i hi hd).1]; exact hs) hd]
  · have h1 : ¬ t < a.tmps.size := by rw [h.sz]; exact ht
    have h2 : ¬ t < a'.tmps.size := by rw [h'.sz]; exact ht
    simp [h1, h2]

theorem Agree.eval2 {n : Nat} {vs vs' : Nat → Value} {a0 a a' : Act} {S S' : Nat → Bool} (h : Agree ops n vs a0 S a) (h' : Agree ops n vs' a0 S' a') {o : Oper}
    (hs : noSel o = true) (hSS : ∀ j, j < n → ∀ t, dstOf ops j = some t → t ∈ o.looksAt ops → S j = S' j ∧ vs j = vs' j) :
    execOp a.eval o = execOp a'.eval o ∧ Region.wanted o (yielded ops a.tmps) = Region.wanted o (yielded ops a'.tmps) := by
  have ht : ∀ t, t ∈ o.looksAt ops → a.tmps[t]? = a'.tmps[t]? := fun t htm => h.same2 h' fun j hj hd => hSS j hj t hd htm
  constructor
  · refine execOp_congr o (fun cs b e => by simp [noSel, e] at hs) fun x hx => ?_
    cases x with
    | tmp t =>
      have := ht t (List.mem_append_left _ (List.mem_filterMap.2 ⟨.tmp t, by simpa using hx, rfl⟩))
      simp [Act.eval, this]
    | _ => rfl
  · unfold Region.wanted
    cases hg : o.guard with
    | none => rfl
    | some g =>
      obtain ⟨j, want⟩ := g
      simp only [yielded]
      cases hd : (ops[j]?).bind (·.dst) with
      | none => simp
      | some t =>
        have := ht t (List.mem_append_right _ (by simp [hg, hd]))
        simp [this]

theorem Agree.cong {n : Nat} {vs vs' : Nat → Value} {a0 a : Act} {S : Nat → Bool} (h : Agree ops n vs a0 S a) (hv : ∀ j, j < n → S j = true → vs j = vs' j) : Agree ops n vs' a0 S a :=
  ⟨h.dfs, h.sz, fun t ht i hi hS hd => by rw [h.yes t ht i hi hS hd, hv i hi hS], h.no⟩

theorem Agree.reput {n : Nat} {vs : Nat → Value} {a0 a : Act} {S : Nat → Bool} (h : Agree ops n vs a0 S a) {i : Nat} (hin : i < n) (hS : S i = true) (v : Value)
    (hd : ∀ j, j < n → j ≠ i → ∀ t, dstOf ops i = some t → dstOf ops j ≠ some t) : Agree ops n (fun j => if j = i then v else vs j) a0 S (a.put (dstOf ops i) v) := by
  cases hdi : dstOf ops i with
  | none =>
    refine ⟨h.dfs, h.sz, fun t ht j hj hSj hdj => ?_, h.no⟩
    have hji : j ≠ i := fun e => by subst e; rw [hdi] at hdj; cases hdj
    rw [if_neg hji]; exact h.yes t ht j hj hSj hdj
  | some d =>
    refine ⟨h.dfs, by simp [Act.put, h.sz], fun t ht j hj hSj hdj => ?_, fun t ht hno => ?_⟩
    · by_cases hji : j = i
      · subst hji
        rw [hdi] at hdj
        cases hdj
        have : d < a.tmps.size := by rw [h.sz]; exact ht
        simp [Act.put, this]
      · have hne : d ≠ t := fun e => hd j hj hji d hdi (by rw [hdj, e])
        simp only [Act.put]
        rw [Array.getElem?_setIfInBounds_ne hne, if_neg hji]
        exact h.yes t ht j hj hSj hdj
    · have hne : d ≠ t := fun e => hno i hin hS (by rw [hdi, e])
      simp only [Act.put]
      rw [Array.getElem?_setIfInBounds_ne hne]
      exact h.no t ht hno

def ptrOf (g : Nat) : Value := .pointer (some ⟨g, 0, none⟩)

/-- the variables that the region makes are put in -/
def putAl (ops : Array Oper) (gs : Nat → Nat) : List (Nat × List Value × TypeId) → Act → Act
  | [], a => a
  | x :: r, a => putAl ops gs r (a.put (dstOf ops x.1) (ptrOf (gs x.1)))

def alOk (ops : Array Oper) (n : Nat) (al : List (Nat × List Value × TypeId)) : Bool :=
  al.all fun x => decide (x.1 < n) && ((List.range n).all fun i => isAl al i || (ops[i]?).all fun o => (dstOf ops x.1).all fun t => !(o.looksAt ops).contains t)

theorem putAl_agree {n : Nat} {a0 : Act} {S : Nat → Bool} {gs : Nat → Nat} (hd : ∀ i, i < n → ∀ j, j < n → j ≠ i → ∀ t, dstOf ops i = some t → dstOf ops j ≠ some t) :
    ∀ (al : List (Nat × List Value × TypeId)) (vs : Nat → Value) (a : Act), (∀ x ∈ al, x.1 < n ∧ S x.1 = true) → Agree ops n vs a0 S a →
      Agree ops n (fun j => if isAl al j then ptrOf (gs j) else vs j) a0 S (putAl ops gs al a)
  | [], vs, a, _, h => by simpa [isAl, putAl] using h
  | x :: r, vs, a, hx, h => by
    obtain ⟨h1, h2⟩ := hx x (by simp)
    have := putAl_agree (gs := gs) hd r _ _ (fun y hy => hx y (by simp [hy])) (h.reput h1 h2 (ptrOf (gs x.1)) (hd x.1 h1))
    refine Agree.cong this fun j hj hS => ?_
    have hcons : isAl (x :: r) j = (x.1 == j || isAl r j) := rfl
    show (if isAl r j = true then ptrOf (gs j) else if j = x.1 then ptrOf (gs x.1) else vs j) = if isAl (x :: r) j = true then ptrOf (gs j) else vs j
    by_cases hr : isAl r j = true
    · rw [if_pos hr, if_pos (by rw [hcons, hr, Bool.or_true])]
    · rw [if_neg hr]
      by_cases hjx : j = x.1
      · subst hjx
        rw [if_pos rfl, if_pos (by rw [hcons]; simp)]
      · rw [if_neg hjx, if_neg]
        rw [hcons]
        simp only [Bool.or_eq_true, beq_iff_eq, not_or]
        exact ⟨fun e => hjx e.symm, hr⟩

/-- A region whose order is drawn: the first n operations read and call quietly in every world of the class C, or make variables (al: their numbers, what they hold, their types); the others come behind them, one by one. -/
theorem wp_region_al {id : Nat} {a : Act} {w : World} {l : List Oper} (n : Nat) (al : List (Nat × List Value × TypeId)) (B : Nat) (hm : P.follows .mixedOrders = true) (hB : clsOk l.toArray n = true)
    (hA : alOk l.toArray n al = true) (hC : C w.drew) (hCa : ∀ w o, C w → C (w.alloc o)) (hCB : ∀ w, C w → B ≤ w.heap.size)
    (hal : ∀ x ∈ al, ∃ o, l[x.1]? = some o ∧ o.guard = none ∧ ∀ ρ w, (execOp ρ o).run P w = .ok (.value (ptrOf w.heap.size)) (w.alloc (.cells x.2.1.toArray x.2.2)))
    (h : wpQE P l.toArray C al (fun a' => ∀ gs w', C w' → (∀ x ∈ al, Blk w' (gs x.1) x.2.1 x.2.2 ∧ B ≤ gs x.1) → (∀ x ∈ al, ∀ y ∈ al, x.1 ≠ y.1 → gs x.1 ≠ gs y.1) →
      wpList P l.toArray Q (l.drop n) (putAl l.toArray gs al a') w') (l.take n) 0 a) : (Code.region id l.toArray true).wp P Q a w := by
  obtain ⟨b1, b2, ⟨b3, b5⟩, b4⟩ := clsOk_spec hB
  have hA' : ∀ x ∈ al, x.1 < n ∧ ∀ i, i < n → isAl al i = false → ∀ o, l.toArray[i]? = some o → ∀ t, dstOf l.toArray x.1 = some t → t ∉ o.looksAt l.toArray := by
    intro x hx
    have := List.all_eq_true.1 hA x hx
    simp only [Bool.and_eq_true, decide_eq_true_eq, List.all_eq_true, List.mem_range, Bool.or_eq_true, Option.all_eq_true, Bool.not_eq_true'] at this
    refine ⟨this.1, fun i hi hal o ho t ht hmem => ?_⟩
    rcases this.2 i hi with h1 | h1
    · rw [hal] at h1; cases h1
    · have := h1 o ho t ht
      rw [List.contains_iff_mem.2 hmem] at this; cases this
  have hnl : n ≤ l.length := by simpa using b4
  have htl : (l.take n).length = n := by simp [hnl]
  have hdd : ∀ i, i < n → ∀ j, j < n → j ≠ i → ∀ t, dstOf l.toArray i = some t → dstOf l.toArray j ≠ some t := by
    intro i hi j hj hji t hd hd'
    have ho : l.toArray[i]? = some l[i] := by simp <;> omega
    have := ((b2 i _ hi ho).2 j t hj hd').1 (Ne.symm hji)
    simp only [dstOf, ho] at hd
    exact this hd
  obtain ⟨vs, st, hst0, hst, hK⟩ := lex_valsE (l.take n) 0 a (fun j hj => by
    have hj' : j < n := by rw [htl] at hj; exact hj
    simp [hj']) h
  rw [htl] at hst hK
  simp only [Nat.zero_add] at hst hK
  have hag : ∀ i, i ≤ n → Agree l.toArray n vs a (fun j => decide (j < i)) (st i) := by
    intro i
    induction i with
    | zero =>
      intro _
      rw [hst0]
      exact ⟨rfl, rfl, fun _ _ _ _ h => by simp at h, fun _ _ _ => rfl⟩
    | succ i ih =>
      intro hi
      obtain ⟨h1, o, ho, _⟩ := hst i (Nat.zero_le _) (by omega)
      rw [h1]
      refine (ih (by omega)).put (by omega) (by simp) (by simp) (fun j hj => ?_) (fun j hj hji t hd => hdd i (by omega) j hj hji t hd)
      simp; omega
  refine wp_region_inv (I := fun listed a' w' =>
    ((∀ t, n ≤ t → listed.getD t false = false) ∧ (∀ i, listed.getD i false = true → ∀ o, l.toArray[i]? = some o → ∀ e ∈ o.after, Region.binds .any e = true → listed.getD e.on false = true) ∧ C w' ∧
      ∃ gs : Nat → Nat, Agree l.toArray n (fun j => if isAl al j then ptrOf (gs j) else vs j) a (fun j => listed.getD j false) a' ∧
        (∀ x ∈ al, listed.getD x.1 false = true → Blk w' (gs x.1) x.2.1 x.2.2 ∧ B ≤ gs x.1) ∧ (∀ x ∈ al, ∀ y ∈ al, listed.getD x.1 false = true → listed.getD y.1 false = true → x.1 ≠ y.1 → gs x.1 ≠ gs y.1)) ∨
    (∃ m, n ≤ m ∧ m ≤ l.length ∧ (∀ j, j < l.length → listed.getD j false = decide (j < m)) ∧ wpList P l.toArray Q (l.drop m) a' w')) hm ?_ ?_ ?_
  · have hf : ∀ t, (Array.replicate l.toArray.size false).getD t false = false := fun t => by
      simp [Array.getElem?_replicate]
      split <;> rfl
    refine .inl ⟨fun t _ => hf t, fun i hi => (by rw [hf] at hi; cases hi), hC, fun _ => 0, ⟨rfl, rfl, fun _ _ i _ h => (by rw [hf] at h; cases h), fun _ _ _ => rfl⟩, fun x _ h => (by rw [hf] at h; cases h), fun x _ y _ h => (by rw [hf] at h; cases h)⟩
  · intro listed a' w' i hsz hI hi
    obtain ⟨hun, o, ho, hall⟩ := mem_ready.1 hi
    have hil : i < l.length := by simpa using (Array.getElem?_eq_some_iff.1 ho).1
    have hun' : listed.getD i false = false := by rw [← getD_ft (by rw [hsz]; simpa using hil)]; exact hun
    have hw8 : ∀ j, waits l.toArray i j = true → listed.getD j false = true := fun j hj => by
      obtain ⟨o', ho', e, he, hb, hon⟩ := waits_spec hj
      have : o' = o := Option.some.inj (ho'.symm.trans ho)
      subst this
      rw [← hon]; exact hall e he hb
    have hsi : (listed.setIfInBounds i true).getD i false = true := by
      have : i < listed.size := by rw [hsz]; simpa using hil
      simp [this]
    have hsn : ∀ j, j ≠ i → (listed.setIfInBounds i true).getD j false = listed.getD j false := fun j hj => by
      simp only [Array.getD_eq_getD_getElem?]
      rw [Array.getElem?_setIfInBounds_ne (Ne.symm hj)]
    have two : ∀ m, n ≤ m → m ≤ l.length → (∀ j, j < l.length → listed.getD j false = decide (j < m)) → wpList P l.toArray Q (l.drop m) a' w' →
        wpOp P l.toArray Q i (fun a'' w'' => (∃ m, n ≤ m ∧ m ≤ l.length ∧ (∀ j, j < l.length → (listed.setIfInBounds i true).getD j false = decide (j < m)) ∧ wpList P l.toArray Q (l.drop m) a'' w'')) a' w' := by
      intro m hnm hml hlist hw
      have him : i = m := by
        have h1 : ¬ i < m := fun hlt => by have := hlist i hil; rw [hun'] at this; simp at this; omega
        rcases Nat.lt_or_ge m i with h2 | h2
        · have h3 := hw8 (i - 1) (b5 i (by omega) (by simpa using hil))
          have h4 := hlist (i - 1) (by omega)
          rw [h3] at h4; simp at h4; omega
        · omega
      subst him
      have hd : l.drop i = o :: l.drop (i + 1) := by
        have ho' : l[i] = o := by
          have := (Array.getElem?_eq_some_iff.1 ho).2
          simpa using this
        rw [← ho']; exact List.drop_eq_getElem_cons hil
      rw [hd] at hw
      have hw' : wpOp P l.toArray Q i (wpList P l.toArray Q (l.drop (i + 1))) a' w' := by
        unfold wpOp; simp only [ho]; exact hw
      refine wpOp_mono (fun a'' w'' h'' => ⟨i + 1, by omega, by omega, fun j hj => ?_, h''⟩) hw'
      by_cases hji : j = i
      · subst hji; rw [hsi]; simp
      · rw [hsn j hji, hlist j hj]
        by_cases hjl : j < i
        · simp [hjl]; omega
        · simp [hjl]; omega
    rcases hI with ⟨hno, hdc, hCw, gs, hAg, hbl, hdis⟩ | ⟨m, hnm, hml, hlist, hw⟩
    · have hdc' : ∀ k, (listed.setIfInBounds i true).getD k false = true → ∀ ok, l.toArray[k]? = some ok → ∀ e ∈ ok.after, Region.binds .any e = true → (listed.setIfInBounds i true).getD e.on false = true := by
        intro k hk ok hok e he hb
        have hset : ∀ j, listed.getD j false = true → (listed.setIfInBounds i true).getD j false = true := fun j hj => by
          by_cases hji : j = i
          · subst hji; exact hsi
          · rw [hsn j hji]; exact hj
        by_cases hki : k = i
        · subst hki
          have : ok = o := Option.some.inj (hok.symm.trans ho)
          subst this
          exact hset _ (hall e he hb)
        · rw [hsn k hki] at hk
          exact hset _ (hdc k hk ok hok e he hb)
      by_cases hin : i < n
      · have hno' : ∀ t, n ≤ t → (listed.setIfInBounds i true).getD t false = false := fun t ht => by rw [hsn t (by omega)]; exact hno t ht
        have hdo : o.dst = dstOf l.toArray i := by simp [dstOf, ho]
        obtain ⟨_, o', ho', hy⟩ := hst i (Nat.zero_le _) hin
        have : o' = o := Option.some.inj (ho'.symm.trans ho)
        subst this
        by_cases hali : isAl al i = true
        · -- a variable is made
          obtain ⟨x, hx, hxi⟩ := List.any_eq_true.1 hali
          have hxi' : x.1 = i := by simpa using hxi
          obtain ⟨ox, hox, hg, hrun⟩ := hal x hx
          have hoo : ox = o' := by
            have : l.toArray[i]? = some ox := by rw [← hxi']; simpa using hox
            exact Option.some.inj (this.symm.trans ho)
          subst hoo
          unfold wpOp
          simp only [ho]
          rw [if_pos (by simp [Region.wanted, hg])]
          refine .inl ?_
          unfold Oper.wp
          rw [hrun]
          simp only [Oper.upon]
          refine .inl ⟨hno', hdc', hCa _ _ hCw, fun j => if j = i then w'.heap.size else gs j, ?_, fun y hy hly => ?_, fun y hy z hz hly hlz hne => ?_⟩
          · rw [hdo]
            have h5 : Agree l.toArray n (fun j => if isAl al j then ptrOf (if j = i then w'.heap.size else gs j) else vs j) a (fun j => listed.getD j false) a' :=
              hAg.cong fun j hj hS => by
                by_cases hji : j = i
                · subst hji; rw [hun'] at hS; cases hS
                · rw [if_neg hji]
            have h6 := h5.put (S' := fun j => (listed.setIfInBounds i true).getD j false) hin hun' hsi (fun j hj => hsn j hj) (fun j hj hji t hd => hdd i hin j hj hji t hd)
            simpa [hali] using h6
          · show Blk _ (if y.1 = i then w'.heap.size else gs y.1) _ _ ∧ B ≤ (if y.1 = i then w'.heap.size else gs y.1)
            by_cases hyi : y.1 = i
            · rw [if_pos hyi]
              have : ox = ox := rfl
              obtain ⟨oy, hoy, _, hruny⟩ := hal y hy
              have hoo2 : oy = ox := by
                have : l.toArray[i]? = some oy := by rw [← hyi]; simpa using hoy
                exact Option.some.inj (this.symm.trans ho)
              subst hoo2
              have e1 := hrun a'.eval w'
              rw [hruny] at e1
              have e2 : w'.alloc (.cells y.2.1.toArray y.2.2) = w'.alloc (.cells x.2.1.toArray x.2.2) := by injection e1
              refine ⟨?_, hCB _ hCw⟩
              have := Blk.alloc_new w' y.2.1 y.2.2
              rw [e2] at this
              exact this
            · rw [if_neg hyi]
              rw [hsn y.1 hyi] at hly
              exact ⟨(hbl y hy hly).1.alloc _, (hbl y hy hly).2⟩
          · show (if y.1 = i then w'.heap.size else gs y.1) ≠ (if z.1 = i then w'.heap.size else gs z.1)
            by_cases hyi : y.1 = i
            · rw [if_pos hyi, if_neg (by omega)]
              rw [hsn z.1 (by omega)] at hlz
              have := (hbl z hz hlz).1.lt
              omega
            · rw [if_neg hyi]
              rw [hsn y.1 hyi] at hly
              by_cases hzi : z.1 = i
              · rw [if_pos hzi]
                have := (hbl y hy hly).1.lt
                omega
              · rw [if_neg hzi]
                rw [hsn z.1 hzi] at hlz
                exact hdis y hy z hz hly hlz hne
        · have hali' : isAl al i = false := by simpa using hali
          obtain ⟨b21, b22⟩ := b2 i o' hin ho
          have hev := hAg.eval2 (hag i (by omega)) (o := o') b21 (fun j hj t hd ht => by
            have hjal : isAl al j = false := by
              cases hj2 : isAl al j with
              | false => rfl
              | true =>
                obtain ⟨x, hx, hxj⟩ := List.any_eq_true.1 hj2
                have hxj' : x.1 = j := by simpa using hxj
                exact absurd ht ((hA' x hx).2 i hin hali' o' ho t (by rw [hxj']; exact hd))
            refine ⟨?_, by simp [hjal]⟩
            obtain ⟨_, c2⟩ := b22 j t hj hd
            obtain ⟨c3, c4⟩ := c2 ht
            rcases Nat.lt_trichotomy j i with h1 | h1 | h1
            · simp only [h1, decide_true]; exact hw8 j (c3 h1)
            · subst h1; simp only [Nat.lt_irrefl, decide_false]; exact hun'
            · have : ¬ j < i := by omega
              simp only [this, decide_false]
              cases hl : listed.getD j false with
              | false => rfl
              | true =>
                obtain ⟨oj, hoj, e, he, hb, hon⟩ := waits_spec (c4 h1)
                have := hdc j hl oj hoj e he hb
                rw [hon, hun'] at this; cases this)
          have hput : ∀ gs' : Nat → Nat, (∀ j, listed.getD j false = true → gs' j = gs j) → Agree l.toArray n (fun j => if isAl al j then ptrOf (gs' j) else vs j) a (fun j => (listed.setIfInBounds i true).getD j false) (a'.put o'.dst (vs i)) := by
            intro gs' hgs
            rw [hdo]
            have h5 : Agree l.toArray n (fun j => if isAl al j then ptrOf (gs' j) else vs j) a (fun j => listed.getD j false) a' :=
              hAg.cong fun j hj hS => by rw [hgs j hS]
            have h6 := h5.put (S' := fun j => (listed.setIfInBounds i true).getD j false) hin hun' hsi (fun j hj => hsn j hj) (fun j hj hji t hd => hdd i hin j hj hji t hd)
            simpa [hali'] using h6
          have done : ∀ w'', C w'' → Ext w' w'' → (fun a'' w'' => ((∀ t, n ≤ t → (listed.setIfInBounds i true).getD t false = false) ∧ (∀ k, (listed.setIfInBounds i true).getD k false = true → ∀ o, l.toArray[k]? = some o → ∀ e ∈ o.after, Region.binds .any e = true → (listed.setIfInBounds i true).getD e.on false = true) ∧ C w'' ∧
              ∃ gs : Nat → Nat, Agree l.toArray n (fun j => if isAl al j then ptrOf (gs j) else vs j) a (fun j => (listed.setIfInBounds i true).getD j false) a'' ∧
                (∀ x ∈ al, (listed.setIfInBounds i true).getD x.1 false = true → Blk w'' (gs x.1) x.2.1 x.2.2 ∧ B ≤ gs x.1) ∧ (∀ x ∈ al, ∀ y ∈ al, (listed.setIfInBounds i true).getD x.1 false = true → (listed.setIfInBounds i true).getD y.1 false = true → x.1 ≠ y.1 → gs x.1 ≠ gs y.1)) ∨
            (∃ m, n ≤ m ∧ m ≤ l.length ∧ (∀ j, j < l.length → (listed.setIfInBounds i true).getD j false = decide (j < m)) ∧ wpList P l.toArray Q (l.drop m) a'' w'')) (a'.put o'.dst (vs i)) w'' := by
            intro w'' hC'' hE
            have hne : ∀ x ∈ al, x.1 ≠ i := fun x hx e => by
              have : isAl al i = true := List.any_eq_true.2 ⟨x, hx, by simp [e]⟩
              rw [hali'] at this; cases this
            refine .inl ⟨hno', hdc', hC'', gs, hput gs (fun _ _ => rfl), fun x hx hlx => ?_, fun x hx y hy hlx hly => ?_⟩
            · rw [hsn x.1 (hne x hx)] at hlx
              exact ⟨(hbl x hx hlx).1.ext hE, (hbl x hx hlx).2⟩
            · rw [hsn x.1 (hne x hx)] at hlx
              rw [hsn y.1 (hne y hy)] at hly
              exact hdis x hx y hy hlx hly
          unfold wpOp
          simp only [ho]
          rcases hy with hy | ⟨hw, hy⟩ | ⟨hw, hy⟩
          · rw [hali'] at hy; cases hy
          · rw [if_pos (by rw [hev.2]; exact hw)]
            refine .inl ?_
            have h3 := hy w' hCw
            rw [← hev.1] at h3
            unfold Oper.wp
            generalize (execOp a'.eval o').run P w' = r at h3 ⊢
            cases r with
            | ok nx w'' =>
              cases nx <;> simp only [uponE] at h3 <;> simp only [Oper.upon]
              case value u =>
                obtain ⟨e1, e2⟩ := h3
                rw [e1, e2]
                exact done _ hCw (Ext.refl _)
              case skip =>
                obtain ⟨e1, e2⟩ := h3
                rw [e1, ← e2]
                exact done _ hCw (Ext.refl _)
              case enter f args =>
                obtain ⟨e1, hc⟩ := h3
                rw [e1]
                exact hc.mono fun e w3 ⟨he, h1, h2⟩ => by subst he; exact done _ h1 h2
            | halt x w'' => simp only [uponE] at h3
          · rw [if_neg (by rw [hev.2, hw]; simp), ← hy]
            exact done _ hCw (Ext.refl _)
      · have hin2 : i = n := by
          rcases Nat.lt_or_ge n i with h1 | h1
          · have h2 := hw8 (i - 1) (b5 i h1 (by simpa using hil))
            rw [hno (i - 1) (by omega)] at h2; cases h2
          · omega
        have hall2 : ∀ j, j < i → listed.getD j false = true := by
          have key : ∀ d j, i - j = d → j < i → listed.getD j false = true := by
            intro d
            induction d using Nat.strongRecOn with
            | _ d ih =>
              intro j hd hj
              obtain ⟨k, hjk, hkn, hw⟩ := b3 (by simpa [hin2] using hil) j (by omega)
              by_cases hki : k = i
              · subst hki; exact hw8 j hw
              · have hk := ih (i - k) (by omega) k rfl (by omega)
                obtain ⟨ok, hok, e, he, hb, hon⟩ := waits_spec hw
                rw [← hon]; exact hdc k hk ok hok e he hb
          exact fun j hj => key _ j rfl hj
        have hfin := putAl_agree (gs := gs) (S := fun j => decide (j < n)) hdd al vs (st n) (fun x hx => ⟨(hA' x hx).1, by simpa using (hA' x hx).1⟩) (hag n (Nat.le_refl _))
        have hae : a' = putAl l.toArray gs al (st n) := hAg.eq hfin fun j hj => by
          rw [hall2 j (by omega)]; simp [hj]
        refine wpOp_mono (fun a'' w'' h'' => .inr h'') (two n (Nat.le_refl _) (by omega) (fun j hj => ?_) ?_)
        · by_cases hjn : j < n
          · rw [hall2 j (by omega)]; simp [hjn]
          · rw [hno j (by omega)]; simp [hjn]
        · rw [hae]
          have hlx : ∀ x ∈ al, listed.getD x.1 false = true := fun x hx => hall2 _ (by have := (hA' x hx).1; omega)
          exact hK gs w' hCw (fun x hx => hbl x hx (hlx x hx)) (fun x hx y hy => hdis x hx y hy (hlx x hx) (hlx y hy))
    · exact wpOp_mono (fun a'' w'' h'' => .inr h'') (two m hnm hml hlist hw)
  · intro listed a' w' hsz hI hr
    have hsz' : listed.size = l.length := by rw [hsz]; simp
    rcases hI with ⟨hno, hdc, hCw, gs, hAg, hbl, hdis⟩ | ⟨m, hnm, hml, hlist, hw⟩
    · have hall : ∀ i, i < l.length → listed.getD i false = true := by
        intro i
        induction i using Nat.strongRecOn with
        | _ i ih =>
          intro hi
          cases hl : listed.getD i false with
          | true => rfl
          | false =>
            have := mem_ready_of (ops := l.toArray) hsz (by simpa using hi) hl (fun j hj => ih j hj (by omega)) (fun o ho e he hb => b1 i o ho e he hb)
            rw [hr] at this; cases this
      have hn : n = l.length := by
        rcases Nat.lt_or_ge n l.length with h1 | h1
        · have := hall n h1
          rw [hno n (Nat.le_refl _)] at this; cases this
        · omega
      have hfin := putAl_agree (gs := gs) (S := fun j => decide (j < n)) hdd al vs (st n) (fun x hx => ⟨(hA' x hx).1, by simpa using (hA' x hx).1⟩) (hag n (Nat.le_refl _))
      have hae : a' = putAl l.toArray gs al (st n) := hAg.eq hfin fun j hj => by
        rw [hall j (by omega)]; simp [hj]
      have hlx : ∀ x ∈ al, listed.getD x.1 false = true := fun x hx => hall _ (by have := (hA' x hx).1; omega)
      have := hK gs w' hCw (fun x hx => hbl x hx (hlx x hx)) (fun x hx y hy => hdis x hx y hy (hlx x hx) (hlx y hy))
      rw [hae]
      rw [hn, List.drop_length] at this
      rw [hn]
      exact this
    · have hml' : m = l.length := by
        rcases Nat.lt_or_ge m l.length with h1 | h1
        · have := mem_ready_of (ops := l.toArray) hsz (by simpa using h1) (by rw [hlist m h1]; simp) (fun j hj => by rw [hlist j (by omega)]; simp [hj]) (fun o ho e he hb => b1 m o ho e he hb)
          rw [hr] at this; cases this
        · omega
      rw [hml', List.drop_length] at hw
      exact hw
end

section
variable {P : Program} {C : World → Prop} {o : Oper} {a : Act}
theorem yieldsE_loadw (ty : TypeId) (x : Operand) (ho : o.op = .load ty x) {g : Nat} {vs : List Value} {T : TypeId} {n : Nat}
    (hx : a.eval x = .pointer (some ⟨g, 0, none⟩)) (hb : ∀ w, C w → Blk w g vs T) (ht : AggT P ty n) (hn : vs.length = n) : yieldsE P C o a (.agg vs.toArray) := by
  intro w hw
  have h1 := run_load_sub (P := P) (off := 0) (hb w hw) ht (by omega)
  have h2 : (vs.drop 0).take n = vs := by simp [← hn]
  rw [h2] at h1
  unfold execOp
  simp only [ho, hx, Instr.loadAt, Instr.sureAddr, Sem.run_bind, Sem.run_pure, Result.andThen_ok, h1]
  exact ⟨rfl, rfl⟩
/-- a comparison of which the run is known -/
theorem yieldsE_cmp (op : BinOp) (t u : TypeId) (x y : Operand) (ho : o.op = .binOp op t x y u) {xs ys : Array Value} {b : Value} (hx : a.eval x = .agg xs) (hy : a.eval y = .agg ys)
    (hg : P.eqGuardType P.depth t = false) (hr : ∀ w, (binOp op t (.agg xs) (.agg ys)).run P w = .ok b w) : yieldsE P C o a b := by
  intro w _
  unfold execOp
  simp only [ho, hx, hy, Sem.run_bind, run_eqGuard_agg w op t x y xs ys hg, Result.andThen_ok, hr, Sem.run_pure]
  exact ⟨rfl, rfl⟩
theorem yieldsE_call {f : FuncId} {xs : Array Operand} {ts : Array TypeId} {args : Array Value} {v : Value} (ho : o.op = .call { callee := .value (.func f), args := xs, argTypes := ts })
    (hf : ∀ args w, (callFunc f args).run P w = .ok (.enter f args) w) (ha : xs.map a.eval = args)
    (hc : ∀ w, C w → Calls P f args w (fun e w' => e = .returned v ∧ Ext w w')) (hC : ∀ w w', C w → Ext w w' → C w') : yieldsE P C o a v := by
  intro w hw
  have hr : (execOp a.eval o).run P w = .ok (.enter f args) w := by
    unfold execOp
    simp only [ho, resolve, Act.eval, Deferred.ofValue, Sem.run_bind, Sem.run_pure, Result.andThen_ok, invoke]
    have : (#[] ++ xs.map a.eval ++ #[] : Array Value) = args := by simp [ha]
    simpa [ha] using hf args w
  rw [hr]
  exact ⟨rfl, (hc w hw).mono fun e w' ⟨h1, h2⟩ => ⟨h1, hC w w' hw h2, h2⟩⟩
end
attribute [go_sem] uponE
end

section
open Go Go.RowKit

theorem gby_self (w : World) (r : Option Nat) : w.grownBy w r := ⟨rfl, rfl, rfl, Nat.le_refl _, fun _ _ _ => rfl⟩
theorem gby_ext {w w1 w2 : World} {r : Option Nat} (h : w.grownBy w1 r) (e : Ext w1 w2) : w.grownBy w2 r :=
  ⟨e.os.trans h.os, e.tape.trans h.tape, e.output.trans h.output, Nat.le_trans h.size e.size, fun k hk hn => (e.block k (Nat.lt_of_lt_of_le hk h.size)).trans (h.block k hk hn)⟩
theorem gby_upd {w w1 w2 : World} {g : Nat} (h : w.grownBy w1 (some g)) (u : Upd w1 g w2) : w.grownBy w2 (some g) :=
  ⟨u.os.trans h.os, u.tape.trans h.tape, u.output.trans h.output, by rw [u.size]; exact h.size, fun k hk hn => (u.block k (fun e => hn (by rw [e]))).trans (h.block k hk hn)⟩
theorem gby_new {w w1 w2 : World} {g : Nat} {r : Option Nat} (h : w.grownBy w1 r) (u : Upd w1 g w2) (hg : w.heap.size ≤ g) : w.grownBy w2 r :=
  ⟨u.os.trans h.os, u.tape.trans h.tape, u.output.trans h.output, by rw [u.size]; exact h.size, fun k hk hn => (u.block k (by omega)).trans (h.block k hk hn)⟩
/-- the cells behind a slice's address, and none of them in block g -/
def CellsOff (w : World) (g : Nat) (a : Option Addr) (xs : List Value) : Prop := xs = [] ∨ ∃ b off, a = some ⟨b, off, none⟩ ∧ b ≠ g ∧ ∀ i u, xs[i]? = some u → w.cell? ⟨b, off + i, none⟩ = some u
theorem CellsOff.cells {w : World} {g : Nat} {a : Option Addr} {xs : List Value} (h : CellsOff w g a xs) : Cells w a xs := by
  rcases h with h | ⟨b, off, ha, _, h⟩
  · exact .inl h
  · exact .inr ⟨b, off, ha, h⟩
theorem CellsOff.grown {w w' : World} {g : Nat} {a : Option Addr} {xs : List Value} (h : CellsOff w g a xs) (k : w.grownBy w' (some g)) : CellsOff w' g a xs := by
  rcases h with h | ⟨b, off, ha, hb, h⟩
  · exact .inl h
  · exact .inr ⟨b, off, ha, hb, fun i u hu => k.cell (h i u hu) (by simpa using hb)⟩
theorem CellsOff.ext {w w' : World} {g : Nat} {a : Option Addr} {xs : List Value} (h : CellsOff w g a xs) (k : Ext w w') : CellsOff w' g a xs := by
  rcases h with h | ⟨b, off, ha, hb, h⟩
  · exact .inl h
  · refine .inr ⟨b, off, ha, hb, fun i u hu => ?_⟩
    have h1 := h i u hu
    have hb := block_lt_of_cell h1
    have := k.cell (p := ⟨b, off + i, none⟩) hb
    rw [this]; exact h1
theorem own_off {w : World} {B g : Nat} {T : TypeId} {z : Nat} {v : Value} {n : Nat} {xs : List Value} (hz : 0 < z) (h : w.ownsRow B T z v n xs) (hg : g < B) :
    ∃ a c, v = .slice a n c ∧ n ≤ c ∧ c ≤ maxLen ∧ (a = none → c = 0) ∧ CellsOff w g a xs := by
  obtain ⟨hl, h⟩ := h
  rcases h with ⟨rfl, rfl⟩ | ⟨gr, cap, cur, rfl, hb, hgr, h1, h2, h3, h4⟩
  · refine ⟨none, 0, rfl, Nat.le_refl _, by unfold maxLen; omega, fun _ => rfl, .inl ?_⟩
    exact List.length_eq_zero_iff.1 (by omega)
  · refine ⟨_, cap, rfl, h1, h2, (fun h => by cases h), .inr ⟨gr, 0, rfl, by omega, fun i u hu => ?_⟩⟩
    rw [← h4] at hu
    have hi : i < n * z := by
      have := (List.getElem?_eq_some_iff.1 hu).1
      simp only [List.length_take] at this; omega
    rw [List.getElem?_take_of_lt hi] at hu
    rw [Nat.zero_add]
    exact Blk.cell' (vs := cur.toList) (T := T) (by simpa [Blk] using hgr) hu
theorem CellsOff.at {w : World} {g : Nat} {a : Option Addr} {xs : List Value} (h : CellsOff w g a xs) {i : Nat} {u : Value} (hu : xs[i]? = some u) :
    ∃ b off, a = some ⟨b, off, none⟩ ∧ w.cell? ⟨b, off + i, none⟩ = some u := by
  rcases h with rfl | ⟨b, off, ha, _, h⟩
  · simp at hu
  · exact ⟨b, off, ha, h i u hu⟩
theorem CellsOff.of {w w' : World} {g : Nat} {a : Option Addr} {xs : List Value} (h : Cells w a xs) (hg : w.heap.size ≤ g) (e : Ext w w') : CellsOff w' g a xs := by
  rcases h.ext e with h' | ⟨b, off, ha, h'⟩
  · exact .inl h'
  · rcases h with h | ⟨b2, off2, ha2, h2⟩
    · exact .inl h
    · rw [ha] at ha2
      cases ha2
      by_cases h0 : xs = []
      · exact .inl h0
      · refine .inr ⟨b, off, ha, ?_, h'⟩
        obtain ⟨u, hu⟩ : ∃ u, xs[0]? = some u := ⟨xs[0]'(List.length_pos_iff.2 h0), by simp⟩
        have := block_lt_of_cell (h2 0 u hu)
        simp only at this
        omega

section
variable {P : Program} {ops : Array Oper} {rest : List Oper} {o : Oper} {a : Act} {C : World → Prop}
theorem yieldsE_run {v : Value} (hr : ∀ w, C w → (execOp a.eval o).run P w = .ok (.value v) w) : yieldsE P C o a v := by
  intro w hw
  rw [hr w hw]
  first | exact ⟨rfl, rfl⟩ | exact ⟨rfl, hw⟩
end
end

section
open Go Go.RowKit

section
variable {P : Program} {ops : Array Oper} {Q : Exit → Act → World → Prop} {S : World → Prop} {W : List Nat}

/-- whichever comes up; S is shown behind all operations but those of W -/
def wpAnyW (P : Program) (ops : Array Oper) (Q : Exit → Act → World → Prop) (S : World → Prop) (W : List Nat) : Nat → Array Bool → Act → World → Prop
  | 0, listed, a, w => Region.ready .any ops listed = [] ∧ Q .normal a w
  | f + 1, listed, a, w => (Region.ready .any ops listed = [] → Q .normal a w) ∧
      ∀ i ∈ Region.ready .any ops listed, wpOp P ops Q i (fun a' w' => (W.contains i = false → S w → S w') ∧ wpAnyW P ops Q S W f (listed.setIfInBounds i true) a' w') a w

theorem wpAny_of_W : ∀ (f : Nat) (listed : Array Bool) (a : Act) (w : World), wpAnyW P ops Q S W f listed a w → wpAny P .any ops Q f listed a w
  | 0, _, _, _, h => h
  | f + 1, _, _, _, h => ⟨h.1, fun i hi => wpOp_mono (fun a' w' h' => wpAny_of_W f _ a' w' h'.2) (h.2 i hi)⟩

/-- what stands in listed has all that it waits for in listed -/
def Down (ops : Array Oper) (listed : Array Bool) : Prop := ∀ k, listed.getD k false = true → ∀ o, ops[k]? = some o → ∀ e ∈ o.after, Region.binds .any e = true → listed.getD e.on false = true
/-- j waits for i, through others too -/
def reachW (ops : Array Oper) : Nat → Nat → Nat → Bool
  | 0, _, _ => false
  | f + 1, j, i => waits ops j i || (List.range ops.size).any fun k => waits ops j k && reachW ops f k i

theorem reachW_listed {listed : Array Bool} (hd : Down ops listed) : ∀ (f j i : Nat), (∀ k, waits ops j k = true → listed.getD k false = true) → reachW ops f j i = true → listed.getD i false = true
  | 0, _, _, _, h => by cases h
  | f + 1, j, i, hj, h => by
    simp only [reachW, Bool.or_eq_true, List.any_eq_true, Bool.and_eq_true] at h
    rcases h with h | ⟨k, _, h1, h2⟩
    · exact hj i h
    · refine reachW_listed hd f k i (fun q hq => ?_) h2
      obtain ⟨o, ho, e, he, hb, hon⟩ := waits_spec hq
      rw [← hon]
      exact hd k (hj k h1) o ho e he hb

theorem ready_waits {listed : Array Bool} {j : Nat} (hj : j ∈ Region.ready .any ops listed) : ∀ k, waits ops j k = true → listed.getD k false = true := by
  intro k hk
  obtain ⟨_, o, ho, hall⟩ := mem_ready.1 hj
  obtain ⟨o', ho', e, he, hb, hon⟩ := waits_spec hk
  have : o' = o := Option.some.inj (ho'.symm.trans ho)
  subst this
  rw [← hon]; exact hall e he hb

theorem Down.set {listed : Array Bool} {j : Nat} (hd : Down ops listed) (hj : j ∈ Region.ready .any ops listed) : Down ops (listed.setIfInBounds j true) := by
  intro k hk o ho e he hb
  by_cases hkj : j = k
  · subst hkj
    obtain ⟨_, o', ho', hall⟩ := mem_ready.1 hj
    have : o' = o := Option.some.inj (ho'.symm.trans ho)
    subst this
    exact getD_set_true (hall e he hb)
  · rw [getD_set_ne false hkj] at hk
    exact getD_set_true (hd k hk o ho e he hb)

theorem wpAnyW_first {i : Nat} {oi : Oper} {v : Value} (n : Nat) (hi : ops[i]? = some oi) (hsel : ∀ (j : Nat) (o : Oper) cs b, ops[j]? = some o → o.op ≠ .select cs b) (hW : ∀ j, W.contains j = true → reachW ops n j i = true)
    (hQ : ∀ c a w, Q (.panic c) (a.put oi.dst v) w → Q (.panic c) a w) :
    ∀ (f : Nat) (listed : Array Bool) (a : Act) (w : World), Down ops listed →
      (∀ j oj, ops[j]? = some oj → j ≠ i → listed.getD j true = false → (∀ e ∈ oj.after, Region.binds .any e = true → e.on ≠ i) → oi.apart ops oj = true) →
      i ∈ Region.ready .any ops listed → YieldsIf P ops S oi v a → S w →
      wpAnyW P ops Q S W f (listed.setIfInBounds i true) (a.put oi.dst v) w → wpAnyW P ops Q S W (f + 1) listed a w := by
  intro f
  induction f with
  | zero =>
    intro listed a w _ _ hr hy hS H
    refine ⟨fun h => (by rw [h] at hr; cases hr), fun j hj => ?_⟩
    by_cases hji : j = i
    · subst hji; exact hy.wpOp hi hS ⟨fun _ _ => hS, H⟩
    · have := ready_mono hj hji
      rw [H.1] at this
      cases this
  | succ f ih =>
    intro listed a w hdn hfree hr hy hS H
    refine ⟨fun h => (by rw [h] at hr; cases hr), fun j hj => ?_⟩
    by_cases hji : j = i
    · subst hji; exact hy.wpOp hi hS ⟨fun _ _ => hS, H⟩
    · have h1 := H.2 j (ready_mono hj hji)
      obtain ⟨hjun, oj, hoj, hall⟩ := mem_ready.1 hj
      have h0 := (mem_ready.1 hr).1
      have hiu : listed.getD i false = true → False := fun h => by
        simp only [Array.getD_eq_getD_getElem?] at h h0
        cases hq : listed[i]? with
        | none => rw [hq] at h0; simp at h0
        | some b => rw [hq] at h h0; simp at h h0; rw [h] at h0; cases h0
      have hnot : ∀ e ∈ oj.after, Region.binds .any e = true → e.on ≠ i := fun e he hb heq => by
        have h1 := hall e he hb
        rw [heq] at h1
        exact hiu h1
      have hWj : W.contains j = false := by
        cases hq : W.contains j with
        | false => rfl
        | true => exact absurd (reachW_listed hdn n j i (ready_waits hj) (hW j hq)) hiu
      have h2 := wpOp_putIf hoj (hfree j oj hoj hji hjun hnot) (fun cs b => hsel i oi cs b hi) (fun cs b => hsel j oj cs b hoj) hQ hy h1
      have hfree' : ∀ k ok, ops[k]? = some ok → k ≠ i → (listed.setIfInBounds j true).getD k true = false →
          (∀ e ∈ ok.after, Region.binds .any e = true → e.on ≠ i) → oi.apart ops ok = true := fun k ok hk hki hun hno => by
        refine hfree k ok hk hki ?_ hno
        by_cases hjk : j = k
        · subst hjk; exact hjun
        · rw [getD_set_ne true hjk] at hun; exact hun
      refine wpOp_mono (fun a' w' h3 => ⟨fun _ _ => h3.2.1 hWj hS, ih (listed.setIfInBounds j true) a' w' (hdn.set hj) hfree' (ready_mono hr (Ne.symm hji)) h3.1 (h3.2.1 hWj hS) ?_⟩) h2
      rw [Array.setIfInBounds_comm _ _ hji]
      exact h3.2.2

/-- what yields in whatever world -/
theorem wpAnyW_pure {i : Nat} {oi : Oper} {v : Value} (hi : ops[i]? = some oi) (hsel : ∀ (j : Nat) (o : Oper) cs b, ops[j]? = some o → o.op ≠ .select cs b)
    (hQ : ∀ c a w, Q (.panic c) (a.put oi.dst v) w → Q (.panic c) a w) :
    ∀ (f : Nat) (listed : Array Bool) (a : Act) (w : World),
      (∀ j oj, ops[j]? = some oj → j ≠ i → listed.getD j true = false → (∀ e ∈ oj.after, Region.binds .any e = true → e.on ≠ i) → oi.apart ops oj = true) →
      i ∈ Region.ready .any ops listed → YieldsIf P ops (fun _ => True) oi v a →
      wpAnyW P ops Q S W f (listed.setIfInBounds i true) (a.put oi.dst v) w → wpAnyW P ops Q S W (f + 1) listed a w := by
  intro f
  induction f with
  | zero =>
    intro listed a w _ hr hy H
    refine ⟨fun h => (by rw [h] at hr; cases hr), fun j hj => ?_⟩
    by_cases hji : j = i
    · subst hji; exact hy.wpOp hi trivial ⟨fun _ h => h, H⟩
    · have := ready_mono hj hji
      rw [H.1] at this
      cases this
  | succ f ih =>
    intro listed a w hfree hr hy H
    refine ⟨fun h => (by rw [h] at hr; cases hr), fun j hj => ?_⟩
    by_cases hji : j = i
    · subst hji; exact hy.wpOp hi trivial ⟨fun _ h => h, H⟩
    · have h1 := H.2 j (ready_mono hj hji)
      obtain ⟨hjun, oj, hoj, hall⟩ := mem_ready.1 hj
      have hnot : ∀ e ∈ oj.after, Region.binds .any e = true → e.on ≠ i := fun e he hb heq => by
        have h1 := hall e he hb
        have h0 := (mem_ready.1 hr).1
        rw [heq] at h1
        simp only [Array.getD_eq_getD_getElem?] at h1 h0
        cases hq : listed[i]? with
        | none => rw [hq] at h0; simp at h0
        | some b => rw [hq] at h1 h0; simp at h1 h0; rw [h1] at h0; cases h0
      have h2 := wpOp_putIf hoj (hfree j oj hoj hji hjun hnot) (fun cs b => hsel i oi cs b hi) (fun cs b => hsel j oj cs b hoj) hQ hy h1
      have hfree' : ∀ k ok, ops[k]? = some ok → k ≠ i → (listed.setIfInBounds j true).getD k true = false →
          (∀ e ∈ ok.after, Region.binds .any e = true → e.on ≠ i) → oi.apart ops ok = true := fun k ok hk hki hun hno => by
        refine hfree k ok hk hki ?_ hno
        by_cases hjk : j = k
        · subst hjk; exact hjun
        · rw [getD_set_ne true hjk] at hun; exact hun
      refine wpOp_mono (fun a' w' h3 => ⟨h3.2.1, ih (listed.setIfInBounds j true) a' w' hfree' (ready_mono hr (Ne.symm hji)) h3.1 ?_⟩) h2
      rw [Array.setIfInBounds_comm _ _ hji]
      exact h3.2.2

def downB (ops : Array Oper) (listed : Array Bool) : Bool := (List.range ops.size).all fun k => !listed.getD k false || (ops[k]?).all fun o => o.after.all fun e => !Region.binds .any e || listed.getD e.on false
theorem down_of {listed : Array Bool} (h : downB ops listed = true) : Down ops listed := by
  intro k hk o ho e he hb
  have hkl : k < ops.size := (Array.getElem?_eq_some_iff.1 ho).1
  have h1 := List.all_eq_true.1 h k (List.mem_range.2 hkl)
  rw [hk, ho] at h1
  simp only [Bool.not_true, Bool.false_or, Option.all_some, Array.all_eq_true'] at h1
  have := h1 e he
  rw [hb] at this
  simpa using this

/-- one operation is taken first -/
theorem w_take (i : Nat) {oi : Oper} {r : List Oper} {v : Value} {f : Nat} {listed : Array Bool} {a : Act} {w : World} (hi : ops.toList.drop i = oi :: r)
    (hs : Region.noSelect ops = true) (hW : (W.all fun j => reachW ops 12 j i) = true) (hdn : downB ops listed = true) (hf : Region.free .any ops listed i = true) (hr : (Region.ready .any ops listed).contains i = true)
    (hQ : ∀ c a w, Q (.panic c) (a.put oi.dst v) w → Q (.panic c) a w) (hy : YieldsIf P ops S oi v a) (hS : S w)
    (h : wpAnyW P ops Q S W f (listed.setIfInBounds i true) (a.put oi.dst v) w) : wpAnyW P ops Q S W (f + 1) listed a w :=
  wpAnyW_first 12 (op_of_drop hi) (Region.noSelect_spec hs) (fun j hj => List.all_eq_true.1 hW j (by simpa using hj)) hQ f listed a w (down_of hdn) (Region.free_spec (op_of_drop hi) hf) (by simpa using hr) hy hS h

theorem w_pure (i : Nat) {oi : Oper} {r : List Oper} {v : Value} {f : Nat} {listed : Array Bool} {a : Act} {w : World} (hi : ops.toList.drop i = oi :: r)
    (hs : Region.noSelect ops = true) (hf : Region.free .any ops listed i = true) (hr : (Region.ready .any ops listed).contains i = true)
    (hQ : ∀ c a w, Q (.panic c) (a.put oi.dst v) w → Q (.panic c) a w) (hy : YieldsIf P ops (fun _ => True) oi v a)
    (h : wpAnyW P ops Q S W f (listed.setIfInBounds i true) (a.put oi.dst v) w) : wpAnyW P ops Q S W (f + 1) listed a w :=
  wpAnyW_pure (op_of_drop hi) (Region.noSelect_spec hs) hQ f listed a w (Region.free_spec (op_of_drop hi) hf) (by simpa using hr) hy h

/-- just one operation may come up -/
theorem w_one {i : Nat} {o : Oper} {r : List Oper} {f : Nat} {listed : Array Bool} {a : Act} {w : World} (hr : Region.ready .any ops listed = [i]) (ho : ops.toList.drop i = o :: r) (hW : W.contains i = false) (hS : S w)
    (h : ∀ Q' : Exit → Act → World → Prop, (∀ a w, S w → wpAnyW P ops Q S W f (listed.setIfInBounds i true) a w → Q' .normal a w) → wpList P ops Q' [o] a w) :
    wpAnyW P ops Q S W (f + 1) listed a w := by
  refine ⟨fun h0 => (by rw [hr] at h0; cases h0), fun j hj => ?_⟩
  rw [hr] at hj
  obtain rfl : j = i := by simpa using hj
  exact wpOp_of_list (op_of_drop ho) (h _ fun a w hS hW => ⟨fun _ _ => hS, hW⟩)
/-- just one operation may come up, a late one -/
theorem w_late {i : Nat} {o : Oper} {r : List Oper} {f : Nat} {listed : Array Bool} {a : Act} {w : World} (hr : Region.ready .any ops listed = [i]) (ho : ops.toList.drop i = o :: r) (hW : W.contains i = true)
    (h : ∀ Q' : Exit → Act → World → Prop, (∀ a w, True → wpAnyW P ops Q S W f (listed.setIfInBounds i true) a w → Q' .normal a w) → wpList P ops Q' [o] a w) :
    wpAnyW P ops Q S W (f + 1) listed a w := by
  refine ⟨fun h0 => (by rw [hr] at h0; cases h0), fun j hj => ?_⟩
  rw [hr] at hj
  obtain rfl : j = i := by simpa using hj
  exact wpOp_of_list (op_of_drop ho) (h _ fun a w _ hX => ⟨fun h => (by rw [hW] at h; cases h), hX⟩)
theorem w_done {listed : Array Bool} {a : Act} {w : World} (hr : Region.ready .any ops listed = []) (h : Q .normal a w) : ∀ f, wpAnyW P ops Q S W f listed a w
  | 0 => ⟨hr, h⟩
  | _ + 1 => ⟨fun _ => h, by rw [hr]; simp⟩
theorem wp_region_w {id : Nat} {a : Act} {w : World} (hm : P.follows .mixedOrders = true) (hS : S w.drew)
    (h : S w.drew → wpAnyW P ops Q S W ops.size (Array.replicate ops.size false) a w.drew) : (Code.region id ops true).wp P Q a w :=
  wp_region_any hm (wpAny_of_W _ _ _ _ (h hS))
end
theorem Cls.two_room {w0 W : World} {L : List Nat} {r r2 n n2 : Nat} {vs vs2 : List Value} {T T2 : TypeId} (h : Ext w0 W) (k : Kept W L W) (hb : Blk W r vs T) (hn : vs.length = n) (hb2 : Blk W r2 vs2 T2) (hn2 : vs2.length = n2) : Cls w0 W L [(r, n, T), (r2, n2, T2)] W :=
  ⟨h, k, by simp only [List.mem_cons, List.not_mem_nil, or_false]; rintro x (rfl | rfl) <;> first | exact ⟨hb.lt, vs, hn, hb⟩ | exact ⟨hb2.lt, vs2, hn2, hb2⟩⟩
end

section
open Go Go.RowKit

theorem run_stringIndex (s : ByteArray) (i : Nat) (h : i < s.size) (w : World) : (Instr.index 9 (.string s) (.int .i64 (i : Int))).run Tryz.prog w = .ok (.int .u8 ((s[i]'h).toNat : Int)) w := by
  have h2 : s[i]? = some (s[i]'h) := getElem?_pos s i h
  simp [Instr.index, asIntOf, run_underlying Tryz.underlying9, h2]

theorem exec_strAt {o : Oper} {a : Act} {x y : Operand} {s : ByteArray} {i : Nat} {v : Value} (ho : o.op = .index 9 x y) (hx : a.eval x = .string s) (hy : a.eval y = .int .i64 (i : Int)) (h : ∀ w, (Instr.index 9 (.string s) (.int .i64 (i : Int))).run Tryz.prog w = .ok v w) (w : World) :
    (execOp a.eval o).run Tryz.prog w = .ok (.value v) w := by
  unfold execOp
  simp only [ho, hx, hy, Sem.run_bind, h w, Result.andThen_ok, Sem.run_pure]

theorem run_strFrom (s : ByteArray) (i : Nat) (hi : i ≤ s.size) (w : World) : (Instr.sliceAt 9 (.string s) (some (.int .i64 (i : Int))) none none).run Tryz.prog w = .ok (.string (s.extract i s.size)) w := by
  have h1 : (0 : Int) ≤ i ∧ (i : Int) ≤ s.size := by omega
  simp [Instr.sliceAt, Instr.slice, Instr.sliceBounds, Instr.sliceBound, asIntOf, run_underlying Tryz.underlying9, hi]
theorem exec_strFrom {o : Oper} {a : Act} {x y : Operand} {s : ByteArray} {i : Nat} (ho : o.op = .slice 9 x (some y) none none) (hx : a.eval x = .string s) (hy : a.eval y = .int .i64 (i : Int)) (hi : i ≤ s.size) (w : World) :
    (execOp a.eval o).run Tryz.prog w = .ok (.value (.string (s.extract i s.size))) w := by
  unfold execOp
  simp only [ho, hx, hy, Option.map_some, Option.map_none, Sem.run_bind, run_strFrom s i hi w, Result.andThen_ok, Sem.run_pure]

set_option maxRecDepth 100000 in
set_option maxHeartbeats 1000000 in
theorem validRune_c (r : Nat) (w : World) (h2 : r ≤ 1114111) (h3 : r < 55296 ∨ 57343 < r) :
    Calls Tryz.prog 136 #[.int .i32 (r : Int)] w fun e w' => e = .returned (.bool true) ∧ w = w' := by
  have g1 : decide ((0 : Int) ≤ (r : Int)) = true := decide_eq_true (by omega)
  by_cases h : r < 55296
  · have g6 : decide ((r : Int) < 55296) = true := decide_eq_true (by omega)
    have g7 : decide (r < 55296) = true := decide_eq_true (by omega)
    go_enter Tryz.func136, Tryz.ntmps136
    go_wp2
    go_ret
    exact ⟨rfl, rfl⟩
  · have g6 : decide ((r : Int) < 55296) = false := decide_eq_false (by omega)
    have g7 : decide (r < 55296) = false := decide_eq_false (by omega)
    have g8 : decide ((57343 : Int) < (r : Int)) = true := decide_eq_true (by omega)
    have g9 : decide (57343 < r) = true := decide_eq_true (by omega)
    have g10 : decide ((r : Int) ≤ 1114111) = true := decide_eq_true (by omega)
    have g11 : decide (r ≤ 1114111) = true := decide_eq_true (by omega)
    go_enter Tryz.func136, Tryz.ntmps136
    go_wp2
    go_ret
    exact ⟨rfl, rfl⟩

set_option maxRecDepth 100000 in
set_option maxHeartbeats 1000000 in
theorem indexRune_high (r : Nat) (w : World) (h1 : 128 ≤ r) (h2 : r ≤ 1114111) (h3 : r < 55296 ∨ 57343 < r) (h4 : r ≠ 65533) :
    Calls Tryz.prog 116 #[.string alpha, .int .i32 (r : Int)] w fun e w' => e = .returned (.int .i64 (-1)) ∧ Ext w w' := by
  have hv : Utf8.valid (r : Int) = true := by
    rw [validRune_eq]; unfold validRune; exact decide_eq_true (by omega)
  obtain ⟨f1, f2, f3⟩ := encode_facts (r : Int) hv (by omega)
  obtain ⟨rs, hrs⟩ : ∃ rs, Utf8.encode (r : Int) = rs := ⟨_, rfl⟩
  rw [hrs] at f1 f2 f3
  obtain ⟨m, hm⟩ : ∃ m, m = rs.size - 1 := ⟨_, rfl⟩
  have hmlt : m < rs.size := by omega
  have hmc := f3 (by omega)
  have hc128 : 128 ≤ (rs[m]'hmlt).toNat := by subst hm; exact hmc
  have hrsz : ((rs.size : Nat) : Int) - 1 = (m : Int) := by omega
  have hia := fun w => run_stringIndex rs m hmlt w
  obtain ⟨s, hs⟩ : ∃ s, alpha = s := ⟨_, rfl⟩
  have hsz : s.size = 39 := by rw [← hs]; rfl
  have hasc : ∀ b ∈ s.data.toList, b.toNat < 128 := by rw [← hs]; exact alpha_ascii
  have hms : m < s.size := by omega
  have hib := fun w => run_stringIndex s m hms w
  have hb : (s[m]'hms).toNat < 128 := hasc _ (Array.getElem_mem_toList (xs := s.data) hms)
  obtain ⟨c, hc⟩ : ∃ c, (rs[m]'hmlt) = c := ⟨_, rfl⟩
  obtain ⟨b, hbb⟩ : ∃ b, (s[m]'hms).toNat = b := ⟨_, rfl⟩
  rw [hc] at hia hc128
  rw [hbb] at hib hb
  have hc256 := c.toNat_lt
  have hix := hid (fun a e w' => indexByte_c (s.extract a e) (c.toNat : Int) w')
  have hno := hid (fun a e => firstIdx_ascii s a e c hasc hc128)
  have hcc : ((c.toNat : Int)).toNat.toUInt8 = c := by simp
  rw [hcc] at hix
  rw [hs]
  have HSZ := hid hsz
  have hvr := hid (fun w' => validRune_c r w' h2 h3)
  clear hs hasc hmc f3 hm hc hbb hsz h3 hv hcc
  have g1 : decide ((0 : Int) ≤ (r : Int)) = true := decide_eq_true (by omega)
  have g2 : decide ((r : Int) < 128) = false := decide_eq_false (by omega)
  have g3 : decide (r < 128) = false := decide_eq_false (by omega)
  have g4 : ((r : Int) == 65533) = false := by simp; omega
  have g5 : (r == 65533) = false := by simp [h4]
  go_enter Tryz.func116, Tryz.ntmps116
  go_wp2_with (first | (go_at_call 136; refine (hvr.out _).mono ?_; rintro e w' ⟨rfl, rfl⟩))
  go_step3
  go_wp2_with fail
  go_loopw [9] (fun x wr => x = .int .i64 (m : Int) ∧ wr = w) (fun _ _ => 0)
  case atStart => exact ⟨rfl, rfl⟩
  case round =>
    obtain ⟨rfl, rfl⟩ := hrel
    have k1 : decide ((m : Int) < (s.size : Int)) = true := decide_eq_true (by omega)
    have k2 : decide (m < s.size) = true := decide_eq_true hms
    have k3 : ((b : Int) != (c.toNat : Int)) = true := by simp; omega
    have k4 : (b != c.toNat) = true := by simp; omega
    go_wp2_with fail
    go_step3
    go_wp2_with fail
    obtain ⟨C, hC⟩ : ∃ C : World → Prop, C = fun w' => Ext wr w' := ⟨_, rfl⟩
    have hC0 : ∀ w', C w' ↔ Ext wr w' := fun w' => by rw [hC]
    clear hC
    have HCC := hid hC0
    clear hC0
    have hCx : ∀ w w', C w → Ext w w' → C w' := fun w w' h1 h2 => (HCC.out w').2 (((HCC.out w).1 h1).ext h2)
    refine wp_region_held_drew (S := C) (by kernel_rfl) ((HCC.out _).2 (Ext.refl wr).drew) (fun hS0 => ?_)
    refine held_take 0 (v := ?tv1) rfl (by kernel_rfl) (by kernel_rfl) (by kernel_rfl) (fun _ _ _ h => h) (.inl ⟨rfl, ?ty1⟩) hS0 ?tr1
    case ty1 => (intro _ _; go_simp; try with_reducible rfl)
    case tr1 =>
    simp only [Act.put, List.setIfInBounds_toArray, List.set_cons_succ, List.set_cons_zero]
    refine held_take 1 (v := ?tv2) rfl (by kernel_rfl) (by kernel_rfl) (by kernel_rfl) (fun _ _ _ h => h) (.inl ⟨rfl, ?ty2⟩) hS0 ?tr2
    case ty2 => (intro _ _; go_simp; try with_reducible rfl)
    case tr2 =>
    simp only [Act.put, List.setIfInBounds_toArray, List.set_cons_succ, List.set_cons_zero]
    refine held_take 2 (v := _) rfl (by kernel_rfl) (by kernel_rfl) (by kernel_rfl) (fun _ _ _ h => h) (yieldsI_run rfl (fun w1 _ => exec_strAt rfl rfl rfl hib w1)) hS0 ?_
    simp only [Act.put, List.setIfInBounds_toArray, List.set_cons_succ, List.set_cons_zero]
    refine held_take 3 (v := ?tv3) rfl (by kernel_rfl) (by kernel_rfl) (by kernel_rfl) (fun _ _ _ h => h) (.inl ⟨rfl, ?ty3⟩) hS0 ?tr3
    case ty3 => (intro _ _; go_simp; try with_reducible rfl)
    case tr3 =>
    simp only [Act.put, List.setIfInBounds_toArray, List.set_cons_succ, List.set_cons_zero]
    refine held_take 4 (v := ?tv4) rfl (by kernel_rfl) (by kernel_rfl) (by kernel_rfl) (fun _ _ _ h => h) (.inl ⟨rfl, ?ty4⟩) hS0 ?tr4
    case ty4 => (intro _ _; go_simp; try with_reducible rfl)
    case tr4 =>
    simp only [Act.put, List.setIfInBounds_toArray, List.set_cons_succ, List.set_cons_zero]
    refine held_take 5 (v := _) rfl (by kernel_rfl) (by kernel_rfl) (by kernel_rfl) (fun _ _ _ h => h) (yieldsI_run rfl (fun w1 _ => exec_strAt rfl rfl rfl hia w1)) hS0 ?_
    simp only [Act.put, List.setIfInBounds_toArray, List.set_cons_succ, List.set_cons_zero]
    refine held_take 6 (v := ?tv5) rfl (by kernel_rfl) (by kernel_rfl) (by kernel_rfl) (fun _ _ _ h => h) (.inl ⟨rfl, ?ty5⟩) hS0 ?tr5
    case ty5 => (intro _ _; go_simp; try with_reducible rfl)
    case tr5 =>
    simp only [Act.put, List.setIfInBounds_toArray, List.set_cons_succ, List.set_cons_zero]
    have eD : Ext wr wr.drew := (Ext.refl wr).drew
    generalize wr.drew = wD at *
    refine wpAnyH_done (by kernel_rfl) ?_ _
    clear hS0 hCx HCC C
    go_wp2_with fail
    obtain ⟨C, hC⟩ : ∃ C : World → Prop, C = fun w' => Ext wD w' := ⟨_, rfl⟩
    have hC0 : ∀ w', C w' ↔ Ext wD w' := fun w' => by rw [hC]
    clear hC
    have HCC := hid hC0
    clear hC0
    have hCx : ∀ w w', C w → Ext w w' → C w' := fun w w' h1 h2 => (HCC.out w').2 (((HCC.out w).1 h1).ext h2)
    refine wp_region_held_drew (S := C) (by kernel_rfl) ((HCC.out _).2 (Ext.refl wD).drew) (fun hS0 => ?_)
    have hw1 : IntKind.i64.wrap ((m : Int) + 1) = ((m + 1 : Nat) : Int) := by rw [IntWalk.i64_in _ (by omega)]; omega
    have hm1 : m + 1 ≤ s.size := by omega
    generalize m + 1 = m1 at *
    refine held_take 0 (v := ?tv6) rfl (by kernel_rfl) (by kernel_rfl) (by kernel_rfl) (fun _ _ _ h => h) (.inl ⟨rfl, ?ty6⟩) hS0 ?tr6
    case ty6 => (intro _ _; go_simp; try with_reducible rfl)
    case tr6 =>
    simp only [Act.put, List.setIfInBounds_toArray, List.set_cons_succ, List.set_cons_zero]
    refine held_take 1 (v := ?tv7) rfl (by kernel_rfl) (by kernel_rfl) (by kernel_rfl) (fun _ _ _ h => h) (.inl ⟨rfl, ?ty7⟩) hS0 ?tr7
    case ty7 => (intro _ _; go_simp; try with_reducible rfl)
    case tr7 =>
    simp only [Act.put, List.setIfInBounds_toArray, List.set_cons_succ, List.set_cons_zero]
    refine held_take 2 (v := ?tv8) rfl (by kernel_rfl) (by kernel_rfl) (by kernel_rfl) (fun _ _ _ h => h) (.inl ⟨rfl, ?ty8⟩) hS0 ?tr8
    case ty8 => (intro _ _; go_simp; try with_reducible rfl)
    case tr8 =>
    simp only [Act.put, List.setIfInBounds_toArray, List.set_cons_succ, List.set_cons_zero]
    refine held_take 3 (v := _) rfl (by kernel_rfl) (by kernel_rfl) (by kernel_rfl) (fun _ _ _ h => h) (yieldsI_run rfl (fun w1 _ => exec_strFrom (i := m1) rfl rfl rfl hm1 w1)) hS0 ?_
    simp only [Act.put, List.setIfInBounds_toArray, List.set_cons_succ, List.set_cons_zero]
    refine held_take 4 (v := ?tv9) rfl (by kernel_rfl) (by kernel_rfl) (by kernel_rfl) (fun _ _ _ h => h) (.inl ⟨rfl, ?ty9⟩) hS0 ?tr9
    case ty9 => (intro _ _; go_simp; try with_reducible rfl)
    case tr9 =>
    simp only [Act.put, List.setIfInBounds_toArray, List.set_cons_succ, List.set_cons_zero]
    refine held_take 5 (v := ?tv10) rfl (by kernel_rfl) (by kernel_rfl) (by kernel_rfl) (fun _ _ _ h => h) (.inl ⟨rfl, ?ty10⟩) hS0 ?tr10
    case ty10 => (intro _ _; go_simp; try with_reducible rfl)
    case tr10 =>
    simp only [Act.put, List.setIfInBounds_toArray, List.set_cons_succ, List.set_cons_zero]
    refine held_take 6 (v := _) rfl (by kernel_rfl) (by kernel_rfl) (by kernel_rfl) (fun _ _ _ h => h) (yieldsI_run rfl (fun w1 _ => exec_strAt rfl rfl rfl hia w1)) hS0 ?_
    simp only [Act.put, List.setIfInBounds_toArray, List.set_cons_succ, List.set_cons_zero]
    clear hw1
    generalize wD.drew = wE at *
    refine held_one (i := 7) (by kernel_rfl) rfl ?_
    intro Q' hQ
    go_wp2_with fail
    refine (hix.out m1 s.size _).mono ?_
    rintro e wF ⟨rfl, rfl⟩
    go_wp2_with fail
    refine hQ _ _ hS0 ?_
    clear hQ Q'
    try dsimp only
    try simp only [Act.put, List.setIfInBounds_toArray, List.set_cons_succ, List.set_cons_zero]
    rw [hno.out]
    refine held_take 8 (v := ?tv11) rfl (by kernel_rfl) (by kernel_rfl) (by kernel_rfl) (fun _ _ _ h => h) (.inl ⟨rfl, ?ty11⟩) hS0 ?tr11
    case ty11 => (intro _ _; go_simp; try with_reducible rfl)
    case tr11 =>
    simp only [Act.put, List.setIfInBounds_toArray, List.set_cons_succ, List.set_cons_zero]
    refine wpAnyH_done (by kernel_rfl) ?_ _
    have EE := hid (eD.ext ((HCC.out _).1 hS0))
    clear hS0 hCx HCC C
    go_wp2_with fail
    rw [Exit.noGoto_ret]
    go_wp2_with fail
    rw [Exit.noGoto_ret]
    go_ret
    exact ⟨rfl, EE.out⟩
end

section
open Go Go.RowKit

theorem nameOct_high {c : UInt8} (h : 128 ≤ c.toNat) : nameOct c = false := by
  unfold nameOct
  simp
  omega
theorem runeOk_low {r : Nat} (h : r < 128) : runeOk r = nameOct (UInt8.ofNat r) := by
  unfold runeOk
  rw [decide_eq_true h, Bool.true_and]
theorem runeOk_high {r : Nat} (h : 128 ≤ r) : runeOk r = false := by
  unfold runeOk
  rw [decide_eq_false (by omega), Bool.false_and]
theorem runeOk_oct (c : UInt8) (h : c.toNat < 128) : runeOk c.toNat = nameOct c := by
  rw [runeOk_low h, UInt8.ofNat_toNat]

set_option maxRecDepth 100000 in
set_option maxHeartbeats 1000000 in
theorem indexRune_c (r : Nat) (w : World) (h : r ≤ 1114111) :
    Calls Tryz.prog 116 #[.string alpha, .int .i32 (r : Int)] w fun e w' => ∃ z : Int, e = .returned (.int .i64 z) ∧ decide (0 ≤ z) = runeOk r ∧ Ext w w' := by
  by_cases h1 : r < 128
  · refine (indexRune_low r w h1).mono ?_
    rintro e w' ⟨rfl, rfl⟩
    refine ⟨_, rfl, ?_, Ext.refl _⟩
    rw [firstIdx_nonneg, runeOk_low h1]
    have := alpha_any ⟨r, by omega⟩
    exact this
  · by_cases h2 : r = 65533
    · subst h2
      refine (indexRune_err w).mono ?_
      rintro e w' ⟨rfl, e1⟩
      exact ⟨_, rfl, by rw [runeOk_high (by omega)]; rfl, e1⟩
    · by_cases h3 : 55296 ≤ r ∧ r ≤ 57343
      · refine (indexRune_bad r w h3.1 h3.2).mono ?_
        rintro e w' ⟨rfl, rfl⟩
        exact ⟨_, rfl, by rw [runeOk_high (by omega)]; rfl, Ext.refl _⟩
      · refine (indexRune_high r w (by omega) h (by omega) h2).mono ?_
        rintro e w' ⟨rfl, e1⟩
        exact ⟨_, rfl, by rw [runeOk_high (by omega)]; rfl, e1⟩

set_option maxRecDepth 100000 in
set_option maxHeartbeats 1000000 in
theorem containsRune_c (r : Nat) (w : World) (h : r ≤ 1114111) :
    Calls Tryz.prog 91 #[.string alpha, .int .i32 (r : Int)] w fun e w' => e = .returned (.bool (runeOk r)) ∧ Ext w w' := by
  have hi := hid (fun w' => indexRune_c r w' h)
  generalize runeOk r = R at *
  generalize alpha = s at *
  go_enter Tryz.func91, Tryz.ntmps91
  go_wp2_with fail
  refine (hi.out w).mono ?_
  rintro e w1 ⟨z, rfl, hz, e1⟩
  have E1 := hid e1
  clear e1 hi
  go_wp2_with fail
  go_ret
  exact ⟨by first | rfl | rw [hz], E1.out⟩

set_option maxRecDepth 100000 in
set_option maxHeartbeats 1000000 in
theorem notName_rune (r : Nat) (w : World) (h : r ≤ 1114111) :
    Calls Tryz.prog 90 #[.int .i32 (r : Int)] w fun e w' => e = .returned (.bool (!runeOk r)) ∧ Ext w w' := by
  have hi := hid (fun w' => containsRune_c r w' h)
  generalize runeOk r = R at *
  go_enter Tryz.func90, Tryz.ntmps90
  go_wp2_with fail
  refine (hi.out w).mono ?_
  rintro e w1 ⟨rfl, e1⟩
  have E1 := hid e1
  clear e1 hi
  go_wp2_with fail
  go_ret
  exact ⟨rfl, E1.out⟩

def predV : Value := .func (.func 90) #[] #[]

set_option maxRecDepth 100000 in
set_option maxHeartbeats 2000000 in
theorem indexFunc_c (s : ByteArray) (w : World) :
    Calls Tryz.prog 134 #[.string s, predV, .bool true] w fun e w' => ∃ z : Int, e = .returned (.int .i64 z) ∧ decide (0 ≤ z) = !(s.data.toList.all nameOct) ∧ Ext w w' := by
  obtain ⟨N, hN⟩ : ∃ N, s.size = N := ⟨_, rfl⟩
  have hll : s.data.toList.length = N := by rw [← hN, Array.length_toList]; rfl
  have HLL := hid hll
  have HN := hid hN
  clear hll hN
  unfold predV
  go_enter Tryz.func134, Tryz.ntmps134
  go_wp2
  go_loopg [] N (fun gf wx => ∃ pos : Nat, wx.heap[w.heap.size]? = some (.stringIter s pos) ∧ Below w.heap.size w wx ∧ Hid ((s.data.toList.take pos).all nameOct = true) ∧ N ≤ pos + gf)
  case atStart => exact ⟨0, World.iter_heap w s 0, (Below.refl _ w).alloc (Nat.le_refl _) _, hid (by simp), by omega⟩
  case round =>
    obtain ⟨pos, hit, hbw, hall, hfu⟩ := hrel
    by_cases hps : pos < s.size
    · have hpN : pos < N := by rw [← HN.out]; exact hps
      obtain ⟨g', rfl⟩ : ∃ g', gk = g' + 1 := ⟨gk - 1, by omega⟩
      have hnx : ∀ ty, (Instr.next (.pointer (some ⟨w.heap.size, 0, none⟩)) true ty).run Tryz.prog wr = _ := fun ty => Lib.run_next_any_at wr w.heap.size s pos ty hit hps
      have hrl := Lib.rune_le s pos
      have hc : s.data.toList[pos]? = some (s[pos]'hps) := by rw [Array.getElem?_toList]; exact Array.getElem?_eq_getElem hps
      obtain ⟨R, hR⟩ : ∃ R, (Utf8.decode s pos).1 = R := ⟨_, rfl⟩
      obtain ⟨K, hK⟩ : ∃ K, (Utf8.decode s pos).2 = K := ⟨_, rfl⟩
      have hok : runeOk R = nameOct (s[pos]'hps) ∧ (nameOct (s[pos]'hps) = true → K = 1) := by
        by_cases hb : (s[pos]'hps).toNat < 128
        · have hdec := decode_ascii s pos hps hb
          rw [hdec] at hR hK
          simp only at hR hK
          rw [← hR]
          exact ⟨runeOk_oct _ hb, fun _ => hK.symm⟩
        · have hh := (decode_high s pos hps (by omega)).1
          rw [hR] at hh
          refine ⟨by rw [runeOk_high hh, nameOct_high (by omega)], fun h => ?_⟩
          rw [nameOct_high (by omega)] at h; cases h
      rw [hR] at hnx hrl
      rw [hK] at hnx
      obtain ⟨b, hb⟩ : ∃ b, (s[pos]'hps) = b := ⟨_, rfl⟩
      rw [hb] at hok hc
      obtain ⟨hok1, hok2⟩ := hok
      have hit2 := Lib.iterAt_heap wr w.heap.size s pos (pos + K) hit
      have hbw2 := Lib.below_iterAt hbw (k := w.heap.size) (Nat.le_refl _) s (pos + K)
      have HIT := hid hit2
      have HBW := hid hbw2
      have hcl := hid (fun w' => notName_rune R w' hrl)
      have HC := hid hc
      generalize wr.iterAt w.heap.size s (pos + K) = wX at *
      have hgt : w.heap.size < wX.heap.size := (Array.getElem?_eq_some_iff.1 HIT.out).1
      cases hnm : nameOct b with
      | true =>
        rw [hnm] at hok1
        have hK1 := hok2 hnm
        subst hK1
        rw [hok1] at hcl
        have hst : (s.data.toList.take (pos + 1)).all nameOct = true := by
          rw [List.take_add_one, HC.out, List.all_append, hall.out]; simp [hnm]
        have HST := hid hst
        clear hit hbw hit2 hbw2 hR hK hok1 hok2 hc hst hb hrl
        go_wp2_with fail
        refine (hcl.out wX).mono ?_
        rintro e wY ⟨rfl, eY⟩
        have hit3 : wY.heap[w.heap.size]? = some (.stringIter s (pos + 1)) := by rw [eY.block _ hgt]; exact HIT.out
        have HIT3 := hid hit3
        have HBW3 := hid (HBW.out.trans (eY.mono HBW.out.size))
        clear eY hit3 hcl
        go_wp2_with fail
        go_roundg g'
        case measure => omega
        case rel => exact ⟨pos + 1, HIT3.out, HBW3.out, HST, by omega⟩
      | false =>
        rw [hnm] at hok1
        rw [hok1] at hcl
        have hbad : s.data.toList.all nameOct = false := by
          rw [List.all_eq_false]
          exact ⟨b, List.mem_of_getElem? HC.out, by rw [hnm]; simp⟩
        have HBAD := hid hbad
        clear hit hbw hit2 hbw2 hR hK hok1 hok2 hc hbad hb hrl
        go_wp2_with fail
        refine (hcl.out wX).mono ?_
        rintro e wY ⟨rfl, eY⟩
        have HBW3 := hid (HBW.out.trans (eY.mono HBW.out.size))
        clear eY hcl
        go_wp2_with fail
        go_ret
        exact ⟨_, rfl, by rw [HBAD.out]; exact decide_eq_true (by omega), HBW3.out⟩
    · have hnx : ∀ ty, (Instr.next (.pointer (some ⟨w.heap.size, 0, none⟩)) true ty).run Tryz.prog wr = _ := fun ty => Lib.run_next_end_at wr w.heap.size s pos ty hit hps
      have hfull : s.data.toList.take pos = s.data.toList := List.take_of_length_le (by rw [HLL.out]; have := HN.out; omega)
      have hall2 := hall.out
      rw [hfull] at hall2
      have HALL := hid hall2
      have HBW := hid hbw
      clear hit hbw hall hall2 hfull
      go_wp2_with fail
      go_ret
      exact ⟨_, rfl, by rw [HALL.out]; rfl, HBW.out⟩
end

section
open Go Go.RowKit

set_option maxRecDepth 100000 in
set_option maxHeartbeats 1000000 in
theorem containsFunc_c (s : ByteArray) (w : World) :
    Calls Tryz.prog 89 #[.string s, predV] w fun e w' => e = .returned (.bool (!(s.data.toList.all nameOct))) ∧ Ext w w' := by
  have hi := hid (fun w' => indexFunc_c s w')
  generalize s.data.toList.all nameOct = b at *
  generalize predV = pv at *
  have hj : Hid (∀ w, Calls Tryz.prog 115 #[.string s, pv] w fun e w' => ∃ z : Int, e = .returned (.int .i64 z) ∧ decide (0 ≤ z) = (!b) ∧ Ext w w') := by
    refine hid fun w => ?_
    go_enter Tryz.func115, Tryz.ntmps115
    go_wp2_with fail
    refine (hi.out w).mono ?_
    rintro e w1 ⟨z, rfl, hz, e1⟩
    have E1 := hid e1
    have HZ := hid hz
    clear e1 hi hz
    go_wp2_with fail
    go_ret
    exact ⟨z, rfl, HZ.out, E1.out⟩
  clear hi
  go_enter Tryz.func89, Tryz.ntmps89
  go_wp2_with fail
  refine (hj.out w).mono ?_
  rintro e w1 ⟨z, rfl, hz, e1⟩
  have E1 := hid e1
  clear e1 hj
  go_wp2_with fail
  go_ret
  exact ⟨by first | rfl | rw [hz], E1.out⟩

set_option maxRecDepth 100000 in
set_option maxHeartbeats 1000000 in
theorem risName_c (s : ByteArray) (w : World) (hn : s.size ≤ 9223372036854775807) :
    Calls Tryz.prog 52 #[.string s] w fun e w' => e = .returned (.bool (isNameL s.data.toList)) ∧ Ext w w' := by
  have hc := hid (fun w' => containsFunc_c s w')
  obtain ⟨n, hsn⟩ : ∃ n, s.size = n := ⟨_, rfl⟩
  have hll : s.data.toList.length = n := by rw [← hsn, Array.length_toList]; rfl
  obtain ⟨R, hR⟩ : ∃ R, isNameL s.data.toList = R := ⟨_, rfl⟩
  rw [hR]
  unfold isNameL at hR
  have hem : s.data.toList.isEmpty = decide (n = 0) := by
    rw [Bool.eq_iff_iff, List.isEmpty_iff, decide_eq_true_eq, ← hll, List.length_eq_zero_iff]
  have hse : s = ByteArray.empty ↔ n = 0 := by
    constructor
    · rintro rfl; rw [← hsn]; rfl
    · intro h
      have : s.data.toList = [] := List.length_eq_zero_iff.1 (by rw [hll]; exact h)
      cases s with
      | mk d => cases d with
        | mk l => simp at this; subst this; rfl
  rw [hem, hll] at hR
  generalize s.data.toList.all nameOct = b at *
  by_cases h0 : n = 0
  · have hs := hse.2 h0
    subst hs
    subst h0
    simp at hR
    subst hR
    clear hc hse hem hll hsn
    go_enter Tryz.func52, Tryz.ntmps52
    go_wp2
    go_ret
    exact ⟨rfl, Ext.refl _⟩
  · have hsne : ¬ s = ByteArray.empty := fun h => h0 (hse.1 h)
    have hne1 : s.toList.isEmpty = false := by
      have := decide_eq_emptyBytes s
      rw [decide_eq_false hsne] at this
      exact this.symm
    have hne2 : ¬ s.toList = [] := by
      intro h
      rw [h] at hne1
      cases hne1
    rw [decide_eq_false h0] at hR
    by_cases h32 : n ≤ 32
    · have g1 : decide ((n : Int) ≤ 32) = true := decide_eq_true (by omega)
      have g2 : decide (n ≤ 32) = true := decide_eq_true h32
      rw [g2] at hR
      simp at hR
      subst hR
      clear hse hem hll
      unfold predV at hc
      go_enter Tryz.func52, Tryz.ntmps52
      go_wp2_with fail
      refine (hc.out w).mono ?_
      rintro e w1 ⟨rfl, e1⟩
      have E1 := hid e1
      clear e1 hc
      go_wp2_with fail
      go_ret
      exact ⟨by first | rfl | simp, E1.out⟩
    · have g1 : decide ((n : Int) ≤ 32) = false := decide_eq_false (by omega)
      have g2 : decide (n ≤ 32) = false := decide_eq_false h32
      rw [g2] at hR
      simp at hR
      subst hR
      clear hc hse hem hll
      go_enter Tryz.func52, Tryz.ntmps52
      go_wp2
      go_ret
      exact ⟨rfl, Ext.refl _⟩
end

section
open Go Go.RowKit

def hexd (n : Nat) : UInt8 := if n < 10 then UInt8.ofNat (48 + n) else UInt8.ofNat (87 + n)
def hex2 (b : UInt8) : List UInt8 := [hexd (b.toNat / 16), hexd (b.toNat % 16)]
def hexL (l : List UInt8) : List UInt8 := l.flatMap hex2
theorem hexL_length (l : List UInt8) : (hexL l).length = 2 * l.length := by
  induction l with
  | nil => rfl
  | cons x l ih => simp only [hexL, List.flatMap_cons, List.length_append, List.length_cons] at *; rw [ih]; simp [hex2]; omega
theorem hexL_snoc (l : List UInt8) (k : Nat) (h : k < l.length) : hexL (l.take (k + 1)) = hexL (l.take k) ++ hex2 (l[k]?.getD 0) := by
  rw [List.take_succ_eq_append_getElem h, hexL, List.flatMap_append]
  simp [hexL, h]

def digitsStr : ByteArray := { data := #[48, 49, 50, 51, 52, 53, 54, 55, 56, 57, 97, 98, 99, 100, 101, 102] }
theorem digits_at (k : Nat) (h : k < 16) : digitsStr[k]? = some (hexd k) := by
  have : ∀ k : Fin 16, digitsStr[k.val]? = some (hexd k.val) := by decide
  exact this ⟨k, h⟩
theorem run_digits (k : Nat) (h : k < 16) (w : World) : (Instr.index 9 (.string { data := #[48, 49, 50, 51, 52, 53, 54, 55, 56, 57, 97, 98, 99, 100, 101, 102] }) (.int .u8 (k : Int))).run Tryz.prog w = .ok (.int .u8 ((hexd k).toNat : Nat)) w := by
  have hd := digits_at k h
  unfold digitsStr at hd
  simp [Instr.index, asIntOf, run_underlying Tryz.underlying9, hd]

theorem and15_u8 (b : UInt8) : bits .and .u8 (b.toNat : Int) 15 = (b.toNat : Int) % 16 := by
  have h := b.toNat_lt
  have e : (15 : Int) = ((15 : Nat) : Int) := rfl
  rw [e, (bits_u8 _ 15 h (by omega)).2.2, Nat.and_two_pow_sub_one_eq_mod b.toNat 4]; omega
theorem run_digits2 (b : UInt8) : (∀ w, (Instr.index 9 (.string { data := #[48, 49, 50, 51, 52, 53, 54, 55, 56, 57, 97, 98, 99, 100, 101, 102] }) (.int .u8 ((b.toNat : Int) / 16))).run Tryz.prog w = .ok (.int .u8 ((hexd (b.toNat / 16)).toNat : Nat)) w) ∧
    (∀ w, (Instr.index 9 (.string { data := #[48, 49, 50, 51, 52, 53, 54, 55, 56, 57, 97, 98, 99, 100, 101, 102] }) (.int .u8 ((b.toNat : Int) % 16))).run Tryz.prog w = .ok (.int .u8 ((hexd (b.toNat % 16)).toNat : Nat)) w) ∧
    bits .and .u8 (b.toNat : Int) 15 = (b.toNat : Int) % 16 := by
  have h := b.toNat_lt
  have e1 : (b.toNat : Int) / 16 = ((b.toNat / 16 : Nat) : Int) := by omega
  have e2 : (b.toNat : Int) % 16 = ((b.toNat % 16 : Nat) : Int) := by omega
  rw [and15_u8, e1, e2]
  exact ⟨run_digits _ (by omega), run_digits _ (by omega), rfl⟩

theorem info_u8 : (Tryz.prog.info? 5).map (fun i => (i.zero, i.size, i.bytes)) = some (some (.int .u8 0), 1, 1) := by kernel_rfl

/-- string of octets -/
def strOf (l : List UInt8) : ByteArray := ⟨l.toArray⟩

theorem ints_back (l : List UInt8) : ((l.map fun b => (b.toNat : Int)).map fun n => UInt8.ofNat n.toNat) = l := by
  rw [List.map_map]
  conv => rhs; rw [← List.map_id l]
  apply List.map_congr_left
  intro b _
  simp

theorem run_string_of (w : World) (a : Option Addr) (l : List UInt8) (n c : Nat) (h : Cells w a (l.map u8v)) (hn : n = l.length) :
    (convert 39 9 (.slice a n c)).run Tryz.prog w = .ok (.string (strOf l)) w := by
  subst hn
  have hm : (l.map fun b => (b.toNat : Int)).map (Value.int .u8) = l.map u8v := by
    rw [List.map_map]; rfl
  have main : ∀ x : Addr, (loadCells x l.length).run Tryz.prog w = .ok (l.map u8v).toArray w → (convert 39 9 (.slice (some x) l.length c)).run Tryz.prog w = .ok (.string (strOf l)) w := by
    intro x hl
    rw [run_convert_bytes_string w 39 9 5 (some x) l.length c Tryz.underlying39 Tryz.underlying5 Tryz.underlying9,
      run_bytesToString w x l.length c (l.map fun b => (b.toNat : Int)) (by rw [hm]; exact hl), foldl_push_bytes, ints_back]
    simp [strOf, ByteArray.empty, ByteArray.emptyWithCapacity]
    rfl
  rcases h with h | ⟨b, off, rfl, h⟩
  · have hl : l = [] := by simpa using h
    subst hl
    cases a with
    | none => exact run_convert_bytes_nil w 39 5 Tryz.underlying39 Tryz.underlying5 _ _ _ Tryz.underlying9
    | some x => exact main x (by simpa using run_loadCells_list (P := Tryz.prog) w x [] (by simp))
  · refine main _ ?_
    have := run_loadCells_list (P := Tryz.prog) w ⟨b, off, none⟩ (l.map u8v) (fun j v hj => by
      have hplain : (⟨b, off, none⟩ : Addr).add j = ⟨b, off + j, none⟩ := by unfold Addr.add; split <;> simp_all
      rw [hplain]; exact h j v hj)
    simpa using this

set_option maxRecDepth 100000 in
set_option maxHeartbeats 1000000 in
theorem hex_c (l : List UInt8) (a : Option Addr) (c : Nat) (w : World) (hl : l.length ≤ 140737488351232) (hc : Cells w a (l.map u8v)) :
    Calls Tryz.prog 15 #[.slice a l.length c] w fun e w' => e = .returned (.string (strOf (hexL l))) ∧ Ext w w' := by
  obtain ⟨i0, hi, hz0, hz1, hz2⟩ := info_parts info_u8
  have HC := hid hc
  clear hc
  obtain ⟨n, hn⟩ : ∃ n, l.length = n := ⟨_, rfl⟩
  have HN := hid hn
  rw [hn] at hl ⊢
  clear hn
  go_enter Tryz.func15, Tryz.ntmps15
  go_wp2_with (at_make; refine wpList_make_own _ rfl _ _ 39 rfl w.heap.size 5 i0 (.int .u8 0) 1 Tryz.underlying39 hi hz0 hz1 _ _ _ (2 * n) rfl rfl (by omega) (by rw [hz2]; omega) (by unfold maxLen; omega) (Nat.le_refl _) ?_)
  intro w1 own1 gr1
  have e1 : Ext w w1 := (Ext.refl w).grown gr1 (fun g h => by cases h)
  clear gr1
  go_wp2
  go_loopw [12, 3] (fun x v wr => ∃ k : Nat, k ≤ n ∧ x = .int .i64 k ∧ v = .slice (some ⟨w.heap.size, 0, none⟩) (2 * k) (2 * n) ∧ wr.ownsRow w.heap.size 5 1 v (2 * k) ((hexL (l.take k)).map u8v) ∧ Ext w wr)
    (fun x _ _ => n - (intOf x).toNat)
  case atStart => exact ⟨0, by omega, rfl, rfl, by simpa [hexL] using own1, e1⟩
  case round =>
    obtain ⟨k, hk, rfl, rfl, own, bb⟩ := hrel
    by_cases hlt : k < n
    · obtain ⟨b, off, rfl, hcell⟩ := (HC.out.ext bb).some_of (by rw [List.length_map, HN.out]; omega)
      have hc1 : wr.cell? ⟨b, off + k, none⟩ = some (.int .u8 ((l[k]?.getD 0).toNat : Nat)) := hcell k _ (by simp [u8v, HN.out, hlt])
      clear hcell
      have h8 := u8_lt (l[k]?.getD 0)
      obtain ⟨r1, r2, r3⟩ := run_digits2 (l[k]?.getD 0)
      have hs := hexL_snoc l k (by rw [HN.out]; exact hlt)
      have HS := hid hs
      clear hs
      go_wp2
      go_region_law ((refine step_append_fits rfl _ _ 39 rfl w.heap.size 5 i0 1 Tryz.underlying39 hi hz1 w.heap.size (2 * k) (2 * n) _ rfl (own.alloc _) ⟨wr.heap.size, 0, none⟩ 2 2 ((hex2 (l[k]?.getD 0)).map u8v) rfl rfl (news_blk (T := 5) (Blk.mk_alloc rfl rfl)) (one_u8 _) (by omega) ?_; intro w2 own2 gr2))
      all_goals
        have e2 : Ext w w2 := ((bb.alloc _).drew).grown gr2 (fun g h => by cases h; exact Nat.le_refl _)
        rw [← List.map_append, ← HS.out] at own2
        clear gr2 own bb hc1 r1 r2 r3
        go_wp2
        go_roundw
        case rel => exact ⟨k + 1, by omega, by go_num, by rw [show 2 * (k + 1) = 2 * k + 2 by omega], own2, e2⟩
        case measure => simp [intOf]; omega
    · obtain rfl : k = n := by omega
      have hcs : Cells wr (some ⟨w.heap.size, 0, none⟩) ((hexL l).map u8v) := by
        refine .inr ⟨_, _, rfl, fun i u hu => ?_⟩
        rw [List.take_of_length_le (by rw [HN.out]; omega)] at own
        have h1 := own.cellAt i (by have := (List.getElem?_eq_some_iff.1 hu).1; rw [List.length_map, hexL_length, HN.out] at this; omega)
        rw [Nat.zero_add, h1]; exact hu
      have hst := run_string_of wr _ (hexL l) (2 * k) (2 * k) hcs (by rw [hexL_length, HN.out])
      go_wp2
      go_ret
      exact ⟨rfl, bb⟩

set_option maxHeartbeats 400000 in
theorem landed_c (w : World) : Calls Tryz.prog 5 #[] w fun e w' => e = .returned (.bool true) ∧ Ext w w' := by
  go_enter Tryz.func5, Tryz.ntmps5
  go_wp2_with fail
  refine (hex_c [1] _ _ _ (by simp) (Cells.of_blk0 (T := 5) (Blk.mk_alloc rfl rfl))).mono ?_
  rintro e w1 ⟨rfl, hb⟩
  have h01 : strOf (hexL [1]) = { data := #[48, 49] } := by decide
  rw [h01]
  go_wp2
  go_ret
  exact ⟨rfl, (Ext.alloc (Ext.refl w) _).ext hb⟩
end

section
open Go Go.RowKit

/-- the head of a pattern, and whether a star ends it -/
def headL (l : List UInt8) : List UInt8 := Lib.trimSuffix l [42]
def starL (l : List UInt8) : Bool := Lib.hasSuffix l [42]
def patL (l : List UInt8) : Bool := isNameL (headL l) || (starL l && (headL l).isEmpty)
def fitsL (p l : List UInt8) : Bool := if starL p then Lib.hasPrefix l (headL p) else p == l

theorem notName_p (s : ByteArray) (w : World) (hn : s.size ≤ 140737488355328) :
    Calls Tryz.prog 68 #[.string s] w fun e w' => e = .returned (.bool (!isNameL s.data.toList)) ∧ w = w' := by
  have hc := hid (fun w' => isName_c s w' hn)
  generalize isNameL s.data.toList = b at *
  clear hn
  go_enter Tryz.func68, Tryz.ntmps68
  go_wp2_with fail
  refine (hc.out w).mono ?_
  rintro e w1 ⟨rfl, rfl⟩
  go_wp2_with fail
  go_ret
  exact ⟨rfl, rfl⟩

theorem trim_size (s : ByteArray) : (⟨(headL s.data.toList).toArray⟩ : ByteArray).size ≤ s.size := by
  show (headL s.data.toList).toArray.size ≤ s.size
  rw [List.size_toArray, Lib.size_eq]
  unfold headL Lib.trimSuffix
  split
  · rw [List.length_take]; omega
  · exact Nat.le_refl _
theorem empty_toList (H : ByteArray) : H.toList.isEmpty = H.data.toList.isEmpty := by rw [Lib.toList_data]

set_option maxRecDepth 100000 in
set_option maxHeartbeats 1000000 in
theorem isPattern_c (s : ByteArray) (w : World) (hn : s.size ≤ 140737488355328) :
    Calls Tryz.prog 72 #[.string s] w fun e w' => e = .returned (.bool (patL s.data.toList)) ∧ w = w' := by
  have hcut := hid (fun w' => cutSuffix_c s ⟨#[42]⟩ w' (by omega))
  have hts := trim_size s
  obtain ⟨H, hH⟩ : ∃ H : ByteArray, (⟨(headL s.data.toList).toArray⟩ : ByteArray) = H := ⟨_, rfl⟩
  have hH2 : H = ⟨(Lib.trimSuffix s.data.toList [42]).toArray⟩ := hH.symm
  have hcut2 : Hid (∀ w', Calls Tryz.prog 93 #[.string s, .string ⟨#[42]⟩] w' fun e w'' => e = .returned (.tuple #[.string H, .bool (starL s.data.toList)]) ∧ w'' = w') := by
    rw [hH2]; exact hcut
  rw [hH] at hts
  have hnm := hid (fun w' => isName_c H w' (by omega))
  have hh : headL s.data.toList = H.data.toList := by rw [← hH]
  unfold patL
  rw [hh]
  have HEM := hid (empty_toList H)
  clear hcut hH hH2 hh hts hn
  generalize starL s.data.toList = st at *
  generalize isNameL H.data.toList = nm at *
  cases nm with
  | true =>
    go_enter Tryz.func72, Tryz.ntmps72
    go_wp2_with fail
    refine (hcut2.out w).mono ?_
    rintro e w1 ⟨rfl, rfl⟩
    go_wp2_with fail
    refine (hnm.out _).mono ?_
    rintro e w2 ⟨rfl, rfl⟩
    go_wp2_with fail
    go_ret
    exact ⟨rfl, rfl⟩
  | false =>
    cases st with
    | false =>
      go_enter Tryz.func72, Tryz.ntmps72
      go_wp2_with fail
      refine (hcut2.out w).mono ?_
      rintro e w1 ⟨rfl, rfl⟩
      go_wp2_with fail
      refine (hnm.out _).mono ?_
      rintro e w2 ⟨rfl, rfl⟩
      go_wp2_with fail
      go_ret
      exact ⟨rfl, rfl⟩
    | true =>
      go_enter Tryz.func72, Tryz.ntmps72
      go_wp2_with fail
      refine (hcut2.out w).mono ?_
      rintro e w1 ⟨rfl, rfl⟩
      go_wp2_with fail
      refine (hnm.out _).mono ?_
      rintro e w2 ⟨rfl, rfl⟩
      go_wp2_with fail
      go_ret
      exact ⟨by show Ending.returned (Value.bool H.toList.isEmpty) = Ending.returned (Value.bool H.data.toList.isEmpty); rw [HEM.out], rfl⟩

/-- the law's own test of a pattern -/
def pat2L (l : List UInt8) : Bool := l == [42] || (isNameL (headL l) && decide (Lib.countByte l 42 ≤ 1))

theorem mem_name {l : List UInt8} (h : isNameL l = true) : ∀ c ∈ l, nameOct c = true := by
  unfold isNameL at h
  simp only [Bool.and_eq_true] at h
  exact List.all_eq_true.1 h.1.1
theorem count_name {l : List UInt8} (h : isNameL l = true) : l.count 42 = 0 := by
  rw [List.count_eq_zero]
  intro hm
  have := mem_name h 42 hm
  revert this
  decide

/-- the two tests of a pattern are one -/
theorem pat_eq (l : List UInt8) : pat2L l = patL l := by
  cases hs : Lib.hasSuffix l [42] with
  | false =>
    have hh : headL l = l := by unfold headL Lib.trimSuffix; rw [if_neg (by rw [hs]; simp)]
    have h0 : (l == [42]) = false := by
      cases h : l == [42] with
      | false => rfl
      | true => rw [beq_iff_eq.1 h] at hs; revert hs; decide
    unfold pat2L patL starL Lib.countByte
    rw [hh, h0, hs]
    cases hn : isNameL l with
    | false => rfl
    | true => rw [count_name hn]; rfl
  | true =>
    obtain ⟨t, ht⟩ : ∃ t, t ++ [42] = l := List.isSuffixOf_iff_suffix.1 hs
    have hh : headL l = t := by unfold headL Lib.trimSuffix; rw [if_pos hs, ← ht]; simp
    unfold pat2L patL starL Lib.countByte
    rw [hh, hs, ← ht]
    cases htn : t.isEmpty with
    | true =>
      rw [List.isEmpty_iff] at htn
      subst htn
      decide
    | false =>
      have h0 : (t ++ [42] == [42]) = false := by
        cases t with
        | nil => simp at htn
        | cons a t => cases t <;> simp
      rw [h0]
      cases hn : isNameL t with
      | false => rfl
      | true => rw [List.count_append, count_name hn]; rfl
end

section
open Go Go.RowKit

theorem enters_ofU {P : Program} {f : FuncId} {fn : Func} {c : Code} (hf : P.funcs[f]? = some fn) (hname : (fn.name == "runtime.NumGoroutine") = false) (hb : fn.body = some c) : ∀ args w, (callFunc f args).run P w = .ok (.enter f args) w := by
  intro args w
  have h1 : fn.name ≠ "runtime.NumGoroutine" := by simpa using hname
  simp [callFunc, hf, h1, hb, mark]

theorem outsideP_c (n a b : Int) (w : World) :
    Calls Tryz.prog 75 #[.int .i64 n, .int .i64 a, .int .i64 b] w fun e w' => e = .returned (.bool (decide (n < a) || decide (b < n))) ∧ w = w' := by
  by_cases h : n < a
  · have d1 : decide (n < a) = true := decide_eq_true h
    go_enter Tryz.func75, Tryz.ntmps75
    go_wp2
    go_ret
    exact ⟨by first | rfl | (rw [d1]; rfl), rfl⟩
  · have d1 : decide (n < a) = false := decide_eq_false h
    go_enter Tryz.func75, Tryz.ntmps75
    go_wp2
    go_ret
    exact ⟨by first | rfl | (rw [d1]; rfl), rfl⟩
def actB (n : Int) : Bool := decide (1 ≤ n) && decide (n ≤ 12)
theorem isAct_c (n : Int) (w : World) :
    Calls Tryz.prog 70 #[.int .i64 n] w fun e w' => e = .returned (.bool (actB n)) ∧ w = w' := by
  unfold actB
  by_cases h : 1 ≤ n
  · have d1 : decide (1 ≤ n) = true := decide_eq_true h
    go_enter Tryz.func70, Tryz.ntmps70
    go_wp2
    go_ret
    exact ⟨by first | rfl | (rw [d1]; rfl), rfl⟩
  · have d1 : decide (1 ≤ n) = false := decide_eq_false h
    go_enter Tryz.func70, Tryz.ntmps70
    go_wp2
    go_ret
    exact ⟨by first | rfl | (rw [d1]; rfl), rfl⟩
theorem fault1_c (n : Int) (w : World) :
    Calls Tryz.prog 69 #[.int .i64 n] w fun e w' => e = .returned (.bool (!actB n)) ∧ w = w' := by
  have h := hid (isAct_c n w)
  generalize actB n = b at *
  go_enter Tryz.func69, Tryz.ntmps69
  go_wp2_with fail
  refine h.out.mono ?_
  rintro e w1 ⟨rfl, rfl⟩
  go_wp2_with fail
  go_ret
  exact ⟨rfl, rfl⟩
theorem fault2_c (s : ByteArray) (w : World) (hn : s.size ≤ 140737488355328) :
    Calls Tryz.prog 71 #[.string s] w fun e w' => e = .returned (.bool (!patL s.data.toList)) ∧ w = w' := by
  have h := hid (isPattern_c s w hn)
  generalize patL s.data.toList = b at *
  go_enter Tryz.func71, Tryz.ntmps71
  go_wp2_with fail
  refine h.out.mono ?_
  rintro e w1 ⟨rfl, rfl⟩
  go_wp2_with fail
  go_ret
  exact ⟨rfl, rfl⟩

theorem rule1_c (s : ByteArray) (w : World) (hn : s.size ≤ 140737488355328) :
    Calls Tryz.prog 51 #[.string s] w fun e w' => e = .returned (.bool (!isNameL s.data.toList)) ∧ Ext w w' := by
  have h := hid (risName_c s w (by omega))
  generalize isNameL s.data.toList = b at *
  go_enter Tryz.func51, Tryz.ntmps51
  go_wp2_with fail
  refine h.out.mono ?_
  rintro e w1 ⟨rfl, e1⟩
  have E1 := hid e1
  clear e1 h
  go_wp2_with fail
  go_ret
  exact ⟨rfl, E1.out⟩
theorem rule2_c (n : Int) (w : World) :
    Calls Tryz.prog 54 #[.int .i64 n] w fun e w' => e = .returned (.bool (!actB n)) ∧ w = w' := by
  by_cases h : n < 1
  · have d1 : decide (n < 1) = true := decide_eq_true h
    have hr : (!actB n) = true := by unfold actB; rw [decide_eq_false (show ¬ 1 ≤ n by omega)]; rfl
    rw [hr]
    clear hr
    go_enter Tryz.func54, Tryz.ntmps54
    go_wp2
    go_ret
    exact ⟨by first | rfl | (rw [d1]; rfl), rfl⟩
  · have d1 : decide (n < 1) = false := decide_eq_false h
    have hr : (!actB n) = decide (12 < n) := by
      unfold actB; rw [decide_eq_true (show 1 ≤ n by omega), Bool.true_and, ← decide_not]; congr 1; simp only [Int.not_le]
    rw [hr]
    clear hr
    go_enter Tryz.func54, Tryz.ntmps54
    go_wp2
    go_ret
    exact ⟨by first | rfl | (rw [d1]; rfl), rfl⟩

set_option maxRecDepth 100000 in
set_option maxHeartbeats 1000000 in
theorem rpattern_c (s : ByteArray) (w : World) (hn : s.size ≤ 140737488355328) :
    Calls Tryz.prog 56 #[.string s] w fun e w' => e = .returned (.bool (patL s.data.toList)) ∧ Ext w w' := by
  have hcut := hid (fun w' => cutSuffix_c s ⟨#[42]⟩ w' (by omega))
  have hts := trim_size s
  obtain ⟨H, hH⟩ : ∃ H : ByteArray, (⟨(headL s.data.toList).toArray⟩ : ByteArray) = H := ⟨_, rfl⟩
  have hH2 : H = ⟨(Lib.trimSuffix s.data.toList [42]).toArray⟩ := hH.symm
  have hcut2 : Hid (∀ w', Calls Tryz.prog 93 #[.string s, .string ⟨#[42]⟩] w' fun e w'' => e = .returned (.tuple #[.string H, .bool (starL s.data.toList)]) ∧ w'' = w') := by
    rw [hH2]; exact hcut
  rw [hH] at hts
  have hnm := hid (fun w' => risName_c H w' (by omega))
  have hh : headL s.data.toList = H.data.toList := by rw [← hH]
  unfold patL
  rw [hh]
  have HEM := hid (empty_toList H)
  clear hcut hH hH2 hh hts hn
  generalize starL s.data.toList = st at *
  generalize isNameL H.data.toList = nm at *
  cases nm with
  | true =>
    go_enter Tryz.func56, Tryz.ntmps56
    go_wp2_with fail
    refine (hcut2.out w).mono ?_
    rintro e w1 ⟨rfl, rfl⟩
    go_wp2_with fail
    refine (hnm.out _).mono ?_
    rintro e w2 ⟨rfl, e2⟩
    have E2 := hid e2
    clear e2
    go_wp2_with fail
    go_ret
    exact ⟨rfl, E2.out⟩
  | false =>
    cases st with
    | false =>
      go_enter Tryz.func56, Tryz.ntmps56
      go_wp2_with fail
      refine (hcut2.out w).mono ?_
      rintro e w1 ⟨rfl, rfl⟩
      go_wp2_with fail
      refine (hnm.out _).mono ?_
      rintro e w2 ⟨rfl, e2⟩
      have E2 := hid e2
      clear e2
      go_wp2_with fail
      go_ret
      exact ⟨rfl, E2.out⟩
    | true =>
      go_enter Tryz.func56, Tryz.ntmps56
      go_wp2_with fail
      refine (hcut2.out w).mono ?_
      rintro e w1 ⟨rfl, rfl⟩
      go_wp2_with fail
      refine (hnm.out _).mono ?_
      rintro e w2 ⟨rfl, e2⟩
      have E2 := hid e2
      clear e2
      go_wp2_with fail
      go_ret
      exact ⟨by show Ending.returned (Value.bool H.toList.isEmpty) = Ending.returned (Value.bool H.data.toList.isEmpty); rw [HEM.out], E2.out⟩
theorem rule3_c (s : ByteArray) (w : World) (hn : s.size ≤ 140737488355328) :
    Calls Tryz.prog 55 #[.string s] w fun e w' => e = .returned (.bool (!patL s.data.toList)) ∧ Ext w w' := by
  have h := hid (rpattern_c s w hn)
  generalize patL s.data.toList = b at *
  go_enter Tryz.func55, Tryz.ntmps55
  go_wp2_with fail
  refine h.out.mono ?_
  rintro e w1 ⟨rfl, e1⟩
  have E1 := hid e1
  clear e1 h
  go_wp2_with fail
  go_ret
  exact ⟨rfl, E1.out⟩
end

section
open Go Go.RowKit Go.Maps Go.MapKept Go.WideShapes

structure RuleR where
  deny : Bool
  ra : Option Addr
  rn : Nat
  rc : Nat
  roles : List ByteArray
  aa : Option Addr
  an : Nat
  ac : Nat
  acts : List Int
  la : Option Addr
  ln : Nat
  lc : Nat
  labels : List ByteArray
  fr : Int
  tt : Int
  nd : Int
  ow : ByteArray
def RuleR.v (r : RuleR) : List Value := [.bool r.deny, .slice r.ra r.rn r.rc, .slice r.aa r.an r.ac, .slice r.la r.ln r.lc, .int .i64 r.fr, .int .i64 r.tt, .int .i64 r.nd, .string r.ow]
structure RuleR.Ok (w : World) (r : RuleR) : Prop where
  rl : r.roles.length = r.rn
  rnc : r.rn ≤ r.rc
  rm : r.rn ≤ 140737488355328
  rcell : Cells w r.ra (r.roles.map encStr)
  rs : ∀ s ∈ r.roles, s.size ≤ 140737488355328
  al : r.acts.length = r.an
  anc : r.an ≤ r.ac
  am : r.an ≤ 140737488355328
  acell : Cells w r.aa (r.acts.map encI)
  awf : ∀ z ∈ r.acts, (Lit.int .i64 z).wf = true
  ll : r.labels.length = r.ln
  lnc : r.ln ≤ r.lc
  lm : r.ln ≤ 140737488355328
  lcell : Cells w r.la (r.labels.map encStr)
  ls : ∀ s ∈ r.labels, s.size ≤ 140737488355328
  os : r.ow.size ≤ 140737488355328
theorem RuleR.Ok.ext {w w' : World} {r : RuleR} (h : r.Ok w) (e : Ext w w') : r.Ok w' :=
  ⟨h.rl, h.rnc, h.rm, h.rcell.ext e, h.rs, h.al, h.anc, h.am, h.acell.ext e, h.awf, h.ll, h.lnc, h.lm, h.lcell.ext e, h.ls, h.os⟩
theorem RuleR.len (r : RuleR) : r.v.length = 8 := rfl
theorem keysS {ls : List ByteArray} (h : ∀ s ∈ ls, s.size ≤ 140737488355328) : Keys Tryz.prog 9 (ls.map encStr) := fun v hv => by
  obtain ⟨s, hs, rfl⟩ := List.mem_map.1 hv
  exact ⟨_, WideMaps.keyOf_string_mk Tryz.underlying9 (by have := h s hs; unfold maxLen; omega)⟩
theorem keysI {ls : List Int} (h : ∀ z ∈ ls, (Lit.int .i64 z).wf = true) : Keys Tryz.prog 3 (ls.map encI) := fun v hv => by
  obtain ⟨s, hs, rfl⟩ := List.mem_map.1 hv
  exact ⟨_, keyOf_int_mk Tryz.underlying3 (h s hs)⟩

noncomputable def dupB {α : Type} (l : List α) : Bool := @decide (¬ l.Nodup) (Classical.propDecidable _)
theorem dupB_iff {α : Type} {l : List α} : dupB l = true ↔ ¬ l.Nodup := by unfold dupB; exact @decide_eq_true_iff _ (Classical.propDecidable _)
theorem dupB_of {α : Type} {l : List α} {b : Bool} (h : b = true ↔ ¬ l.Nodup) : b = dupB l := by
  cases b with
  | true => exact (dupB_iff.2 (h.1 rfl)).symm
  | false =>
    cases hd : dupB l with
    | true => have := h.2 (dupB_iff.1 hd); cases this
    | false => rfl
def badS (s : ByteArray) : Bool := !isNameL s.data.toList
def badP (s : ByteArray) : Bool := !patL s.data.toList
def badA (z : Int) : Bool := !actB z
def emptyB (s : ByteArray) : Bool := s.toList.isEmpty
def k1 (r : RuleR) : Bool := decide ((16 : Int) < (r.rn : Int)) || decide ((16 : Int) < (r.an : Int)) || decide ((16 : Int) < (r.ln : Int))
def k2 (r : RuleR) : Bool := r.roles.any badS || (!emptyB r.ow && badS r.ow)
def k3 (r : RuleR) : Bool := r.acts.any badA
def k4 (r : RuleR) : Bool := r.labels.any badP
noncomputable def k5 (r : RuleR) : Bool := dupB r.roles || dupB r.acts || dupB r.labels
def k6 (r : RuleR) : Bool := (decide (r.fr < 0) || decide (24 < r.fr)) || (decide (r.tt < 0) || decide (24 < r.tt)) || (decide (r.fr = r.tt) && decide (r.fr ≠ 0)) || (decide (r.nd < 0) || decide (16 < r.nd))
def k7 (r : RuleR) : Bool := (decide (r.nd = 0) != emptyB r.ow) || (r.deny && decide (0 < r.nd))
noncomputable def ruleE (r : RuleR) : Int := if k1 r then 5 else if k2 r then 6 else if k3 r then 3 else if k4 r then 6 else if k5 r then 8 else if k6 r then 4 else if k7 r then 17 else 0
end

section
open Go Go.RowKit

set_option maxRecDepth 100000 in
set_option maxHeartbeats 2000000 in
theorem ruleError_c (r : RuleR) (w : World) (hr : r.Ok w) :
    Calls Tryz.prog 29 #[.agg r.v.toArray] w fun e w' => e = .returned (.int .i64 (ruleE r)) ∧ Ext w w' := by
  have hf1 := hid (fun w' (h : r.Ok w') => containsFS_c badS 51 #[] r.roles r.ra r.rn r.rc w' (enters_ofU Tryz.func51 (by kernel_rfl) rfl) h.rl (by have := h.rnc; have := h.rm; omega) h.rcell (fun y hy w2 _ => rule1_c y w2 (h.rs y hy)))
  have hf2 := hid (fun w' => risName_c r.ow w' (by have := hr.os; omega))
  have hf3 := hid (fun w' (h : r.Ok w') => containsFI_c badA 54 #[] r.acts r.aa r.an r.ac w' (enters_ofU Tryz.func54 (by kernel_rfl) rfl) h.al (by have := h.anc; have := h.am; omega) h.acell (fun y hy w2 _ => (rule2_c y w2).mono fun e w3 ⟨he, hw⟩ => ⟨he, hw ▸ Ext.refl _⟩))
  have hf4 := hid (fun w' (h : r.Ok w') => containsFS_c badP 55 #[] r.labels r.la r.ln r.lc w' (enters_ofU Tryz.func55 (by kernel_rfl) rfl) h.ll (by have := h.lnc; have := h.lm; omega) h.lcell (fun y hy w2 _ => rule3_c y w2 (h.ls y hy)))
  have ht1 := hid (fun w' (h : r.Ok w') => rtwiceS_c r.roles r.ra r.rn r.rc w' h.rl (by have := h.rnc; have := h.rm; omega) h.rnc h.rcell)
  have ht2 := hid (fun w' (h : r.Ok w') => rtwiceI_c r.acts r.aa r.an r.ac w' h.al (by have := h.anc; have := h.am; omega) h.anc h.acell)
  have ht3 := hid (fun w' (h : r.Ok w') => rtwiceS_c r.labels r.la r.ln r.lc w' h.ll (by have := h.lnc; have := h.lm; omega) h.lnc h.lcell)
  have HR := hid hr
  clear hr
  go_enter Tryz.func29, Tryz.ntmps29
  go_upto_region 1 with (fail)
  generalize hwA : World.alloc w _ = wA
  have bA : Blk wA w.heap.size r.v 51 := by rw [← hwA]; exact Blk.mk_alloc rfl rfl
  have eA : Ext w wA := by rw [← hwA]; exact (Ext.refl w).alloc _
  have BA := hid bA
  have EA := hid eA
  clear hwA bA eA
  go_cut [13] (fun v wx => v = .bool (k1 r) ∧ Ext wA wx)
  case first =>
    have c1 := BA.out.cell' (i := 1) rfl
    have c2 := BA.out.cell' (i := 2) rfl
    have c3 := BA.out.cell' (i := 3) rfl
    go_wp2
    all_goals
      go_meet
      refine ⟨?_, Ext.refl _⟩
      refine congrArg Value.bool ?_
      unfold k1
      rw [Bool.eq_iff_iff]
      simp only [Bool.or_eq_true, decide_eq_true_eq]
      split at * <;> omega
  case rest =>
    obtain ⟨rfl, eB⟩ := hcut
    have BB := hid (BA.out.ext eB)
    have EB := hid (EA.out.ext eB)
    clear eB BA EA
    cases h1 : k1 r with
    | true =>
      go_wp2
      go_ret
      exact ⟨by simp [ruleE, h1], EB.out⟩
    | false =>
    have HRB := hid (HR.out.ext EB.out)
    go_upto_region 3 with (fail)
    go_cut [27] (fun v wx => v = .bool (k2 r) ∧ Ext wc wx)
    case first =>
      have c1 := BB.out.cell' (i := 1) rfl
      go_wp2_with fail
      refine (hf1.out wc HRB.out).mono ?_
      rintro e wD ⟨rfl, eD⟩
      generalize hb1 : r.roles.any badS = b1
      have HB1 := hid hb1
      clear hb1
      have c7 := (BB.out.ext eD).cell' (i := 7) rfl
      have ED := hid eD
      clear eD c1
      have hk2 := hid (show k2 r = (r.roles.any badS || (!emptyB r.ow && badS r.ow)) from rfl)
      rw [HB1.out] at hk2
      have hbs : badS r.ow = !isNameL r.ow.data.toList := rfl
      rw [hbs] at hk2
      generalize isNameL r.ow.data.toList = nm at *
      have hem := hid (show emptyB r.ow = r.ow.toList.isEmpty from rfl)
      generalize emptyB r.ow = em at *
      generalize hk : k2 r = kk at *
      clear hk hbs HB1
      cases b1 with
      | true =>
        have hv : kk = true := by rw [hk2.out]; rfl
        subst hv
        clear hk2 hem
        go_wp2
        go_meet
        exact ⟨by first | rfl | simp, ED.out⟩
      | false =>
      cases em with
      | true =>
        have e1 : r.ow.toList.isEmpty = true := hem.out.symm
        have e2 : r.ow.toList = [] := List.isEmpty_iff.1 e1
        have hv : kk = false := by rw [hk2.out]; rfl
        subst hv
        clear hk2 hem
        go_wp2
        go_meet
        exact ⟨by first | rfl | simp, ED.out⟩
      | false =>
        have e1 : r.ow.toList.isEmpty = false := hem.out.symm
        have e2 : r.ow.toList ≠ [] := fun h => by rw [h] at e1; cases e1
        have hv : kk = !nm := by rw [hk2.out]; simp
        subst hv
        clear hk2 hem
        go_wp2_with fail
        refine (hf2.out _).mono ?_
        rintro e w4 ⟨rfl, e4⟩
        have E4 := hid (ED.out.ext e4)
        clear e4
        go_wp2_with fail
        go_meet
        exact ⟨by first | rfl | simp, E4.out⟩
    case rest =>
      obtain ⟨rfl, eC⟩ := hcut
      have BC := hid (BB.out.ext eC)
      have EC := hid (EB.out.ext eC)
      have HRC := hid (HRB.out.ext eC)
      clear eC BB EB HRB hf1 hf2
      cases h2 : k2 r with
      | true =>
        go_wp2
        go_ret
        exact ⟨by simp [ruleE, h1, h2], EC.out⟩
      | false =>
      have c2 := BC.out.cell' (i := 2) rfl
      go_wp2_with fail
      refine (hf3.out wc HRC.out).mono ?_
      rintro e wD ⟨rfl, eD⟩
      have BD := hid (BC.out.ext eD)
      have ED := hid (EC.out.ext eD)
      have HRD := hid (HRC.out.ext eD)
      clear eD BC EC HRC
      clear c2 hf3
      cases h3 : k3 r with
      | true =>
        have h3' : r.acts.any badA = true := h3
        rw [h3']
        go_wp2
        go_ret
        exact ⟨by simp [ruleE, h1, h2, h3], ED.out⟩
      | false =>
      have h3' : r.acts.any badA = false := h3
      rw [h3']
      have c3 := BD.out.cell' (i := 3) rfl
      go_wp2_with fail
      refine (hf4.out wD HRD.out).mono ?_
      rintro e wE ⟨rfl, eE⟩
      have BE := hid (BD.out.ext eE)
      have EE := hid (ED.out.ext eE)
      have HRE := hid (HRD.out.ext eE)
      clear eE BD ED HRD
      clear c3 hf4
      cases h4 : k4 r with
      | true =>
        have h4' : r.labels.any badP = true := h4
        rw [h4']
        go_wp2
        go_ret
        exact ⟨by simp [ruleE, h1, h2, h3, h4], EE.out⟩
      | false =>
      have h4' : r.labels.any badP = false := h4
      rw [h4']
      clear h3' h4'
      go_upto_region 9 with (fail)
      go_cut [34] (fun v wx => v = .bool (k5 r) ∧ Ext wE wx)
      case first =>
        have c1 := BE.out.cell' (i := 1) rfl
        go_wp2_with fail
        refine (ht1.out wE HRE.out).mono ?_
        rintro e wF ⟨b1, rfl, hb1, eF⟩
        have HB1 := hid (dupB_of hb1)
        have BF := hid (BE.out.ext eF)
        have HRF := hid (HRE.out.ext eF)
        have EF := hid eF
        clear hb1 eF c1
        have c2 := BF.out.cell' (i := 2) rfl
        cases b1 with
        | true =>
          go_wp2
          go_meet
          exact ⟨by unfold k5; rw [← HB1.out]; rfl, EF.out⟩
        | false =>
          go_wp2_with fail
          refine (ht2.out wF HRF.out).mono ?_
          rintro e wG ⟨b2, rfl, hb2, eG⟩
          have HB2 := hid (dupB_of hb2)
          have BG := hid (BF.out.ext eG)
          have HRG := hid (HRF.out.ext eG)
          have EG := hid (EF.out.ext eG)
          clear hb2 eG c2
          have c3 := BG.out.cell' (i := 3) rfl
          cases b2 with
          | true =>
            go_wp2
            go_meet
            exact ⟨by unfold k5; rw [← HB1.out, ← HB2.out]; rfl, EG.out⟩
          | false =>
            go_wp2_with fail
            refine (ht3.out wG HRG.out).mono ?_
            rintro e wI ⟨b3, rfl, hb3, eI⟩
            have HB3 := hid (dupB_of hb3)
            have EI := hid (EG.out.ext eI)
            clear hb3 eI c3
            go_wp2_with fail
            go_meet
            exact ⟨by unfold k5; rw [← HB1.out, ← HB2.out, ← HB3.out]; first | rfl | simp, EI.out⟩
      case rest =>
        obtain ⟨rfl, eF⟩ := hcut
        have BF := hid (BE.out.ext eF)
        have EF := hid (EE.out.ext eF)
        clear eF BE EE HRE ht1 ht2 ht3
        cases h5 : k5 r with
        | true =>
          go_wp2
          go_ret
          exact ⟨by simp [ruleE, h1, h2, h3, h4, h5], EF.out⟩
        | false =>
        have c4 := BF.out.cell' (i := 4) rfl
        have c5 := BF.out.cell' (i := 5) rfl
        have c6 := BF.out.cell' (i := 6) rfl
        have c7 := BF.out.cell' (i := 7) rfl
        have c0 := BF.out.cell' (i := 0) rfl
        go_upto_region 11 with (fail)
        go_cut [48] (fun v wx => v = .bool (k6 r) ∧ wx = wc)
        case first =>
          have hk6 := hid (show k6 r = ((((decide (r.fr < 0) || decide (24 < r.fr)) || (decide (r.tt < 0) || decide (24 < r.tt))) || (decide (r.fr = r.tt) && decide (r.fr ≠ 0))) || (decide (r.nd < 0) || decide (16 < r.nd))) from rfl)
          generalize hk : k6 r = kk at *
          clear hk
          by_cases hc0 : r.fr < 0
          · have q0 : decide (r.fr < 0) = true := decide_eq_true hc0
            rw [q0] at hk6
            clear hc0
            have hv : kk = true := by rw [hk6.out]; simp
            subst hv
            clear hk6
            go_wp2
            go_meet
            exact ⟨by first | rfl | simp, rfl⟩
          have q0 : decide (r.fr < 0) = false := decide_eq_false hc0
          rw [q0] at hk6
          clear hc0
          by_cases hc1 : 24 < r.fr
          · have q1 : decide (24 < r.fr) = true := decide_eq_true hc1
            rw [q1] at hk6
            clear hc1
            have hv : kk = true := by rw [hk6.out]; simp
            subst hv
            clear hk6
            go_wp2
            go_meet
            exact ⟨by first | rfl | simp, rfl⟩
          have q1 : decide (24 < r.fr) = false := decide_eq_false hc1
          rw [q1] at hk6
          clear hc1
          by_cases hc2 : r.tt < 0
          · have q2 : decide (r.tt < 0) = true := decide_eq_true hc2
            rw [q2] at hk6
            clear hc2
            have hv : kk = true := by rw [hk6.out]; simp
            subst hv
            clear hk6
            go_wp2
            go_meet
            exact ⟨by first | rfl | simp, rfl⟩
          have q2 : decide (r.tt < 0) = false := decide_eq_false hc2
          rw [q2] at hk6
          clear hc2
          by_cases hc3 : 24 < r.tt
          · have q3 : decide (24 < r.tt) = true := decide_eq_true hc3
            rw [q3] at hk6
            clear hc3
            have hv : kk = true := by rw [hk6.out]; simp
            subst hv
            clear hk6
            go_wp2
            go_meet
            exact ⟨by first | rfl | simp, rfl⟩
          have q3 : decide (24 < r.tt) = false := decide_eq_false hc3
          rw [q3] at hk6
          clear hc3
          by_cases hft : r.fr = r.tt
          · have q4 : decide (r.fr = r.tt) = true := decide_eq_true hft
            have q5 : (r.fr == r.tt) = true := by simp [hft]
            rw [q4] at hk6
            by_cases hf0 : r.fr = 0
            · have q6 : decide (r.fr = 0) = true := decide_eq_true hf0
              have q7 : (r.fr != 0) = false := by simp [hf0]
              have q8 : decide (r.fr ≠ 0) = false := decide_eq_false (fun h => h hf0)
              rw [q8] at hk6
              clear hft hf0
              by_cases hn1 : r.nd < 0
              · have q9 : decide (r.nd < 0) = true := decide_eq_true hn1
                rw [q9] at hk6
                clear hn1
                have hv : kk = true := by rw [hk6.out]; simp
                subst hv
                clear hk6
                go_wp2
                go_meet
                exact ⟨by first | rfl | simp, rfl⟩
              have q9 : decide (r.nd < 0) = false := decide_eq_false hn1
              rw [q9] at hk6
              clear hn1
              have hv : kk = decide (16 < r.nd) := by rw [hk6.out]; simp
              subst hv
              clear hk6
              go_wp2
              go_meet
              exact ⟨by first | rfl | simp, rfl⟩
            · have q6 : decide (r.fr = 0) = false := decide_eq_false hf0
              have q7 : (r.fr != 0) = true := by simp [hf0]
              have q8 : decide (r.fr ≠ 0) = true := decide_eq_true hf0
              rw [q8] at hk6
              clear hft hf0
              have hv : kk = true := by rw [hk6.out]; simp
              subst hv
              clear hk6
              go_wp2
              go_meet
              exact ⟨by first | rfl | simp, rfl⟩
          · have q4 : decide (r.fr = r.tt) = false := decide_eq_false hft
            have q5 : (r.fr == r.tt) = false := by simp [hft]
            rw [q4] at hk6
            clear hft
            by_cases hn1 : r.nd < 0
            · have q9 : decide (r.nd < 0) = true := decide_eq_true hn1
              rw [q9] at hk6
              clear hn1
              have hv : kk = true := by rw [hk6.out]; simp
              subst hv
              clear hk6
              go_wp2
              go_meet
              exact ⟨by first | rfl | simp, rfl⟩
            have q9 : decide (r.nd < 0) = false := decide_eq_false hn1
            rw [q9] at hk6
            clear hn1
            have hv : kk = decide (16 < r.nd) := by rw [hk6.out]; simp
            subst hv
            clear hk6
            go_wp2
            go_meet
            exact ⟨by first | rfl | simp, rfl⟩
        case rest =>
          obtain ⟨rfl, rfl⟩ := hcut
          cases h6 : k6 r with
          | true =>
            go_wp2
            go_ret
            exact ⟨by simp [ruleE, h1, h2, h3, h4, h5, h6], EF.out⟩
          | false =>
          have hnd : 0 ≤ r.nd := by
            by_cases h : r.nd < 0
            · exfalso
              have : k6 r = true := by unfold k6; rw [decide_eq_true h]; simp
              rw [h6] at this; cases this
            · omega
          go_upto_region 13 with (fail)
          go_cut [89] (fun v wx => v = .bool (k7 r) ∧ wx = wc)
          case first =>
            have hk7 := hid (show k7 r = ((decide (r.nd = 0) != emptyB r.ow) || (r.deny && decide (0 < r.nd))) from rfl)
            generalize hk : k7 r = kk at *
            clear hk
            have hem := hid (show emptyB r.ow = r.ow.toList.isEmpty from rfl)
            generalize emptyB r.ow = em at *
            generalize r.deny = dn at *
            by_cases hn0 : r.nd = 0
            · have n1 : decide (r.nd = 0) = true := decide_eq_true hn0
              have n3 : decide (0 < r.nd) = false := decide_eq_false (by omega)
              rw [n1, n3] at hk7
              clear hn0 hnd
              cases em with
              | true =>
                have e1 : r.ow.toList.isEmpty = true := hem.out.symm
                have e2 : r.ow.toList = [] := List.isEmpty_iff.1 e1
                cases dn
                all_goals
                  have hv := hk7.out
                  simp at hv
                  subst hv
                  clear hk7 hem
                  go_wp2
                  go_meet
                  exact ⟨by first | rfl | simp, rfl⟩
              | false =>
                have e1 : r.ow.toList.isEmpty = false := hem.out.symm
                have e2 : r.ow.toList ≠ [] := fun h => by rw [h] at e1; cases e1
                cases dn
                all_goals
                  have hv := hk7.out
                  simp at hv
                  subst hv
                  clear hk7 hem
                  go_wp2
                  go_meet
                  exact ⟨by first | rfl | simp, rfl⟩
            · have n1 : decide (r.nd = 0) = false := decide_eq_false hn0
              have n3 : decide (0 < r.nd) = true := decide_eq_true (by omega)
              rw [n1, n3] at hk7
              clear hn0 hnd
              cases em with
              | true =>
                have e1 : r.ow.toList.isEmpty = true := hem.out.symm
                have e2 : r.ow.toList = [] := List.isEmpty_iff.1 e1
                cases dn
                all_goals
                  have hv := hk7.out
                  simp at hv
                  subst hv
                  clear hk7 hem
                  go_wp2
                  go_meet
                  exact ⟨by first | rfl | simp, rfl⟩
              | false =>
                have e1 : r.ow.toList.isEmpty = false := hem.out.symm
                have e2 : r.ow.toList ≠ [] := fun h => by rw [h] at e1; cases e1
                cases dn
                all_goals
                  have hv := hk7.out
                  simp at hv
                  subst hv
                  clear hk7 hem
                  go_wp2
                  go_meet
                  exact ⟨by first | rfl | simp, rfl⟩
          case rest =>
            obtain ⟨rfl, rfl⟩ := hcut
            cases h7 : k7 r with
            | true =>
              go_wp2
              go_ret
              exact ⟨by simp [ruleE, h1, h2, h3, h4, h5, h6, h7], EF.out⟩
            | false =>
              go_wp2
              go_ret
              exact ⟨by simp [ruleE, h1, h2, h3, h4, h5, h6, h7], EF.out⟩
end

section
open Go Go.RowKit
end

section
open Go Go.RowKit

structure AskR where
  actor : List UInt8
  sa : Option Addr
  sn : Nat
  sc : Nat
  roles : List ByteArray
  act : Int
  label : ByteArray
  key : List UInt8
  time : Int
  detail : List UInt8
def AskR.v (a : AskR) : List Value := a.actor.map u8v ++ (.slice a.sa a.sn a.sc :: .int .i64 a.act :: .string a.label :: (a.key.map u8v ++ (.int .i64 a.time :: a.detail.map u8v)))
structure AskR.Ok (w : World) (a : AskR) : Prop where
  ha : a.actor.length = 16
  hk : a.key.length = 16
  hd : a.detail.length = 32
  sl : a.roles.length = a.sn
  snc : a.sn ≤ a.sc
  sm : a.sn ≤ 140737488355328
  scell : Cells w a.sa (a.roles.map encStr)
  ss : ∀ s ∈ a.roles, s.size ≤ 140737488355328
  ls : a.label.size ≤ 140737488355328
theorem AskR.Ok.ext {w w' : World} {a : AskR} (h : a.Ok w) (e : Ext w w') : a.Ok w' := ⟨h.ha, h.hk, h.hd, h.sl, h.snc, h.sm, h.scell.ext e, h.ss, h.ls⟩
theorem AskR.len {w : World} {a : AskR} (h : a.Ok w) : a.v.length = 68 := by unfold AskR.v; simp [h.ha, h.hk, h.hd]
theorem AskR.at16 {w : World} {a : AskR} (h : a.Ok w) : a.v[16]? = some (.slice a.sa a.sn a.sc) := by
  unfold AskR.v; rw [List.getElem?_append_right (by simp [h.ha])]; simp [h.ha]
theorem AskR.at17 {w : World} {a : AskR} (h : a.Ok w) : a.v[17]? = some (.int .i64 a.act) := by
  unfold AskR.v; rw [List.getElem?_append_right (by simp [h.ha])]; simp [h.ha]
theorem AskR.at18 {w : World} {a : AskR} (h : a.Ok w) : a.v[18]? = some (.string a.label) := by
  unfold AskR.v; rw [List.getElem?_append_right (by simp [h.ha])]; simp [h.ha]
theorem AskR.at35 {w : World} {a : AskR} (h : a.Ok w) : a.v[35]? = some (.int .i64 a.time) := by
  unfold AskR.v; rw [List.getElem?_append_right (by simp [h.ha])]
  simp only [List.length_map, h.ha]
  show (Value.slice a.sa a.sn a.sc :: .int .i64 a.act :: .string a.label :: (a.key.map u8v ++ (.int .i64 a.time :: a.detail.map u8v)))[19]? = _
  rw [List.getElem?_cons_succ, List.getElem?_cons_succ, List.getElem?_cons_succ, List.getElem?_append_right (by simp [h.hk])]
  simp [h.hk]
def j5 (a : AskR) : Bool := !emptyB a.label && badS a.label
def j6 (a : AskR) : Bool := decide (a.time < 0) || decide (1099511627776 < a.time)
noncomputable def askE (a : AskR) : Int := if badA a.act then 3 else if decide ((16 : Int) < (a.sn : Int)) then 5 else if a.roles.any badS then 6 else if !risB a.roles then 9 else if j5 a then 6 else if j6 a then 4 else 0
end

section
open Go Go.RowKit
end

section
open Go Go.RowKit

noncomputable def memT {α : Type} (l : List α) (x : α) : Bool := @decide (x ∈ l) (Classical.propDecidable _)
theorem memT_iff {α : Type} {l : List α} {x : α} : memT l x = true ↔ x ∈ l := by unfold memT; exact @decide_eq_true_iff _ (Classical.propDecidable _)
theorem memT_of {α : Type} {l : List α} {x : α} {b : Bool} (h : b = true ↔ x ∈ l) : b = memT l x := by
  rw [Bool.eq_iff_iff, memT_iff]; exact h
def fitB (l p : ByteArray) : Bool := fitsL p.data.toList l.data.toList
def hoursB (fr tt h : Int) : Bool := if fr = tt then true else if fr < tt then decide (fr ≤ h) && decide (h < tt) else decide (fr ≤ h) || decide (h < tt)
def hourN (T : Nat) : Nat := T % 86400 / 3600
noncomputable def meetsB (r : RuleR) (a : AskR) : Bool := (decide (r.rn = 0) || r.roles.any (memT a.roles)) && (decide (r.an = 0) || memT r.acts a.act) && (decide (r.ln = 0) || r.labels.any (fitB a.label)) && hoursB r.fr r.tt (hourN a.time.toNat)

/-- a pattern other than the star fits no empty label -/
theorem fits_empty {p : List UInt8} (h : patL p = true) (hs : p ≠ [42]) : fitsL p [] = false := by
  unfold fitsL
  unfold patL at h
  cases hst : starL p with
  | true =>
    rw [if_pos rfl]
    rw [hst] at h
    unfold starL at hst
    obtain ⟨t, ht⟩ : ∃ t, t ++ [42] = p := List.isSuffixOf_iff_suffix.1 hst
    have hh : headL p = t := by unfold headL Lib.trimSuffix; rw [if_pos hst, ← ht]; simp
    rw [hh]
    cases t with
    | nil => exact absurd ht.symm hs
    | cons x t => rfl
  | false =>
    rw [if_neg (by simp)]
    rw [hst] at h
    cases p with
    | nil => revert h; decide
    | cons x t => rfl
end

section
open Go Go.RowKit

theorem agg_rule : AggT Tryz.prog 51 8 := ⟨⟨_, Tryz.underlying51, rfl⟩, by kernel_rfl⟩
end

section
open Go Go.RowKit
end

section
open Go Go.RowKit

set_option maxRecDepth 100000 in
set_option maxHeartbeats 2000000 in
theorem ruleFault_c (r : RuleR) (w : World) (hr : r.Ok w) :
    Calls Tryz.prog 34 #[.agg r.v.toArray] w fun e w' => e = .returned (.int .i64 (ruleE r)) ∧ Ext w w' := by
  have hf1 := hid (fun w' (h : r.Ok w') => containsFS_c badS 68 #[] r.roles r.ra r.rn r.rc w' (enters_ofU Tryz.func68 (by kernel_rfl) rfl) h.rl (by have := h.rnc; have := h.rm; omega) h.rcell (fun y hy w2 _ => (notName_p y w2 (h.rs y hy)).mono fun e w3 ⟨he, hw⟩ => ⟨he, hw ▸ Ext.refl _⟩))
  have hf2 := hid (fun w' => notName_p r.ow w' hr.os)
  have hf3 := hid (fun w' (h : r.Ok w') => containsFI_c badA 69 #[] r.acts r.aa r.an r.ac w' (enters_ofU Tryz.func69 (by kernel_rfl) rfl) h.al (by have := h.anc; have := h.am; omega) h.acell (fun y hy w2 _ => (fault1_c y w2).mono fun e w3 ⟨he, hw⟩ => ⟨he, hw ▸ Ext.refl _⟩))
  have hf4 := hid (fun w' (h : r.Ok w') => containsFS_c badP 71 #[] r.labels r.la r.ln r.lc w' (enters_ofU Tryz.func71 (by kernel_rfl) rfl) h.ll (by have := h.lnc; have := h.lm; omega) h.lcell (fun y hy w2 _ => (fault2_c y w2 (h.ls y hy)).mono fun e w3 ⟨he, hw⟩ => ⟨he, hw ▸ Ext.refl _⟩))
  have ht1 := hid (fun w' (h : r.Ok w') => twiceS_c r.roles r.ra r.rn r.rc w' h.rl (by have := h.rnc; have := h.rm; omega) h.rcell (keysS h.rs))
  have ht2 := hid (fun w' (h : r.Ok w') => twiceI_c r.acts r.aa r.an r.ac w' h.al (by have := h.anc; have := h.am; omega) h.acell (keysI h.awf))
  have ht3 := hid (fun w' (h : r.Ok w') => twiceS_c r.labels r.la r.ln r.lc w' h.ll (by have := h.lnc; have := h.lm; omega) h.lcell (keysS h.ls))
  have HR := hid hr
  clear hr
  go_enter Tryz.func34, Tryz.ntmps34
  go_upto_region 1 with (fail)
  generalize hwA : World.alloc w _ = wA
  have bA : Blk wA w.heap.size r.v 51 := by rw [← hwA]; exact Blk.mk_alloc rfl rfl
  have eA : Ext w wA := by rw [← hwA]; exact (Ext.refl w).alloc _
  have BA := hid bA
  have EA := hid eA
  clear hwA bA eA
  go_cut [3] (fun v wx => v = .bool (k1 r) ∧ Ext wA wx)
  case first =>
    have c1 := BA.out.cell' (i := 1) rfl
    have c2 := BA.out.cell' (i := 2) rfl
    have c3 := BA.out.cell' (i := 3) rfl
    go_wp2
    all_goals
      go_meet
      refine ⟨?_, Ext.refl _⟩
      unfold k1
      first | rfl | (congr 1; simp_all; done) | (congr 1; simp_all; omega)
  case rest =>
    obtain ⟨rfl, eB⟩ := hcut
    have BB := hid (BA.out.ext eB)
    have EB := hid (EA.out.ext eB)
    clear eB BA EA
    cases h1 : k1 r with
    | true =>
      go_wp2
      go_ret
      exact ⟨by simp [ruleE, h1], EB.out⟩
    | false =>
    have HRB := hid (HR.out.ext EB.out)
    go_upto_region 3 with (fail)
    go_cut [20] (fun v wx => v = .bool (k2 r) ∧ Ext wc wx)
    case first =>
      have c1 := BB.out.cell' (i := 1) rfl
      go_wp2_with fail
      refine (hf1.out wc HRB.out).mono ?_
      rintro e wD ⟨rfl, eD⟩
      generalize hb1 : r.roles.any badS = b1
      have HB1 := hid hb1
      clear hb1
      have c7 := (BB.out.ext eD).cell' (i := 7) rfl
      have ED := hid eD
      clear eD c1
      go_wp2_with (refine (hf2.out _).mono ?_; rintro e w4 ⟨rfl, rfl⟩)
      all_goals
        go_meet
        refine ⟨?_, ED.out⟩
        unfold k2
        rw [HB1.out]
        unfold emptyB badS
        first | rfl | (congr 1; simp_all; done)
    case rest =>
      obtain ⟨rfl, eC⟩ := hcut
      have BC := hid (BB.out.ext eC)
      have EC := hid (EB.out.ext eC)
      have HRC := hid (HRB.out.ext eC)
      clear eC BB EB HRB hf1 hf2
      cases h2 : k2 r with
      | true =>
        go_wp2
        go_ret
        exact ⟨by simp [ruleE, h1, h2], EC.out⟩
      | false =>
      have c2 := BC.out.cell' (i := 2) rfl
      go_wp2_with fail
      refine (hf3.out wc HRC.out).mono ?_
      rintro e wD ⟨rfl, eD⟩
      have BD := hid (BC.out.ext eD)
      have ED := hid (EC.out.ext eD)
      have HRD := hid (HRC.out.ext eD)
      clear eD BC EC HRC
      clear c2 hf3
      cases h3 : k3 r with
      | true =>
        have h3' : r.acts.any badA = true := h3
        rw [h3']
        go_wp2
        go_ret
        exact ⟨by simp [ruleE, h1, h2, h3], ED.out⟩
      | false =>
      have h3' : r.acts.any badA = false := h3
      rw [h3']
      have c3 := BD.out.cell' (i := 3) rfl
      go_wp2_with fail
      refine (hf4.out wD HRD.out).mono ?_
      rintro e wE ⟨rfl, eE⟩
      have BE := hid (BD.out.ext eE)
      have EE := hid (ED.out.ext eE)
      have HRE := hid (HRD.out.ext eE)
      clear eE BD ED HRD
      clear c3 hf4
      cases h4 : k4 r with
      | true =>
        have h4' : r.labels.any badP = true := h4
        rw [h4']
        go_wp2
        go_ret
        exact ⟨by simp [ruleE, h1, h2, h3, h4], EE.out⟩
      | false =>
      have h4' : r.labels.any badP = false := h4
      rw [h4']
      clear h3' h4'
      go_upto_region 9 with (fail)
      go_cut [42] (fun v wx => v = .bool (k5 r) ∧ Ext wE wx)
      case first =>
        have c1 := BE.out.cell' (i := 1) rfl
        go_wp2_with fail
        refine (ht1.out wE HRE.out).mono ?_
        rintro e wF ⟨b1, rfl, hb1, eF⟩
        have HB1 := hid (dupB_of hb1)
        have BF := hid (BE.out.ext eF)
        have HRF := hid (HRE.out.ext eF)
        have EF := hid eF
        clear hb1 eF c1
        have c2 := BF.out.cell' (i := 2) rfl
        cases b1 with
        | true =>
          go_wp2
          go_meet
          exact ⟨by unfold k5; rw [← HB1.out]; rfl, EF.out⟩
        | false =>
          go_wp2_with fail
          refine (ht2.out wF HRF.out).mono ?_
          rintro e wG ⟨b2, rfl, hb2, eG⟩
          have HB2 := hid (dupB_of hb2)
          have BG := hid (BF.out.ext eG)
          have HRG := hid (HRF.out.ext eG)
          have EG := hid (EF.out.ext eG)
          clear hb2 eG c2
          have c3 := BG.out.cell' (i := 3) rfl
          cases b2 with
          | true =>
            go_wp2
            go_meet
            exact ⟨by unfold k5; rw [← HB1.out, ← HB2.out]; rfl, EG.out⟩
          | false =>
            go_wp2_with fail
            refine (ht3.out wG HRG.out).mono ?_
            rintro e wI ⟨b3, rfl, hb3, eI⟩
            have HB3 := hid (dupB_of hb3)
            have EI := hid (EG.out.ext eI)
            clear hb3 eI c3
            go_wp2_with fail
            go_meet
            exact ⟨by unfold k5; rw [← HB1.out, ← HB2.out, ← HB3.out]; first | rfl | simp, EI.out⟩
      case rest =>
        obtain ⟨rfl, eF⟩ := hcut
        have BF := hid (BE.out.ext eF)
        have EF := hid (EE.out.ext eF)
        clear eF BE EE HRE ht1 ht2 ht3
        cases h5 : k5 r with
        | true =>
          go_wp2
          go_ret
          exact ⟨by simp [ruleE, h1, h2, h3, h4, h5], EF.out⟩
        | false =>
        have c4 := BF.out.cell' (i := 4) rfl
        have c5 := BF.out.cell' (i := 5) rfl
        have c6 := BF.out.cell' (i := 6) rfl
        have c7 := BF.out.cell' (i := 7) rfl
        have c0 := BF.out.cell' (i := 0) rfl
        go_upto_region 11 with (fail)
        go_cut [56] (fun v wx => v = .bool (k6 r) ∧ wx = wc)
        case first =>
          have ho1 := hid (fun w' => outsideP_c r.fr 0 24 w')
          have ho2 := hid (fun w' => outsideP_c r.tt 0 24 w')
          have ho3 := hid (fun w' => outsideP_c r.nd 0 16 w')
          have hk6 := hid (show k6 r = (((decide (r.fr < 0) || decide (24 < r.fr)) || (decide (r.tt < 0) || decide (24 < r.tt)) || (decide (r.fr = r.tt) && decide (r.fr ≠ 0))) || (decide (r.nd < 0) || decide (16 < r.nd))) from rfl)
          generalize hk : k6 r = kk at *
          clear hk
          generalize (decide (r.fr < 0) || decide (24 < r.fr)) = b1 at *
          generalize (decide (r.tt < 0) || decide (24 < r.tt)) = b2 at *
          generalize (decide (r.nd < 0) || decide (16 < r.nd)) = b3 at *
          cases b1 with
          | true =>
            have hv : kk = true := by rw [hk6.out]; rfl
            subst hv
            clear hk6 ho2 ho3
            go_wp2_with fail
            refine (ho1.out _).mono ?_
            rintro e w4 ⟨rfl, rfl⟩
            go_wp2_with fail
            go_meet
            exact ⟨rfl, rfl⟩
          | false =>
          cases b2 with
          | true =>
            have hv : kk = true := by rw [hk6.out]; rfl
            subst hv
            clear hk6 ho3
            go_wp2_with fail
            refine (ho1.out _).mono ?_
            rintro e w4 ⟨rfl, rfl⟩
            go_wp2_with fail
            refine (ho2.out _).mono ?_
            rintro e w4 ⟨rfl, rfl⟩
            go_wp2_with fail
            go_meet
            exact ⟨rfl, rfl⟩
          | false =>
          by_cases hft : r.fr = r.tt
          · by_cases hf0 : r.fr = 0
            · have hv : kk = b3 := by rw [hk6.out, decide_eq_true hft, decide_eq_false (show ¬ r.fr ≠ 0 from fun h => h hf0)]; rfl
              subst hv
              have q1 : decide (r.fr = r.tt) = true := decide_eq_true hft
              have q2 : (r.fr == r.tt) = true := by simp [hft]
              have q3 : decide (r.fr = 0) = true := decide_eq_true hf0
              have q4 : (r.fr != 0) = false := by simp [hf0]
              clear hk6 hft hf0
              go_wp2_with fail
              refine (ho1.out _).mono ?_
              rintro e w4 ⟨rfl, rfl⟩
              go_wp2_with fail
              refine (ho2.out _).mono ?_
              rintro e w4 ⟨rfl, rfl⟩
              go_wp2_with fail
              refine (ho3.out _).mono ?_
              rintro e w4 ⟨rfl, rfl⟩
              go_wp2_with fail
              go_meet
              exact ⟨by first | rfl | simp, rfl⟩
            · have hv : kk = true := by rw [hk6.out, decide_eq_true hft, decide_eq_true (show r.fr ≠ 0 from hf0)]; rfl
              subst hv
              have q1 : decide (r.fr = r.tt) = true := decide_eq_true hft
              have q2 : (r.fr == r.tt) = true := by simp [hft]
              have q3 : decide (r.fr = 0) = false := decide_eq_false hf0
              have q4 : (r.fr != 0) = true := by simp [hf0]
              clear hk6 hft hf0 ho3
              go_wp2_with fail
              refine (ho1.out _).mono ?_
              rintro e w4 ⟨rfl, rfl⟩
              go_wp2_with fail
              refine (ho2.out _).mono ?_
              rintro e w4 ⟨rfl, rfl⟩
              go_wp2_with fail
              go_meet
              exact ⟨by first | rfl | simp, rfl⟩
          · have hv : kk = b3 := by rw [hk6.out, decide_eq_false hft]; rfl
            subst hv
            have q1 : decide (r.fr = r.tt) = false := decide_eq_false hft
            have q2 : (r.fr == r.tt) = false := by simp [hft]
            clear hk6 hft
            go_wp2_with fail
            refine (ho1.out _).mono ?_
            rintro e w4 ⟨rfl, rfl⟩
            go_wp2_with fail
            refine (ho2.out _).mono ?_
            rintro e w4 ⟨rfl, rfl⟩
            go_wp2_with fail
            refine (ho3.out _).mono ?_
            rintro e w4 ⟨rfl, rfl⟩
            go_wp2_with fail
            go_meet
            exact ⟨by first | rfl | simp, rfl⟩
        case rest =>
          obtain ⟨rfl, rfl⟩ := hcut
          cases h6 : k6 r with
          | true =>
            go_wp2
            go_ret
            exact ⟨by simp [ruleE, h1, h2, h3, h4, h5, h6], EF.out⟩
          | false =>
          go_upto_region 13 with (fail)
          go_cut [82] (fun v wx => v = .bool (k7 r) ∧ wx = wc)
          case first =>
            have hk7 := hid (show k7 r = ((decide (r.nd = 0) != emptyB r.ow) || (r.deny && decide (0 < r.nd))) from rfl)
            generalize hk : k7 r = kk at *
            clear hk
            have hem := hid (show emptyB r.ow = r.ow.toList.isEmpty from rfl)
            generalize emptyB r.ow = em at *
            generalize r.deny = dn at *
            by_cases hn0 : r.nd = 0
            · have n1 : decide (r.nd = 0) = true := decide_eq_true hn0
              have n2 : (r.nd == 0) = true := by simp [hn0]
              have n3 : decide (0 < r.nd) = false := decide_eq_false (by omega)
              rw [n1, n3] at hk7
              clear hn0
              cases em with
              | true =>
                have e1 : r.ow.toList.isEmpty = true := hem.out.symm
                have e2 : r.ow.toList = [] := List.isEmpty_iff.1 e1
                have hv : kk = false := by rw [hk7.out]; cases dn <;> rfl
                subst hv
                clear hk7 hem
                cases dn
                all_goals
                  go_wp2
                  go_meet
                  exact ⟨by first | rfl | simp, rfl⟩
              | false =>
                have e1 : r.ow.toList.isEmpty = false := hem.out.symm
                have e2 : r.ow.toList ≠ [] := fun h => by rw [h] at e1; cases e1
                have hv : kk = true := by rw [hk7.out]; cases dn <;> rfl
                subst hv
                clear hk7 hem
                go_wp2
                go_meet
                exact ⟨by first | rfl | simp, rfl⟩
            · have n1 : decide (r.nd = 0) = false := decide_eq_false hn0
              have n2 : (r.nd == 0) = false := by simp [hn0]
              rw [n1] at hk7
              clear hn0
              cases em with
              | true =>
                have e1 : r.ow.toList.isEmpty = true := hem.out.symm
                have e2 : r.ow.toList = [] := List.isEmpty_iff.1 e1
                have hv : kk = true := by rw [hk7.out]; cases dn <;> rfl
                subst hv
                clear hk7 hem
                go_wp2
                go_meet
                exact ⟨by first | rfl | simp, rfl⟩
              | false =>
                have e1 : r.ow.toList.isEmpty = false := hem.out.symm
                have e2 : r.ow.toList ≠ [] := fun h => by rw [h] at e1; cases e1
                cases dn with
                | true =>
                  have hv : kk = decide (0 < r.nd) := by rw [hk7.out]; simp
                  subst hv
                  clear hk7 hem
                  go_wp2
                  go_meet
                  exact ⟨by first | rfl | simp, rfl⟩
                | false =>
                  have hv : kk = false := by rw [hk7.out]; rfl
                  subst hv
                  clear hk7 hem
                  go_wp2
                  go_meet
                  exact ⟨by first | rfl | simp, rfl⟩
          case rest =>
            obtain ⟨rfl, rfl⟩ := hcut
            cases h7 : k7 r with
            | true =>
              go_wp2
              go_ret
              exact ⟨by simp [ruleE, h1, h2, h3, h4, h5, h6, h7], EF.out⟩
            | false =>
              go_wp2
              go_ret
              exact ⟨by simp [ruleE, h1, h2, h3, h4, h5, h6, h7], EF.out⟩
end

section
open Go Go.RowKit

def rulesV (rs : List RuleR) : List Value := rs.flatMap RuleR.v
theorem rulesV_length (rs : List RuleR) : (rulesV rs).length = 8 * rs.length := by
  induction rs with
  | nil => rfl
  | cons r rs ih => unfold rulesV at ih ⊢; rw [List.flatMap_cons, List.length_append, ih, RuleR.len, List.length_cons]; omega
theorem rulesV_at {rs : List RuleR} {k : Nat} {r : RuleR} (h : rs[k]? = some r) : ((rulesV rs).drop (k * 8)).take 8 = r.v := by
  induction rs generalizing k with
  | nil => simp at h
  | cons x rs ih =>
    unfold rulesV at ih ⊢
    rw [List.flatMap_cons]
    cases k with
    | zero =>
      simp only [List.getElem?_cons_zero, Option.some.injEq] at h
      subst h
      rw [Nat.zero_mul, List.drop_zero, List.take_append_of_le_length (by rw [RuleR.len]; exact Nat.le_refl _), List.take_of_length_le (by rw [RuleR.len]; exact Nat.le_refl _)]
    | succ k =>
      rw [List.getElem?_cons_succ] at h
      rw [List.drop_append, RuleR.len, List.drop_of_length_le (by rw [RuleR.len]; omega), List.nil_append, show (k + 1) * 8 - 8 = k * 8 by omega]
      exact ih h
structure PolOk (w : World) (pa : Option Addr) (pn pc : Nat) (rs : List RuleR) : Prop where
  hl : rs.length = pn
  hnc : pn ≤ pc
  hm : pn ≤ 140737488355328
  cell : Cells w pa (rulesV rs)
  ok : ∀ r ∈ rs, r.Ok w
theorem PolOk.ext {w w' : World} {pa : Option Addr} {pn pc : Nat} {rs : List RuleR} (h : PolOk w pa pn pc rs) (e : Ext w w') : PolOk w' pa pn pc rs := ⟨h.hl, h.hnc, h.hm, h.cell.ext e, fun r hr => (h.ok r hr).ext e⟩
theorem PolOk.at {w : World} {pa : Option Addr} {pn pc : Nat} {rs : List RuleR} (h : PolOk w pa pn pc rs) {k : Nat} {r : RuleR} (hk : rs[k]? = some r) : ∃ A, pa = some A ∧ CellsAt w (A.add (k * 8)) r.v := by
  have hk2 := (List.getElem?_eq_some_iff.1 hk).1
  obtain ⟨b, o, rfl, hc⟩ := h.cell.some_of (by rw [rulesV_length]; omega)
  refine ⟨_, rfl, fun j u hu => ?_⟩
  rw [addr_add, addr_add, Nat.add_assoc]
  refine hc _ _ ?_
  rw [← rulesV_at hk] at hu
  have hj : j < 8 := by
    have := (List.getElem?_eq_some_iff.1 hu).1
    rw [List.length_take] at this; omega
  rw [List.getElem?_take_of_lt hj, List.getElem?_drop] at hu
  exact hu
noncomputable def firstE : List RuleR → Int
  | [] => 0
  | r :: rs => if ruleE r = 0 then firstE rs else ruleE r
theorem firstE_hit {rs : List RuleR} {k : Nat} {r : RuleR} (h : rs[k]? = some r) (hp : ∀ x ∈ rs.take k, ruleE x = 0) (hr : ruleE r ≠ 0) : firstE rs = ruleE r := by
  induction rs generalizing k with
  | nil => simp at h
  | cons x rs ih =>
    cases k with
    | zero =>
      simp only [List.getElem?_cons_zero, Option.some.injEq] at h
      subst h
      unfold firstE; rw [if_neg hr]
    | succ k =>
      rw [List.getElem?_cons_succ] at h
      unfold firstE
      rw [if_pos (hp x (by simp))]
      exact ih h (fun y hy => hp y (by rw [List.take_succ_cons]; exact List.mem_cons_of_mem _ hy))
theorem firstE_zero {rs : List RuleR} (h : ∀ x ∈ rs, ruleE x = 0) : firstE rs = 0 := by
  induction rs with
  | nil => rfl
  | cons x rs ih => unfold firstE; rw [if_pos (h x (by simp))]; exact ih fun y hy => h y (List.mem_cons_of_mem _ hy)
theorem firstE_all {rs : List RuleR} (h : firstE rs = 0) : ∀ x ∈ rs, ruleE x = 0 := by
  induction rs with
  | nil => simp
  | cons x rs ih =>
    unfold firstE at h
    by_cases h0 : ruleE x = 0
    · rw [if_pos h0] at h
      intro y hy
      rcases List.mem_cons.1 hy with rfl | hy
      · exact h0
      · exact ih h y hy
    · rw [if_neg h0] at h; exact absurd h h0
noncomputable def polE (rs : List RuleR) (pn : Nat) : Int := if (100 : Int) < (pn : Int) then 5 else firstE rs
theorem size_rule : (Tryz.prog.info? 51).map (·.size) = some 8 := by kernel_rfl
theorem ruleV_one (r : RuleR) : ∀ v ∈ r.v, v.oneCell' = true := by
  intro v hv
  unfold RuleR.v at hv
  simp at hv
  rcases hv with rfl | rfl | rfl | rfl | rfl | rfl | rfl | rfl <;> rfl
def zeroRule : List Value := [.bool false, .slice none 0 0, .slice none 0 0, .slice none 0 0, .int .i64 0, .int .i64 0, .int .i64 0, .string ⟨#[]⟩]

set_option maxRecDepth 100000 in
set_option maxHeartbeats 2000000 in
theorem check_c (pa : Option Addr) (pn pc : Nat) (rs : List RuleR) (w : World) (hp : PolOk w pa pn pc rs) :
    Calls Tryz.prog 13 #[.agg #[.slice pa pn pc]] w fun e w' => e = .returned (.int .i64 (polE rs pn)) ∧ Ext w w' := by
  have HPO := hid hp
  have hn63 : pn ≤ 140737488355328 := by have := hp.hnc; have := hp.hm; omega
  have hrf := hid (fun r w' h => ruleFault_c r w' h)
  clear hp
  obtain ⟨E, hE⟩ : ∃ E, polE rs pn = E := ⟨_, rfl⟩
  have HE := hid hE
  rw [hE]
  clear hE
  go_enter Tryz.func13, Tryz.ntmps13
  go_upto_region 1 with (fail)
  generalize hwA : World.alloc w _ = wA
  have bA : Blk wA w.heap.size [.slice pa pn pc] 25 := by rw [← hwA]; exact Blk.mk_alloc rfl rfl
  have eA : Ext w wA := by rw [← hwA]; exact (Ext.refl w).alloc _
  have EA := hid eA
  have c0 := bA.cell' (i := 0) rfl
  clear hwA bA eA
  by_cases hbig : (100 : Int) < (pn : Int)
  · have d1 : decide ((100 : Int) < (pn : Int)) = true := decide_eq_true hbig
    have d2 : decide (100 < pn) = true := decide_eq_true (by omega)
    have HV := hid (show E = 5 by rw [← HE.out]; unfold polE; rw [if_pos hbig])
    clear hbig HE
    go_wp2
    go_ret
    exact ⟨by rw [HV.out]; rfl, EA.out⟩
  have d1 : decide ((100 : Int) < (pn : Int)) = false := decide_eq_false hbig
  have d2 : decide (100 < pn) = false := decide_eq_false (by omega)
  have HV := hid (show E = firstE rs by rw [← HE.out]; unfold polE; rw [if_neg hbig])
  clear HE
  go_wp2
  go_loopw [13] (fun i wr => ∃ k : Nat, k ≤ pn ∧ i = .int .i64 (k : Int) ∧ (∀ x ∈ rs.take k, ruleE x = 0) ∧ Ext w wr) (fun i _ => pn - (intOf i).toNat)
  case atStart => exact ⟨0, by omega, rfl, by simp, EA.out⟩
  case round =>
    obtain ⟨k, hk, rfl, hpre, e1⟩ := hrel
    have E1 := hid e1
    have HPR := hid hpre
    clear e1 hpre
    by_cases hlt : k < pn
    · obtain ⟨r, hrk⟩ : ∃ r, rs[k]? = some r := ⟨rs[k]'(by rw [HPO.out.hl]; exact hlt), by simp⟩
      obtain ⟨A, rfl, hca⟩ := (HPO.out.ext E1.out).at hrk
      have HCA := hid hca
      have HOK := hid ((HPO.out.ok r (List.mem_of_getElem? hrk)).ext E1.out)
      have HRL := hid (RuleR.len r)
      have HRK := hid hrk
      clear hca hrk
      have hro := ruleV_one r
      go_wp2_with (first | (refine wpl_run rfl (exec_index (i := k) rfl rfl rfl Tryz.underlying23 size_rule hlt _) ?_) | (refine wpl_run rfl (exec_load_at rfl rfl HCA.out agg_rule HRL.out) ?_) | (refine wpl_storew rfl _ (.tmp 4) _ rfl rfl rfl (Blk.mk_alloc (vs := zeroRule) rfl rfl) agg_rule rfl HRL.out hro ?_))
      intro wB bB uB
      have eB : Ext wr wB := uB.ext ((Ext.refl wr).alloc _) (Nat.le_refl _)
      have BB := hid bB
      have EB := hid (E1.out.ext eB)
      have HOB := hid (HOK.out.ext eB)
      clear bB uB eB HOK HCA
      generalize wr.heap.size = gr at *
      go_wp2_with (refine wpl_loadw rfl 51 (.tmp 4) rfl rfl BB.out agg_rule HRL.out ?_)
      refine (hrf.out r wB HOB.out).mono ?_
      rintro e wC ⟨rfl, eC⟩
      have EC := hid (EB.out.ext eC)
      clear eC BB EB HOB
      by_cases h0 : ruleE r = 0
      · have q1 : (ruleE r != 0) = false := by simp [h0]
        have q2 : decide (ruleE r = 0) = true := decide_eq_true h0
        have HN := hid (show ∀ x ∈ rs.take (k + 1), ruleE x = 0 from fun x hx => by
          rw [List.take_add_one, HRK.out, List.mem_append] at hx
          rcases hx with hx | hx
          · exact HPR.out x hx
          · simp at hx; rw [hx]; exact h0)
        generalize ruleE r = er at *
        subst h0
        clear HPR HRK
        go_wp2
        go_roundw
        case rel => exact ⟨k + 1, by omega, by go_num, HN.out, EC.out⟩
        case measure => simp [intOf]; omega
      · have q1 : (ruleE r != 0) = true := by simp [h0]
        have q2 : decide (ruleE r = 0) = false := decide_eq_false h0
        have HN := hid (HV.out.trans (firstE_hit HRK.out HPR.out h0))
        generalize ruleE r = er at *
        clear HPR HRK
        go_wp2
        go_ret
        exact ⟨by rw [HN.out]; rfl, EC.out⟩
    · obtain rfl : k = pn := by omega
      have hres := HPR.out
      rw [List.take_of_length_le (by rw [HPO.out.hl]; exact Nat.le_refl _)] at hres
      have HR := hid (HV.out.trans (firstE_zero hres))
      clear hres
      go_wp2
      go_ret
      exact ⟨by rw [HR.out]; rfl, E1.out⟩
end

section
open Go Go.RowKit

set_option maxRecDepth 100000 in
set_option maxHeartbeats 2000000 in
theorem checkPolicy_c (pa : Option Addr) (pn pc : Nat) (rs : List RuleR) (w : World) (hp : PolOk w pa pn pc rs) :
    Calls Tryz.prog 9 #[.agg #[.slice pa pn pc]] w fun e w' => e = .returned (.int .i64 (polE rs pn)) ∧ Ext w w' := by
  have HPO := hid hp
  have hn63 : pn ≤ 140737488355328 := by have := hp.hnc; have := hp.hm; omega
  have hrf := hid (fun r w' h => ruleError_c r w' h)
  clear hp
  obtain ⟨E, hE⟩ : ∃ E, polE rs pn = E := ⟨_, rfl⟩
  have HE := hid hE
  rw [hE]
  clear hE
  go_enter Tryz.func9, Tryz.ntmps9
  go_upto_region 1 with (fail)
  generalize hwA : World.alloc w _ = wA
  have bA : Blk wA w.heap.size [.slice pa pn pc] 25 := by rw [← hwA]; exact Blk.mk_alloc rfl rfl
  have eA : Ext w wA := by rw [← hwA]; exact (Ext.refl w).alloc _
  have EA := hid eA
  have c0 := bA.cell' (i := 0) rfl
  clear hwA bA eA
  by_cases hbig : (100 : Int) < (pn : Int)
  · have d1 : decide ((100 : Int) < (pn : Int)) = true := decide_eq_true hbig
    have d2 : decide (100 < pn) = true := decide_eq_true (by omega)
    have HV := hid (show E = 5 by rw [← HE.out]; unfold polE; rw [if_pos hbig])
    clear hbig HE
    go_wp2
    go_ret
    exact ⟨by rw [HV.out]; rfl, EA.out⟩
  have d1 : decide ((100 : Int) < (pn : Int)) = false := decide_eq_false hbig
  have d2 : decide (100 < pn) = false := decide_eq_false (by omega)
  have HV := hid (show E = firstE rs by rw [← HE.out]; unfold polE; rw [if_neg hbig])
  clear HE
  go_wp2
  go_loopw [13] (fun i wr => ∃ k : Nat, k ≤ pn ∧ i = .int .i64 (k : Int) ∧ (∀ x ∈ rs.take k, ruleE x = 0) ∧ Ext w wr) (fun i _ => pn - (intOf i).toNat)
  case atStart => exact ⟨0, by omega, rfl, by simp, EA.out⟩
  case round =>
    obtain ⟨k, hk, rfl, hpre, e1⟩ := hrel
    have E1 := hid e1
    have HPR := hid hpre
    clear e1 hpre
    by_cases hlt : k < pn
    · obtain ⟨r, hrk⟩ : ∃ r, rs[k]? = some r := ⟨rs[k]'(by rw [HPO.out.hl]; exact hlt), by simp⟩
      obtain ⟨A, rfl, hca⟩ := (HPO.out.ext E1.out).at hrk
      have HCA := hid hca
      have HOK := hid ((HPO.out.ok r (List.mem_of_getElem? hrk)).ext E1.out)
      have HRL := hid (RuleR.len r)
      have HRK := hid hrk
      clear hca hrk
      have hro := ruleV_one r
      go_wp2_with (first | (refine wpl_run rfl (exec_index (i := k) rfl rfl rfl Tryz.underlying23 size_rule hlt _) ?_) | (refine wpl_run rfl (exec_load_at rfl rfl HCA.out agg_rule HRL.out) ?_) | (refine wpl_storew rfl _ (.tmp 4) _ rfl rfl rfl (Blk.mk_alloc (vs := zeroRule) rfl rfl) agg_rule rfl HRL.out hro ?_))
      intro wB bB uB
      have eB : Ext wr wB := uB.ext ((Ext.refl wr).alloc _) (Nat.le_refl _)
      have BB := hid bB
      have EB := hid (E1.out.ext eB)
      have HOB := hid (HOK.out.ext eB)
      clear bB uB eB HOK HCA
      generalize wr.heap.size = gr at *
      go_wp2_with (refine wpl_loadw rfl 51 (.tmp 4) rfl rfl BB.out agg_rule HRL.out ?_)
      refine (hrf.out r wB HOB.out).mono ?_
      rintro e wC ⟨rfl, eC⟩
      have EC := hid (EB.out.ext eC)
      clear eC BB EB HOB
      by_cases h0 : ruleE r = 0
      · have q1 : (ruleE r != 0) = false := by simp [h0]
        have q2 : decide (ruleE r = 0) = true := decide_eq_true h0
        have HN := hid (show ∀ x ∈ rs.take (k + 1), ruleE x = 0 from fun x hx => by
          rw [List.take_add_one, HRK.out, List.mem_append] at hx
          rcases hx with hx | hx
          · exact HPR.out x hx
          · simp at hx; rw [hx]; exact h0)
        generalize ruleE r = er at *
        subst h0
        clear HPR HRK
        go_wp2
        go_roundw
        case rel => exact ⟨k + 1, by omega, by go_num, HN.out, EC.out⟩
        case measure => simp [intOf]; omega
      · have q1 : (ruleE r != 0) = true := by simp [h0]
        have q2 : decide (ruleE r = 0) = false := decide_eq_false h0
        have HN := hid (HV.out.trans (firstE_hit HRK.out HPR.out h0))
        generalize ruleE r = er at *
        clear HPR HRK
        go_wp2
        go_ret
        exact ⟨by rw [HN.out]; rfl, EC.out⟩
    · obtain rfl : k = pn := by omega
      have hres := HPR.out
      rw [List.take_of_length_le (by rw [HPO.out.hl]; exact Nat.le_refl _)] at hres
      have HR := hid (HV.out.trans (firstE_zero hres))
      clear hres
      go_wp2
      go_ret
      exact ⟨by rw [HR.out]; rfl, E1.out⟩
end

section
open Go Go.RowKit

section
variable {P : Program} {ops : Array Oper} {rest : List Oper} {o : Oper} {a : Act} {w : World} {Q : Exit → Act → World → Prop}
theorem wpList_want (hw : Region.wanted o (yielded ops a.tmps) = true) (h : ∀ K : Act → World → Prop, (∀ a w, wpList P ops Q rest a w → K a w) → o.wp P a w K Q) : wpList P ops Q (o :: rest) a w :=
  wpList_step fun K hK => by rw [if_pos hw]; exact h K hK
/-- a load that stands behind a guard -/
theorem wpg_loadw (hw : Region.wanted o (yielded ops a.tmps) = true) (ty : TypeId) (x : Operand) (ho : o.op = .load ty x) {g : Nat} {vs : List Value} {T : TypeId}
    (hx : a.eval x = .pointer (some ⟨g, 0, none⟩)) (hb : Blk w g vs T) {n : Nat} (ht : AggT P ty n) (hn : vs.length = n)
    (h : wpList P ops Q rest (a.put o.dst (.agg vs.toArray)) w) : wpList P ops Q (o :: rest) a w :=
  wpList_want hw fun K hK => by
    have h1 := run_load_sub (P := P) (off := 0) hb ht (by omega)
    have h2 : (vs.drop 0).take n = vs := by simp [← hn]
    rw [h2] at h1
    unfold Oper.wp execOp
    simp only [ho, hx, Instr.loadAt, Instr.sureAddr, Sem.run_bind, Sem.run_pure, Result.andThen_ok, h1]
    exact hK _ _ h
/-- a comparison of arrays, whether behind a guard or not -/
theorem wpg_cmp (hw : Region.wanted o (yielded ops a.tmps) = true) (op : BinOp) (t u : TypeId) (x y : Operand) (ho : o.op = .binOp op t x y u) {xs ys : Array Value} {b : Value} (hx : a.eval x = .agg xs) (hy : a.eval y = .agg ys)
    (hg : P.eqGuardType P.depth t = false) (hr : ∀ w, (binOp op t (.agg xs) (.agg ys)).run P w = .ok b w)
    (h : wpList P ops Q rest (a.put o.dst b) w) : wpList P ops Q (o :: rest) a w :=
  wpList_want hw fun K hK => by
    unfold Oper.wp execOp
    simp only [ho, hx, hy, Sem.run_bind, run_eqGuard_agg w op t x y xs ys hg, Result.andThen_ok, hr, Sem.run_pure]
    exact hK _ _ h
end

theorem run_eqFields_cons {P : Program} {d : Nat} {xs ys : Array Value} {f : Field} {fs : List Field} {a b : Value} {w : World} (hn : f.name ≠ "_") (h1 : (part f.type xs f.offset).run P w = .ok a w) (h2 : (part f.type ys f.offset).run P w = .ok b w) (h3 : (Op.equalIn d f.type a b).run P w = .ok true w) :
    (Op.eqFields d xs ys (f :: fs)).run P w = (Op.eqFields d xs ys fs).run P w := by
  simp [Op.eqFields, hn, h1, h2, h3]
theorem run_part_int {P : Program} {t : TypeId} {k : IntKind} {xs : Array Value} {off : Nat} {v : Value} {w : World} (ht : P.underlying t = some (.int k)) (hv : xs[off]? = some v) : (part t xs off).run P w = .ok v w := by
  simp [part, isAgg, run_underlying ht, hv]
theorem run_part_arr {P : Program} {t e : TypeId} {n m : Nat} {xs : Array Value} {off : Nat} {w : World} (ht : P.underlying t = some (.array n e)) (hs : P.cellsOf t = m) : (part t xs off).run P w = .ok (.agg (xs.extract off (off + m))) w := by
  obtain ⟨i, hi⟩ := info_of_underlying ht
  simp [part, isAgg, run_underlying ht, run_sizeOf w hi, hs]
end

section
structure FindR where
  st : Int
  en : Int
  at_ : Int
  er : Int
def zeroF : FindR := ⟨0, 0, 0, 0⟩
def txtGood : List UInt8 := [103, 111, 111, 100, 32]
def txtEntries : List UInt8 := [32, 101, 110, 116, 114, 105, 101, 115, 44, 32]
def txtOctets : List UInt8 := [32, 111, 99, 116, 101, 116, 115]
def txtEntry : List UInt8 := [101, 110, 116, 114, 121, 32]
def txtAt : List UInt8 := [32, 97, 116, 32]
def txtColon : List UInt8 := [58, 32]
def txtOpen : List UInt8 := [32, 40]
def txtError : List UInt8 := [101, 114, 114, 111, 114, 32]
def txtMid : List UInt8 := [32, 40, 101, 114, 114, 111, 114, 32]
def txtClose : List UInt8 := [41]
def phr1 : List UInt8 := [99, 97, 110, 110, 111, 116, 32, 98, 101, 32, 114, 101, 97, 100]
def phr2 : List UInt8 := [100, 111, 101, 115, 32, 110, 111, 116, 32, 102, 111, 108, 108, 111, 119]
def phr3 : List UInt8 := [119, 97, 115, 32, 110, 111, 116, 32, 97, 108, 108, 111, 119, 101, 100]
def phr4 : List UInt8 := [105, 115, 32, 110, 111, 116, 32, 119, 104, 97, 116, 32, 119, 97, 115, 32, 115, 101, 97, 108, 101, 100]
def phraseL (st : Int) : List UInt8 := if st = 1 then phr1 else if st = 2 then phr2 else if st = 3 then phr3 else phr4
def explE (f : FindR) : Int := if f.st < 0 ∨ 4 < f.st then 3 else if f.en < 0 ∨ f.at_ < 0 ∨ f.er < 0 then 4 else if decide (f.st = 0) != decide (f.er = 0) then 2 else 0
def explT (f : FindR) : List UInt8 :=
  if f.st = 0 then txtGood ++ (Lib.itoa f.en ++ (txtEntries ++ (Lib.itoa f.at_ ++ txtOctets)))
  else txtEntry ++ (Lib.itoa f.en ++ (txtAt ++ (Lib.itoa f.at_ ++ (txtColon ++ (phraseL f.st ++ (txtMid ++ (Lib.itoa f.er ++ txtClose)))))))
theorem explT_none (en a er : Int) : explT ⟨0, en, a, er⟩ = txtGood ++ Lib.itoa en ++ txtEntries ++ Lib.itoa a ++ txtOctets := by
  unfold explT; simp only [List.append_assoc, if_true]
theorem explT_some {st : Int} (h : st ≠ 0) (en a er : Int) : explT ⟨st, en, a, er⟩ = txtEntry ++ Lib.itoa en ++ txtAt ++ Lib.itoa a ++ txtColon ++ phraseL st ++ (txtOpen ++ txtError) ++ Lib.itoa er ++ txtClose := by
  unfold explT; simp only [if_neg h]
  rw [show txtMid = txtOpen ++ txtError from rfl]
  simp only [List.append_assoc]
def explL (f : FindR) : List UInt8 := if explE f = 0 then explT f else []

def numOf (l : List UInt8) : Int := match Lib.atoiAll l with | .ok v => v | .range => Lib.atoiSat l | _ => 0
def numOk (l : List UInt8) : Bool := match Lib.atoiAll l with | .ok _ => true | _ => false
structure BtwR where
  n : Int
  rest : List UInt8
  ok : Bool
def btwL (s head tail : List UInt8) : BtwR :=
  let c := Lib.cut (Lib.trimPrefix s head) tail
  ⟨numOf c.1, c.2.1, Lib.hasPrefix s head && c.2.2 && numOk c.1⟩
def stageL (what : List UInt8) : Int := if what = phr4 then 4 else if what = phr3 then 3 else if what = phr2 then 2 else if what = phr1 then 1 else 0
/-- what is read ahead of the last test -/
def tryL (s : List UInt8) : Option FindR :=
  let a := btwL s txtGood txtEntries
  let b := btwL a.rest [] txtOctets
  if a.ok && b.ok then some ⟨0, a.n, b.n, 0⟩
  else
    let c := btwL s txtEntry txtAt
    let d := btwL c.rest [] txtColon
    let w := Lib.cut d.rest txtOpen
    let g := btwL w.2.1 txtError txtClose
    if c.ok && d.ok && g.ok then some ⟨stageL w.1, c.n, d.n, g.n⟩ else none
def readsB (f : FindR) (s : List UInt8) : Bool := decide (explE f = 0) && decide (explT f = s)
def parseF (s : List UInt8) : FindR := match tryL s with | some f => if readsB f s then f else zeroF | none => zeroF
def parseFE (s : List UInt8) : Int := match tryL s with | some f => if readsB f s then 0 else 11 | none => 11

theorem parseF_no {s : List UInt8} (h : parseFE s ≠ 0) : parseFE s = 11 ∧ parseF s = zeroF := by
  unfold parseFE parseF at *
  cases ht : tryL s with
  | none => simp
  | some f =>
    rw [ht] at h
    cases hr : readsB f s with
    | true => simp [hr] at h
    | false => simp [hr]
theorem parseF_yes {s : List UInt8} (h : parseFE s = 0) : explE (parseF s) = 0 ∧ explT (parseF s) = s := by
  unfold parseFE parseF at *
  cases ht : tryL s with
  | none => rw [ht] at h; simp at h
  | some f =>
    rw [ht] at h
    cases hr : readsB f s with
    | false => simp [hr] at h
    | true =>
      simp only [hr, if_true]
      unfold readsB at hr
      simpa using hr

/-! ### numerals are read back -/
def digB (c : UInt8) : Bool := decide (48 ≤ c.toNat) && decide (c.toNat ≤ 57)
theorem ofNat48 (d : Nat) (h : d < 10) : (UInt8.ofNat (48 + d)).toNat = 48 + d := by
  rw [UInt8.toNat_ofNat']; omega
theorem parse_append : ∀ (l : List UInt8) (acc u d : Nat), Lib.parseUint10 acc l = .ok u → d < 10 → u < 1844674407370955161 → Lib.parseUint10 acc (l ++ [UInt8.ofNat (48 + d)]) = .ok (u * 10 + d)
  | [], acc, u, d, h, hd, hu => by
    simp only [Lib.parseUint10] at h
    injection h with h
    subst h
    have h1 := ofNat48 d hd
    simp only [List.nil_append, Lib.parseUint10, h1]
    rw [if_pos (by omega), if_neg (by omega), if_neg (by omega)]
    congr 1
    omega
  | c :: r, acc, u, d, h, hd, hu => by
    simp only [Lib.parseUint10, List.cons_append] at h ⊢
    split at h
    · split at h
      · cases h
      · split at h
        · cases h
        · rename_i h1 h2 h3
          rw [if_pos h1, if_neg h2, if_neg h3]
          exact parse_append r _ u d h hd hu
    · cases h
theorem parse_dec (u : Nat) : u < 18446744073709551610 → Lib.parseUint10 0 (Lib.decDigits u) = .ok u := by
  induction u using Nat.strongRecOn with
  | _ u ih =>
    intro hu
    rw [Lib.decDigits]
    by_cases h : u < 10
    · rw [dif_pos h]
      have h1 := ofNat48 u h
      simp only [Lib.parseUint10, h1]
      rw [if_pos (by omega), if_neg (by omega), if_neg (by omega)]
      congr 1
      omega
    · rw [dif_neg h, parse_append _ 0 (u / 10) (u % 10) (ih (u / 10) (by omega) (by omega)) (by omega) (by omega)]
      congr 1
      omega
theorem dec_dig (u : Nat) : ∀ c ∈ Lib.decDigits u, digB c = true := by
  induction u using Nat.strongRecOn with
  | _ u ih =>
    intro c hc
    rw [Lib.decDigits] at hc
    by_cases h : u < 10
    · rw [dif_pos h] at hc
      have : c = UInt8.ofNat (48 + u) := by simpa using hc
      subst this
      have h1 := ofNat48 u h
      simp [digB, h1]; omega
    · rw [dif_neg h] at hc
      rcases List.mem_append.1 hc with hc | hc
      · exact ih (u / 10) (by omega) c hc
      · have : c = UInt8.ofNat (48 + u % 10) := by simpa using hc
        subst this
        have h1 := ofNat48 (u % 10) (by omega)
        simp [digB, h1]; omega
theorem dec_ne (u : Nat) : Lib.decDigits u ≠ [] := by
  rw [Lib.decDigits]
  split <;> simp
theorem itoa_dec {n : Int} (h : 0 ≤ n) : Lib.itoa n = Lib.decDigits n.toNat := by unfold Lib.itoa; rw [if_neg (by omega)]
theorem itoa_dig {n : Int} (h : 0 ≤ n) : ∀ c ∈ Lib.itoa n, digB c = true := by rw [itoa_dec h]; exact dec_dig _
theorem atoi_itoa {n : Int} (h : 0 ≤ n) (hm : n ≤ 9223372036854775807) : Lib.atoiAll (Lib.itoa n) = .ok n := by
  have hd := itoa_dig h
  rw [itoa_dec h] at hd ⊢
  have hp := parse_dec n.toNat (by omega)
  have hne := dec_ne n.toNat
  cases hl : Lib.decDigits n.toNat with
  | nil => exact absurd hl hne
  | cons c r =>
    rw [hl] at hp hd
    have hc := hd c (by simp)
    simp only [digB, Bool.and_eq_true, decide_eq_true_eq] at hc
    unfold Lib.atoiAll
    simp only
    rw [if_neg (by omega)]
    unfold Lib.parseMag
    rw [if_neg (by simp), hp]
    simp only
    rw [if_neg (by omega), if_neg (by omega), if_neg (by omega)]
    congr 1
    omega
theorem numOk_itoa {n : Int} (h : 0 ≤ n) (hm : n ≤ 9223372036854775807) : numOk (Lib.itoa n) = true := by unfold numOk; rw [atoi_itoa h hm]
theorem numOf_itoa {n : Int} (h : 0 ≤ n) (hm : n ≤ 9223372036854775807) : numOf (Lib.itoa n) = n := by unfold numOf; rw [atoi_itoa h hm]

theorem dec_len : ∀ (k u : Nat), u < 10 ^ (k + 1) → (Lib.decDigits u).length ≤ k + 1
  | 0, u, h => by rw [Lib.decDigits, dif_pos (by simpa using h)]; simp
  | k + 1, u, h => by
    rw [Lib.decDigits]
    by_cases h1 : u < 10
    · rw [dif_pos h1]; simp
    · rw [dif_neg h1, List.length_append]
      have := dec_len k (u / 10) (by rw [Nat.pow_succ] at h; omega)
      simp; omega
theorem itoa_len {n : Int} (h0 : -9223372036854775808 ≤ n) (h1 : n ≤ 9223372036854775807) : (Lib.itoa n).length ≤ 20 := by
  unfold Lib.itoa
  split
  · have := dec_len 18 n.natAbs (by simp; omega)
    simp; omega
  · have := dec_len 18 n.toNat (by simp; omega)
    omega
theorem phrase_len (st : Int) : (phraseL st).length ≤ 22 := by
  unfold phraseL
  split
  · decide
  · split
    · decide
    · split <;> decide

/-! ### cuts behind numerals -/
theorem index_behind {t : UInt8} {ts r : List UInt8} : ∀ (d : List UInt8), t ∉ d → Lib.index (d ++ (t :: ts) ++ r) (t :: ts) = d.length
  | [], _ => by
    simp only [List.nil_append, List.cons_append, Lib.index, List.length_nil]
    rw [if_pos]
    · rfl
    · simp
  | c :: d, h => by
    have h1 : t ≠ c := fun e => h (by simp [e])
    have h2 := index_behind (t := t) (ts := ts) (r := r) d (fun e => h (by simp [e]))
    simp only [List.cons_append, Lib.index, List.length_cons] at h2 ⊢
    rw [if_neg (by simp [h1]), h2, if_neg (by simp)]
    omega
theorem cut_behind {t : UInt8} {ts r : List UInt8} (d : List UInt8) (h : t ∉ d) : Lib.cut (d ++ (t :: ts) ++ r) (t :: ts) = (d, r, true) := by
  unfold Lib.cut
  rw [index_behind d h, if_pos (by omega)]
  have e1 : ((d.length : Int)).toNat = d.length := by omega
  rw [e1]
  congr 1
  · simp
  · congr 1
    rw [List.append_assoc, List.drop_append, List.drop_of_length_le (by omega), List.nil_append, show d.length + (t :: ts).length - d.length = (t :: ts).length by omega]
    simp
theorem not_dig {n : Int} (h : 0 ≤ n) {t : UInt8} (ht : digB t = false) : t ∉ Lib.itoa n := fun hm => by rw [itoa_dig h t hm] at ht; cases ht
theorem prefix_of (p r : List UInt8) : Lib.hasPrefix (p ++ r) p = true := by unfold Lib.hasPrefix; simp
theorem trim_of (p r : List UInt8) : Lib.trimPrefix (p ++ r) p = r := by unfold Lib.trimPrefix; rw [prefix_of]; simp
theorem btw_of {n : Int} (h : 0 ≤ n) (hm : n ≤ 9223372036854775807) {p ts r : List UInt8} {t : UInt8} (ht : digB t = false) : btwL (p ++ (Lib.itoa n ++ (t :: ts) ++ r)) p (t :: ts) = ⟨n, r, true⟩ := by
  unfold btwL
  simp only [trim_of, prefix_of, cut_behind _ (not_dig h ht), numOk_itoa h hm, numOf_itoa h hm, Bool.and_self]
theorem index_two {r : List UInt8} : ∀ (d : List UInt8), (40 : UInt8) ∉ d → Lib.index (d ++ txtOpen ++ r) txtOpen = d.length
  | [], _ => by
    simp only [txtOpen, List.nil_append, List.cons_append, Lib.index, List.length_nil]
    rw [if_pos]
    · rfl
    · simp
  | c :: d, h => by
    have h2 := index_two (r := r) d (fun e => h (by simp [e]))
    have h3 : txtOpen.isPrefixOf (c :: (d ++ txtOpen ++ r)) = false := by
      cases d with
      | nil =>
        simp only [txtOpen, List.nil_append, List.cons_append, List.isPrefixOf]
        simp
      | cons x d =>
        have hx : (40 : UInt8) ≠ x := fun e => h (by simp [e])
        simp only [txtOpen, List.cons_append, List.isPrefixOf]
        simp [hx]
    simp only [List.cons_append, Lib.index, List.length_cons] at h2 ⊢
    rw [h3]
    simp only [Bool.false_eq_true, if_false]
    rw [h2, if_neg (by simp)]
    omega
theorem cut_two {r : List UInt8} (d : List UInt8) (h : (40 : UInt8) ∉ d) : Lib.cut (d ++ txtOpen ++ r) txtOpen = (d, r, true) := by
  unfold Lib.cut
  rw [index_two d h, if_pos (by omega)]
  have e1 : ((d.length : Int)).toNat = d.length := by omega
  rw [e1]
  congr 1
  · simp
  · congr 1
    rw [List.append_assoc, List.drop_append, List.drop_of_length_le (by omega), List.nil_append, show d.length + txtOpen.length - d.length = txtOpen.length by omega]
    simp
theorem cut_phrase (st : Int) (r : List UInt8) : Lib.cut (phraseL st ++ txtOpen ++ r) txtOpen = (phraseL st, r, true) := by
  refine cut_two _ ?_
  unfold phraseL
  split
  · decide
  · split
    · decide
    · split <;> decide
theorem stage_phrase {st : Int} (h0 : st ≠ 0) (h1 : 0 ≤ st) (h4 : st ≤ 4) : stageL (phraseL st) = st := by
  have : st = 1 ∨ st = 2 ∨ st = 3 ∨ st = 4 := by omega
  rcases this with rfl | rfl | rfl | rfl <;> decide

theorem parse_expl {f : FindR} (h : explE f = 0) (b1 : f.en ≤ 9223372036854775807) (b2 : f.at_ ≤ 9223372036854775807) (b3 : f.er ≤ 9223372036854775807) : parseF (explT f) = f ∧ parseFE (explT f) = 0 := by
  obtain ⟨st, en, a, er⟩ := f
  have h' := h
  unfold explE at h
  simp only at h b1 b2 b3
  split at h
  · simp at h
  rename_i g1
  split at h
  · simp at h
  rename_i g2
  split at h
  · simp at h
  rename_i g3
  have key : tryL (explT ⟨st, en, a, er⟩) = some ⟨st, en, a, er⟩ := by
    unfold tryL
    by_cases hs : st = 0
    · subst hs
      have he : er = 0 := by simpa using g3
      subst he
      rw [explT_none]
      have e1 : btwL (txtGood ++ Lib.itoa en ++ txtEntries ++ Lib.itoa a ++ txtOctets) txtGood txtEntries = ⟨en, Lib.itoa a ++ txtOctets, true⟩ := by
        have := btw_of (n := en) (by omega) b1 (p := txtGood) (t := 32) (ts := [101, 110, 116, 114, 105, 101, 115, 44, 32]) (r := Lib.itoa a ++ txtOctets) (by decide)
        have e : txtGood ++ Lib.itoa en ++ txtEntries ++ Lib.itoa a ++ txtOctets = txtGood ++ (Lib.itoa en ++ txtEntries ++ (Lib.itoa a ++ txtOctets)) := by simp only [List.append_assoc]
        rw [e]; exact this
      have e2 : btwL (Lib.itoa a ++ txtOctets) [] txtOctets = ⟨a, [], true⟩ := by
        have := btw_of (n := a) (by omega) b2 (p := []) (t := 32) (ts := [111, 99, 116, 101, 116, 115]) (r := []) (by decide)
        have e : Lib.itoa a ++ txtOctets = [] ++ (Lib.itoa a ++ txtOctets ++ []) := by simp
        rw [e]; exact this
      rw [e1]
      simp only
      rw [e2]
      simp
    · rw [explT_some hs]
      have hne : er ≠ 0 := by
        intro he
        subst he
        simp [hs] at g3
      have e0 : ∀ r, (btwL (txtEntry ++ r) txtGood txtEntries).ok = false := by
        intro r
        unfold btwL
        simp only
        have : Lib.hasPrefix (txtEntry ++ r) txtGood = false := rfl
        rw [this]; rfl
      have e1 : btwL (txtEntry ++ Lib.itoa en ++ txtAt ++ Lib.itoa a ++ txtColon ++ phraseL st ++ (txtOpen ++ txtError) ++ Lib.itoa er ++ txtClose) txtEntry txtAt = ⟨en, Lib.itoa a ++ txtColon ++ phraseL st ++ (txtOpen ++ txtError) ++ Lib.itoa er ++ txtClose, true⟩ := by
        have := btw_of (n := en) (by omega) b1 (p := txtEntry) (t := 32) (ts := [97, 116, 32]) (r := Lib.itoa a ++ txtColon ++ phraseL st ++ (txtOpen ++ txtError) ++ Lib.itoa er ++ txtClose) (by decide)
        rw [show txtEntry ++ Lib.itoa en ++ txtAt ++ Lib.itoa a ++ txtColon ++ phraseL st ++ (txtOpen ++ txtError) ++ Lib.itoa er ++ txtClose = txtEntry ++ (Lib.itoa en ++ txtAt ++ (Lib.itoa a ++ txtColon ++ phraseL st ++ (txtOpen ++ txtError) ++ Lib.itoa er ++ txtClose)) by simp only [List.append_assoc]]
        exact this
      have e2 : btwL (Lib.itoa a ++ txtColon ++ phraseL st ++ (txtOpen ++ txtError) ++ Lib.itoa er ++ txtClose) [] txtColon = ⟨a, phraseL st ++ (txtOpen ++ txtError) ++ Lib.itoa er ++ txtClose, true⟩ := by
        have := btw_of (n := a) (by omega) b2 (p := []) (t := 58) (ts := [32]) (r := phraseL st ++ (txtOpen ++ txtError) ++ Lib.itoa er ++ txtClose) (by decide)
        rw [show Lib.itoa a ++ txtColon ++ phraseL st ++ (txtOpen ++ txtError) ++ Lib.itoa er ++ txtClose = [] ++ (Lib.itoa a ++ txtColon ++ (phraseL st ++ (txtOpen ++ txtError) ++ Lib.itoa er ++ txtClose)) by simp only [List.append_assoc, List.nil_append]]
        exact this
      have e3 : Lib.cut (phraseL st ++ (txtOpen ++ txtError) ++ Lib.itoa er ++ txtClose) txtOpen = (phraseL st, txtError ++ Lib.itoa er ++ txtClose, true) := by
        have := cut_phrase st (txtError ++ Lib.itoa er ++ txtClose)
        rw [show phraseL st ++ (txtOpen ++ txtError) ++ Lib.itoa er ++ txtClose = phraseL st ++ txtOpen ++ (txtError ++ Lib.itoa er ++ txtClose) by simp only [List.append_assoc]]
        exact this
      have e4 : btwL (txtError ++ Lib.itoa er ++ txtClose) txtError txtClose = ⟨er, [], true⟩ := by
        have := btw_of (n := er) (by omega) b3 (p := txtError) (t := 41) (ts := []) (r := []) (by decide)
        rw [show txtError ++ Lib.itoa er ++ txtClose = txtError ++ (Lib.itoa er ++ txtClose ++ []) by simp]
        exact this
      have e5 : (btwL (txtEntry ++ Lib.itoa en ++ txtAt ++ Lib.itoa a ++ txtColon ++ phraseL st ++ (txtOpen ++ txtError) ++ Lib.itoa er ++ txtClose) txtGood txtEntries).ok = false := by
        simp only [List.append_assoc]
        exact e0 _
      rw [e1]
      simp only [e5, Bool.false_and, Bool.false_eq_true, if_false]
      rw [e2]
      simp only
      rw [e3]
      simp only
      rw [e4]
      simp only [Bool.and_self, if_true]
      rw [stage_phrase hs (by omega) (by omega)]
  have hr : readsB ⟨st, en, a, er⟩ (explT ⟨st, en, a, er⟩) = true := by
    unfold readsB
    rw [h']; simp
  unfold parseF parseFE
  rw [key]
  simp [hr]
end

section
open Go Go.RowKit Go.Lib

theorem index_cons1 (b c : UInt8) (l : List UInt8) : index (b :: l) [c] = if c = b then 0 else if index l [c] == -1 then -1 else index l [c] + 1 := by
  have e : index (b :: l) [c] = if ([c] : List UInt8).isPrefixOf (b :: l) = true then 0 else if index l [c] == -1 then -1 else index l [c] + 1 := rfl
  rw [e]
  by_cases h : c = b
  · rw [if_pos h]; subst h; rw [if_pos (by simp [List.isPrefixOf])]
  · rw [if_neg h]
    have : ([c] : List UInt8).isPrefixOf (b :: l) = false := by simp [List.isPrefixOf, h]
    rw [this, if_neg (by simp)]
theorem splitK_eq (c : UInt8) (k : Nat) (l : List UInt8) : splitK [c] 0 (k + 1) (c :: l) = [] :: splitK [c] 0 k l := by
  have hi : index (c :: l) [c] = 0 := by rw [index_cons1, if_pos rfl]
  rw [splitK, if_neg (by rw [hi]; decide), hi]
  rfl
def consHd (b : UInt8) : List (List UInt8) → List (List UInt8)
  | [] => [[b]]
  | x :: r => (b :: x) :: r
theorem splitK_ne {b c : UInt8} (h : b ≠ c) (k : Nat) (l : List UInt8) : splitK [c] 0 k (b :: l) = consHd b (splitK [c] 0 k l) := by
  cases k with
  | zero => rfl
  | succ k =>
    have hi := index_cons1 b c l
    rw [if_neg (fun e => h e.symm)] at hi
    by_cases hm : (index l [c] == -1) = true
    · rw [if_pos hm] at hi
      have h1 : splitK [c] 0 (k + 1) (b :: l) = [b :: l] := by unfold splitK; rw [hi]; rfl
      have h2 : splitK [c] 0 (k + 1) l = [l] := by unfold splitK; rw [if_pos hm]
      rw [h1, h2]; rfl
    · rw [if_neg hm] at hi
      have hge := index_ge l [c]
      have hne : ¬ index l [c] = -1 := fun e => hm (beq_iff_eq.2 e)
      obtain ⟨i, hi2⟩ : ∃ i : Nat, index l [c] = i := ⟨(index l [c]).toNat, by omega⟩
      have e1 : (index (b :: l) [c]).toNat = i + 1 := by rw [hi, hi2]; omega
      have e2 : (index l [c]).toNat = i := by rw [hi2]; omega
      have h1 : splitK [c] 0 (k + 1) (b :: l) = (b :: l).take (i + 1) :: splitK [c] 0 k ((b :: l).drop (i + 1 + 1)) := by
        rw [splitK, if_neg (by rw [hi, hi2]; intro e; have := beq_iff_eq.1 e; omega), e1]; rfl
      have h2 : splitK [c] 0 (k + 1) l = l.take i :: splitK [c] 0 k (l.drop (i + 1)) := by
        rw [splitK, if_neg hm, e2]; rfl
      rw [h1, h2]; rfl
def splitR (c : UInt8) : List UInt8 → List (List UInt8)
  | [] => [[]]
  | b :: l => if b = c then [] :: splitR c l else consHd b (splitR c l)
theorem splitR_of (c : UInt8) : ∀ l : List UInt8, splitK [c] 0 (count l [c]) l = splitR c l
  | [] => by rw [count_one]; rfl
  | b :: l => by
    unfold splitR
    by_cases h : b = c
    · subst h
      rw [if_pos rfl, count_cons_eq, Nat.add_comm, splitK_eq, splitR_of b l]
    · rw [if_neg h, count_cons_ne b c l h, splitK_ne h, splitR_of c l]
theorem splitR_ne (c : UInt8) : ∀ l : List UInt8, splitR c l ≠ []
  | [] => by simp [splitR]
  | b :: l => by
    unfold splitR
    split
    · simp
    · cases hs : splitR c l with
      | nil => exact absurd hs (splitR_ne c l)
      | cons x r => simp [consHd]
/-- the words between octets of which q holds -/
def wordsG (q : UInt8 → Bool) : List UInt8 → List UInt8 → List (List UInt8)
  | cur, [] => if cur = [] then [] else [cur]
  | cur, b :: l => if q b then (if cur = [] then wordsG q [] l else cur :: wordsG q [] l) else wordsG q (cur ++ [b]) l
theorem words_split (c : UInt8) : ∀ (l cur h : List UInt8) (t : List (List UInt8)), splitR c l = h :: t → ((cur ++ h) :: t).filter (fun x => !x.isEmpty) = wordsG (fun b => b == c) cur l
  | [], cur, h, t, e => by
    unfold splitR at e
    injection e with e1 e2
    subst e1 e2
    unfold wordsG
    cases cur with
    | nil => rfl
    | cons x y => simp
  | b :: l, cur, h, t, e => by
    unfold splitR at e
    unfold wordsG
    by_cases hb : b = c
    · rw [if_pos hb] at e
      injection e with e1 e2
      subst e1 e2
      rw [if_pos (by simpa using hb)]
      obtain ⟨h2, t2, h3⟩ : ∃ h2 t2, splitR c l = h2 :: t2 := by
        cases hs : splitR c l with
        | nil => exact absurd hs (splitR_ne c l)
        | cons x y => exact ⟨x, y, rfl⟩
      have ih := words_split c l [] h2 t2 h3
      rw [List.nil_append] at ih
      rw [h3, ← ih]
      cases cur with
      | nil => simp
      | cons x y => simp
    · rw [if_neg hb] at e
      obtain ⟨h2, t2, h3⟩ : ∃ h2 t2, splitR c l = h2 :: t2 := by
        cases hs : splitR c l with
        | nil => exact absurd hs (splitR_ne c l)
        | cons x y => exact ⟨x, y, rfl⟩
      rw [h3] at e
      injection e with e1 e2
      subst e1 e2
      rw [if_neg (by simpa using hb), ← words_split c l (cur ++ [b]) h2 t2 h3]
      simp
def tabB (b : UInt8) : UInt8 := if b = 9 then 32 else b
theorem replaceK_eq (k : Nat) (l : List UInt8) : replaceK [9] [32] (k + 1) (9 :: l) = 32 :: replaceK [9] [32] k l := by
  have hi : index (9 :: l) [9] = ((0 : Nat) : Int) := by rw [index_cons1, if_pos rfl]; rfl
  rw [replaceK_hit _ _ _ _ 0 hi]
  simp
theorem replaceK_ne {b : UInt8} (h : b ≠ 9) (k : Nat) (l : List UInt8) : replaceK [9] [32] k (b :: l) = b :: replaceK [9] [32] k l := by
  cases k with
  | zero => rfl
  | succ k =>
    have hi := index_cons1 b 9 l
    rw [if_neg (fun e => h e.symm)] at hi
    by_cases hm : (index l [9] == -1) = true
    · rw [if_pos hm] at hi
      have h1 : replaceK [9] [32] (k + 1) (b :: l) = b :: l := by unfold replaceK; rw [hi]; rfl
      have h2 : replaceK [9] [32] (k + 1) l = l := by unfold replaceK; rw [if_pos hm]
      rw [h1, h2]
    · rw [if_neg hm] at hi
      have hge := index_ge l [9]
      have hne : ¬ index l [9] = -1 := fun e => hm (beq_iff_eq.2 e)
      obtain ⟨i, hi2⟩ : ∃ i : Nat, index l [9] = i := ⟨(index l [9]).toNat, by omega⟩
      rw [replaceK_hit _ _ _ _ (i + 1) (by rw [hi, hi2]; rfl), replaceK_hit _ _ _ _ i hi2]
      simp
theorem replaceK_map : ∀ l : List UInt8, replaceK [9] [32] (count l [9]) l = l.map tabB
  | [] => by rw [count_one]; rfl
  | b :: l => by
    by_cases h : b = 9
    · subst h
      rw [count_cons_eq, Nat.add_comm, replaceK_eq, replaceK_map l]; rfl
    · rw [count_cons_ne b 9 l h, replaceK_ne h, replaceK_map l, List.map_cons]
      unfold tabB
      rw [if_neg h]
theorem replaceAll_map (l : List UInt8) : replaceAll l [9] [32] = l.map tabB := by
  unfold replaceAll replace
  rw [if_neg (by decide)]
  unfold replaceNum
  rw [if_pos (Or.inl (by decide))]
  exact replaceK_map l
def blankB (b : UInt8) : Bool := b == 32 || b == 9
theorem words_tab : ∀ (l cur : List UInt8), wordsG (fun b => b == 32) cur (l.map tabB) = wordsG blankB cur l
  | [], cur => rfl
  | b :: l, cur => by
    rw [List.map_cons]
    unfold wordsG
    by_cases h9 : b = 9
    · subst h9
      rw [if_pos (show ((fun b : UInt8 => b == 32) (tabB 9)) = true from rfl), if_pos (show blankB 9 = true from rfl), words_tab l []]
    · have ht : tabB b = b := by unfold tabB; rw [if_neg h9]
      rw [ht, words_tab l [], words_tab l (cur ++ [b])]
      have hb : blankB b = (b == 32) := by unfold blankB; rw [show (b == 9) = false from beq_eq_false_iff_ne.2 h9, Bool.or_false]
      rw [hb]
/-- the words of a line -/
def wordsTL (l : List UInt8) : List (List UInt8) := wordsG blankB [] l
theorem words_one (l : List UInt8) : (splitK [32] 0 (count (replaceAll l [9] [32]) [32]) (replaceAll l [9] [32])).filter (fun x => !x.isEmpty) = wordsTL l := by
  rw [replaceAll_map, splitR_of]
  obtain ⟨h2, t2, h3⟩ : ∃ h2 t2, splitR 32 (l.map tabB) = h2 :: t2 := by
    cases hs : splitR 32 (l.map tabB) with
    | nil => exact absurd hs (splitR_ne 32 _)
    | cons x y => exact ⟨x, y, rfl⟩
  have := words_split 32 (l.map tabB) [] h2 t2 h3
  rw [List.nil_append] at this
  rw [h3, this, words_tab]
  rfl
theorem words_skip (q : UInt8 → Bool) : ∀ (x cur r : List UInt8), (∀ b ∈ x, q b = false) → wordsG q cur (x ++ r) = wordsG q (cur ++ x) r
  | [], cur, r, _ => by simp
  | b :: x, cur, r, h => by
    rw [List.cons_append]
    conv => lhs; unfold wordsG
    rw [h b (by simp), if_neg (by simp), words_skip q x (cur ++ [b]) r (fun c hc => h c (by simp [hc]))]
    simp
/-- a blank among the runes -/
def blankR (r : Nat) : Bool := r == 32 || r == 9
theorem decodeN_lo (n b0 b1 b2 b3 : Nat) (h : b0 < 128) : decodeN n b0 b1 b2 b3 = (b0, 1) := by unfold decodeN; rw [if_pos h]
theorem decodeN_hi (n b0 b1 b2 b3 : Nat) (h : ¬ b0 < 128) : 128 ≤ (decodeN n b0 b1 b2 b3).1 := by
  unfold decodeN
  rw [if_neg h]
  repeat' split
  all_goals (simp only; omega)
def pieceL (l : List UInt8) (x : Nat × Nat) : List UInt8 := (l.drop x.1).take (x.2 - x.1)
def curL (l : List UInt8) (st : Option Nat) (pos : Nat) : List UInt8 := match st with | some a => pieceL l (a, pos) | none => []
theorem piece_grow (l : List UInt8) (a pos k : Nat) (h : a ≤ pos) : pieceL l (a, pos) ++ (l.drop pos).take k = pieceL l (a, pos + k) := by
  unfold pieceL
  simp only
  have e : l.drop pos = (l.drop a).drop (pos - a) := by rw [List.drop_drop]; congr 1; omega
  rw [e, show pos + k - a = (pos - a) + k by omega, ← List.take_add]
theorem piece_ne (l : List UInt8) {a pos : Nat} (h : a < pos) (hp : pos ≤ l.length) : pieceL l (a, pos) ≠ [] := by
  unfold pieceL
  intro e
  have := congrArg List.length e
  simp only [List.length_take, List.length_drop, List.length_nil] at this
  omega
theorem spans_words (s : ByteArray) : ∀ (f pos : Nat) (st : Option Nat) (acc : List (Nat × Nat)), s.size ≤ pos + f → pos ≤ s.size → (∀ a, st = some a → a < pos) →
    (closeSpans s (spansFromP blankR s f pos st acc)).map (pieceL s.data.toList) = acc.map (pieceL s.data.toList) ++ wordsG blankB (curL s.data.toList st pos) (s.data.toList.drop pos) := by
  have hsz : s.data.toList.length = s.size := by first | rfl | simp
  have close : ∀ (pos : Nat) (st : Option Nat) (acc : List (Nat × Nat)), ¬ pos < s.size → pos ≤ s.size → (∀ a, st = some a → a < pos) → (closeSpans s (acc, st)).map (pieceL s.data.toList) = acc.map (pieceL s.data.toList) ++ wordsG blankB (curL s.data.toList st pos) (s.data.toList.drop pos) := by
    intro pos st acc h1 h2 h3
    obtain rfl : pos = s.size := by omega
    rw [List.drop_of_length_le (by omega)]
    unfold closeSpans wordsG curL
    cases st with
    | none => simp
    | some a =>
      have := piece_ne s.data.toList (h3 a rfl) (by omega)
      simp [this]
  intro f
  induction f with
  | zero =>
    intro pos st acc h1 h2 h3
    exact close pos st acc (by omega) h2 h3
  | succ f ih =>
    intro pos st acc h1 h2 h3
    by_cases hp : pos < s.size
    · have hdec := decode_N s pos
      have hwp := decode_width_pos s pos hp
      obtain ⟨b, hb⟩ : ∃ b, s.data.toList[pos]? = some b := ⟨s.data.toList[pos]'(by omega), by simp⟩
      have hg0 : s.data.toList.getD pos 0 = b := by rw [List.getD_eq_getElem?_getD, hb]; rfl
      have hdrop : s.data.toList.drop pos = b :: s.data.toList.drop (pos + 1) := by
        obtain ⟨hl, he⟩ := List.getElem?_eq_some_iff.1 hb
        rw [← he]; exact List.drop_eq_getElem_cons hl
      obtain ⟨r, wd, hrw⟩ : ∃ r wd, Utf8.decode s pos = (r, wd) := ⟨_, _, rfl⟩
      rw [hg0] at hdec
      have hN : spansFromP blankR s (f + 1) pos none acc = if blankR r = true then spansFromP blankR s f (pos + wd) none acc else spansFromP blankR s f (pos + wd) (some pos) acc := by
        conv => lhs; unfold spansFromP
        rw [if_pos hp, hrw]
      have hS : ∀ a, spansFromP blankR s (f + 1) pos (some a) acc = if blankR r = true then spansFromP blankR s f (pos + wd) none (acc ++ [(a, pos)]) else spansFromP blankR s f (pos + wd) (some a) acc := by
        intro a
        conv => lhs; unfold spansFromP
        rw [if_pos hp, hrw]
      rw [hrw] at hdec hwp
      simp only at hwp
      by_cases hlo : b.toNat < 128
      · rw [decodeN_lo _ _ _ _ _ hlo] at hdec
        injection hdec with hr hw
        subst hr hw
        have hbb : blankR b.toNat = blankB b := by
          unfold blankR blankB
          congr 1
          · rw [Bool.eq_iff_iff, beq_iff_eq, beq_iff_eq, ← UInt8.toNat_inj]; rfl
          · rw [Bool.eq_iff_iff, beq_iff_eq, beq_iff_eq, ← UInt8.toNat_inj]; rfl
        rw [hdrop]
        conv => rhs; rw [wordsG]
        cases hq : blankB b with
        | true =>
          cases st with
          | none =>
            have := ih (pos + 1) none acc (by omega) (by omega) (fun a h => by cases h)
            rw [hN, hbb, hq, if_pos rfl, this]
            rfl
          | some a =>
            have := ih (pos + 1) none (acc ++ [(a, pos)]) (by omega) (by omega) (fun a h => by cases h)
            rw [hS, hbb, hq, if_pos rfl, this]
            have hn : ¬ curL s.data.toList (some a) pos = [] := piece_ne s.data.toList (h3 a rfl) (by omega)
            rw [if_pos rfl, if_neg hn]
            simp [curL]
        | false =>
          have htk : (s.data.toList.drop pos).take 1 = [b] := by rw [hdrop]; rfl
          cases st with
          | none =>
            have := ih (pos + 1) (some pos) acc (by omega) (by omega) (fun a h => by cases h; omega)
            rw [hN, hbb, hq, if_neg (by simp), if_neg (by simp), this]
            congr 2
            show pieceL s.data.toList (pos, pos + 1) = [] ++ [b]
            unfold pieceL
            simp only
            rw [show pos + 1 - pos = 1 by omega, htk]; rfl
          | some a =>
            have ha := h3 a rfl
            have := ih (pos + 1) (some a) acc (by omega) (by omega) (fun a' h => by cases h; omega)
            rw [hS, hbb, hq, if_neg (by simp), if_neg (by simp), this]
            congr 2
            show pieceL s.data.toList (a, pos + 1) = pieceL s.data.toList (a, pos) ++ [b]
            rw [← piece_grow _ _ _ _ (by omega), htk]
      · have hr1 := decodeN_hi (s.data.toList.length - pos) b.toNat (s.data.toList.getD (pos + 1) 0).toNat (s.data.toList.getD (pos + 2) 0).toNat (s.data.toList.getD (pos + 3) 0).toNat hlo
        have hcn := decodeN_conts (s.data.toList.length - pos) b.toNat (s.data.toList.getD (pos + 1) 0).toNat (s.data.toList.getD (pos + 2) 0).toNat (s.data.toList.getD (pos + 3) 0).toNat
        have hle := decodeN_le_n' (s.data.toList.length - pos) b.toNat (s.data.toList.getD (pos + 1) 0).toNat (s.data.toList.getD (pos + 2) 0).toNat (s.data.toList.getD (pos + 3) 0).toNat (by omega)
        rw [← hdec] at hr1 hcn hle
        simp only at hr1 hcn hle
        have hnb : blankR r = false := by unfold blankR; rw [beq_eq_false_iff_ne.2 (by omega), beq_eq_false_iff_ne.2 (by omega)]; rfl
        have hbytes : ∀ c ∈ (s.data.toList.drop pos).take wd, blankB c = false := by
          intro c hc
          obtain ⟨j, hj⟩ := List.getElem?_of_mem hc
          have hjw : j < wd := by
            have := (List.getElem?_eq_some_iff.1 hj).1
            rw [List.length_take] at this
            omega
          rw [List.getElem?_take_of_lt hjw, List.getElem?_drop] at hj
          have h128 : 128 ≤ c.toNat := by
            have hgd : s.data.toList.getD (pos + j) 0 = c := by rw [List.getD_eq_getElem?_getD, hj]; rfl
            obtain ⟨k1, k2, k3, k4⟩ := hcn
            rcases (show j = 0 ∨ j = 1 ∨ j = 2 ∨ j = 3 by omega) with rfl | rfl | rfl | rfl
            · rw [Nat.add_zero, hg0] at hgd
              rw [← hgd]; omega
            · have := (k1 (by omega)).1
              rw [hgd] at this; omega
            · have := (k2 (by omega)).1
              rw [hgd] at this; omega
            · have := (k3 (by omega)).1
              rw [hgd] at this; omega
          unfold blankB
          rw [Bool.or_eq_false_iff, beq_eq_false_iff_ne, beq_eq_false_iff_ne]
          exact ⟨fun e => by subst e; exact absurd h128 (by decide), fun e => by subst e; exact absurd h128 (by decide)⟩
        have hsplit : s.data.toList.drop pos = (s.data.toList.drop pos).take wd ++ s.data.toList.drop (pos + wd) := by
          rw [← List.drop_drop, List.take_append_drop]
        rw [hsplit, words_skip _ _ _ _ hbytes]
        cases st with
        | none =>
          have := ih (pos + wd) (some pos) acc (by omega) (by omega) (fun a h => by cases h; omega)
          rw [hN, hnb, if_neg (by simp), this]
          congr 2
          show pieceL s.data.toList (pos, pos + wd) = [] ++ (s.data.toList.drop pos).take wd
          unfold pieceL
          simp only
          rw [show pos + wd - pos = wd by omega]; rfl
        | some a =>
          have ha := h3 a rfl
          have := ih (pos + wd) (some a) acc (by omega) (by omega) (fun a' h => by cases h; omega)
          rw [hS, hnb, if_neg (by simp), this]
          congr 2
          show pieceL s.data.toList (a, pos + wd) = pieceL s.data.toList (a, pos) ++ (s.data.toList.drop pos).take wd
          rw [← piece_grow _ _ _ _ (by omega)]
    · rw [spansFromP_end blankR s (f + 1) pos st acc hp]
      exact close pos st acc hp h2 h3
theorem words_two (s : ByteArray) : (goFieldsP blankR s).map (fun x => x.data.toList) = wordsTL s.data.toList := by
  have h := spans_words s s.size 0 none [] (by omega) (by omega) (fun a h => by cases h)
  unfold goFieldsP spansOfP
  rw [List.map_map]
  have he : ((fun x : ByteArray => x.data.toList) ∘ fun x : Nat × Nat => s.extract x.1 x.2) = pieceL s.data.toList := by
    funext x
    show (s.extract x.1 x.2).data.toList = pieceL s.data.toList x
    rw [extract_data]
    rfl
  rw [he, h]
  rfl
end
end Go.Proofs.YthfddfgncolnbaaGreatDoor
