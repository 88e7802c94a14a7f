/- Contracts and laws that the claim's row leans on (19 texts, joined): The rule for regions whose order is drawn, with variables that the region itself makes; no condition. Worlds in which one block has turned; no condition. Moves for regions whose order is drawn, where late operations need not keep what the early ones read; no condition. Plain laws of lists' trees: parts, paths, growth; no condition. The Summer's take; conditions: the octets' number, and where they lie. Hex, and that the first chapter is there; condition: the slice's size. Contracts of room, cut, Number; conditions: the slices' sizes. Contracts of Cut, Number, Long, Equal; conditions: the slices' sizes. Contract of Long; conditions: the slice's size. Clone, Grow (of nil) and Concat at octets; conditions: lengths below 2^47. PutNumber, PutLong, Clone; conditions: lengths below 2^47 - 8. Plain laws: a word's and a long's octets are read back; no condition but lengths. The law NumbersArePut: its walk; conditions: the slice's size. The Summer's take with octets ahead; conditions: the octets' number, and where they lie. The Summer's take, Write, Copy, NewSummer; conditions: the octets' number, and where they lie. The Summer's end; conditions: its octets' number. The Summer's Sum, and what summed makes; conditions: the octets' number. The reference's long; condition: a number that is not negative. append(s, make([]byte, k)...) onto a row of one's own; conditions: the lengths. -/
import Derived.Test.YtkcjdginoccgjaaJ1
import Derived.WalkKit
import Derived.Laws.BytesArg
import Derived.Laws.OwnMore
import Derived.Lib.Walk
import Derived.Lib.SliceRun
import Derived.Lib.AppendZerosOnto
import Derived.Laws.AppendOwn
import Derived.Laws.AppendOwnNone
import Derived.Laws.MakeOwn
namespace Go.Proofs.Ytkcjdginoccgjaa
section
open Go Go.RowKit

section
variable {P : Program} {ops : Array Oper} {Q : Exit → Act → World → Prop} {C : World → Prop}

def uponE (P : Program) (C : World → Prop) (w : World) (v : Value) : Result Next → Prop
  | .ok (.value u) w' => w' = w ∧ u = v
  | .ok .skip w' => w' = w ∧ v = undef
  | .ok (.enter f args) w' => w' = w ∧ Calls P f args w (fun e w'' => e = .returned v ∧ C w'' ∧ Ext w w'')
  | _ => False

/-- in every world of the class the operation yields v, and nothing that was there turns -/
def yieldsE (P : Program) (C : World → Prop) (o : Oper) (a : Act) (v : Value) : Prop := ∀ w, C w → uponE P C w v ((execOp a.eval o).run P w)

def isAl (al : List (Nat × List Value × TypeId)) (k : Nat) : Bool := al.any fun x => x.1 == k

def wpQE (P : Program) (ops : Array Oper) (C : World → Prop) (al : List (Nat × List Value × TypeId)) (R : Act → Prop) : List Oper → Nat → Act → Prop
  | [], _, a => R a
  | o :: rest, k, a =>
    if isAl al k then wpQE P ops C al R rest (k + 1) (a.put o.dst undef)
    else if Region.wanted o (yielded ops a.tmps) then ∃ v, yieldsE P C o a v ∧ wpQE P ops C al R rest (k + 1) (a.put o.dst v)
    else wpQE P ops C al R rest (k + 1) (a.put o.dst undef)

theorem wpQE_nil {al : List (Nat × List Value × TypeId)} {R : Act → Prop} {k : Nat} {a : Act} (h : R a) : wpQE P ops C al R [] k a := h
theorem wpQE_al {al : List (Nat × List Value × TypeId)} {R : Act → Prop} {k : Nat} {a : Act} {o : Oper} {rest : List Oper} (hk : isAl al k = true) (h : wpQE P ops C al R rest (k + 1) (a.put o.dst undef)) :
    wpQE P ops C al R (o :: rest) k a := by simp only [wpQE, hk, if_true]; exact h
theorem wpQE_do {al : List (Nat × List Value × TypeId)} {R : Act → Prop} {k : Nat} {a : Act} {o : Oper} {rest : List Oper} (hk : isAl al k = false) (hw : Region.wanted o (yielded ops a.tmps) = true) (v : Value)
    (hv : yieldsE P C o a v) (h : wpQE P ops C al R rest (k + 1) (a.put o.dst v)) : wpQE P ops C al R (o :: rest) k a := by
  simp only [wpQE, hk, Bool.false_eq_true, if_false, hw, if_true]; exact ⟨v, hv, h⟩
theorem wpQE_no {al : List (Nat × List Value × TypeId)} {R : Act → Prop} {k : Nat} {a : Act} {o : Oper} {rest : List Oper} (hk : isAl al k = false) (hw : Region.wanted o (yielded ops a.tmps) = false)
    (h : wpQE P ops C al R rest (k + 1) (a.put o.dst undef)) : wpQE P ops C al R (o :: rest) k a := by
  simp only [wpQE, hk, Bool.false_eq_true, if_false, hw]; exact h

/-- what the lexical walk says of one operation -/
def stepE (P : Program) (ops : Array Oper) (C : World → Prop) (al : List (Nat × List Value × TypeId)) (o : Oper) (k : Nat) (a : Act) (v : Value) : Prop :=
  isAl al k = true ∨ (Region.wanted o (yielded ops a.tmps) = true ∧ yieldsE P C o a v) ∨ (Region.wanted o (yielded ops a.tmps) = false ∧ v = undef)

theorem lex_valsE {al : List (Nat × List Value × TypeId)} {R : Act → Prop} : ∀ (l : List Oper) (k : Nat) (a : Act), (∀ j, j < l.length → ops[k + j]? = l[j]?) → wpQE P ops C al R l k a →
    ∃ (vs : Nat → Value) (st : Nat → Act), st k = a ∧ (∀ j, k ≤ j → j < k + l.length → st (j + 1) = (st j).put (dstOf ops j) (vs j) ∧ ∃ o, ops[j]? = some o ∧ stepE P ops C al o j (st j) (vs j)) ∧ R (st (k + l.length))
  | [], k, a, _, h => ⟨fun _ => undef, fun _ => a, rfl, fun j h1 h2 => by simp at h2; omega, h⟩
  | o :: l, k, a, hl, h => by
    have h0 : ops[k]? = some o := by simpa using hl 0 (by simp)
    have hv : ∃ v, stepE P ops C al o k a v ∧ wpQE P ops C al R l (k + 1) (a.put o.dst v) := by
      simp only [wpQE] at h
      by_cases h1 : isAl al k = true
      · rw [if_pos h1] at h; exact ⟨undef, .inl h1, h⟩
      · rw [if_neg h1] at h
        by_cases h2 : Region.wanted o (yielded ops a.tmps) = true
        · rw [if_pos h2] at h
          obtain ⟨v, hv, h⟩ := h
          exact ⟨v, .inr (.inl ⟨h2, hv⟩), h⟩
        · rw [if_neg h2] at h
          exact ⟨undef, .inr (.inr ⟨by simpa using h2, rfl⟩), h⟩
    obtain ⟨v, hy, hK⟩ := hv
    obtain ⟨vs, st, h1, h2, h3⟩ := lex_valsE l (k + 1) _ (fun j hj => by
      have := hl (j + 1) (by simpa using hj)
      simpa [Nat.add_assoc, Nat.add_comm 1 j] using this) hK
    refine ⟨fun j => if j = k then v else vs j, fun j => if j = k then a else st j, by simp, fun j hj hj' => ?_, ?_⟩
    · by_cases hjk : j = k
      · subst hjk
        simp only [if_true, if_neg (show j + 1 ≠ j by omega)]
        refine ⟨by rw [h1]; simp [dstOf, h0], o, h0, hy⟩
      · simp only [if_neg hjk, if_neg (show j + 1 ≠ k by omega)]
        exact h2 j (by omega) (by simp only [List.length_cons] at hj'; omega)
    · simp only [List.length_cons, if_neg (show k + (l.length + 1) ≠ k by omega)]
      have e : k + (l.length + 1) = k + 1 + l.length := by omega
      rw [e]; exact h3

theorem Agree.same2 {n : Nat} {vs vs' : Nat → Value} {a0 a a' : Act} {S S' : Nat → Bool} (h : Agree ops n vs a0 S a) (h' : Agree ops n vs' a0 S' a') {t : Nat}
    (hSS : ∀ j, j < n → dstOf ops j = some t → S j = S' j ∧ vs j = vs' j) : a.tmps[t]? = a'.tmps[t]? := by
  by_cases ht : t < a0.tmps.size
  · by_cases he : ∃ i, i < n ∧ S i = true ∧ dstOf ops i = some t
    · obtain ⟨i, hi, hSi, hdi⟩ := he
      rw [h.yes t ht i hi hSi hdi, h'.yes t ht i hi (by rw [← (hSS i hi hdi).1]; exact hSi) hdi, (hSS i hi hdi).2]
    · have hn : ∀ i, i < n → S i = true → dstOf ops i ≠ some t := fun i hi hs hd => he ⟨i, hi, hs, hd⟩
      rw [h.no t ht hn, h'.no t ht fun i hi hs hd => hn i hi (by rw [(hSS i hi hd).1]; exact hs) hd]
  · have h1 : ¬ t < a.tmps.size := by rw [h.sz]; exact ht
    have h2 : ¬ t < a'.tmps.size := by rw [h'.sz]; exact ht
    simp [h1, h2]

theorem Agree.eval2 {n : Nat} {vs vs' : Nat → Value} {a0 a a' : Act} {S S' : Nat → Bool} (h : Agree ops n vs a0 S a) (h' : Agree ops n vs' a0 S' a') {o : Oper}
    (hs : noSel o = true) (hSS : ∀ j, j < n → ∀ t, dstOf ops j = some t → t ∈ o.looksAt ops → S j = S' j ∧ vs j = vs' j) :
    execOp a.eval o = execOp a'.eval o ∧ Region.wanted o (yielded ops a.tmps) = Region.wanted o (yielded ops a'.tmps) := by
  have ht : ∀ t, t ∈ o.looksAt ops → a.tmps[t]? = a'.tmps[t]? := fun t htm => h.same2 h' fun j hj hd => hSS j hj t hd htm
  constructor
  · refine execOp_congr o (fun cs b e => by simp [noSel, e] at hs) fun x hx => ?_
    cases x with
    | tmp t =>
      have := ht t (List.mem_append_left _ (List.mem_filterMap.2 ⟨.tmp t, by simpa using hx, rfl⟩))
      simp [Act.eval, this]
    | _ => rfl
  · unfold Region.wanted
    cases hg : o.guard with
    | none => rfl
    | some g =>
      obtain ⟨j, want⟩ := g
      simp only [yielded]
      cases hd : (ops[j]?).bind (·.dst) with
      | none => simp
      | some t =>
        have := ht t (List.mem_append_right _ (by simp [hg, hd]))
        simp [this]

theorem Agree.cong {n : Nat} {vs vs' : Nat → Value} {a0 a : Act} {S : Nat → Bool} (h : Agree ops n vs a0 S a) (hv : ∀ j, j < n → S j = true → vs j = vs' j) : Agree ops n vs' a0 S a :=
  ⟨h.dfs, h.sz, fun t ht i hi hS hd => by rw [h.yes t ht i hi hS hd, hv i hi hS], h.no⟩

theorem Agree.reput {n : Nat} {vs : Nat → Value} {a0 a : Act} {S : Nat → Bool} (h : Agree ops n vs a0 S a) {i : Nat} (hin : i < n) (hS : S i = true) (v : Value)
    (hd : ∀ j, j < n → j ≠ i → ∀ t, dstOf ops i = some t → dstOf ops j ≠ some t) : Agree ops n (fun j => if j = i then v else vs j) a0 S (a.put (dstOf ops i) v) := by
  cases hdi : dstOf ops i with
  | none =>
    refine ⟨h.dfs, h.sz, fun t ht j hj hSj hdj => ?_, h.no⟩
    have hji : j ≠ i := fun e => by subst e; rw [hdi] at hdj; cases hdj
    rw [if_neg hji]; exact h.yes t ht j hj hSj hdj
  | some d =>
    refine ⟨h.dfs, by simp [Act.put, h.sz], fun t ht j hj hSj hdj => ?_, fun t ht hno => ?_⟩
    · by_cases hji : j = i
      · subst hji
        rw [hdi] at hdj
        cases hdj
        have : d < a.tmps.size := by rw [h.sz]; exact ht
        simp [Act.put, this]
      · have hne : d ≠ t := fun e => hd j hj hji d hdi (by rw [hdj, e])
        simp only [Act.put]
        rw [Array.getElem?_setIfInBounds_ne hne, if_neg hji]
        exact h.yes t ht j hj hSj hdj
    · have hne : d ≠ t := fun e => hno i hin hS (by rw [hdi, e])
      simp only [Act.put]
      rw [Array.getElem?_setIfInBounds_ne hne]
      exact h.no t ht hno

def ptrOf (g : Nat) : Value := .pointer (some ⟨g, 0, none⟩)

/-- the variables that the region makes are put in -/
def putAl (ops : Array Oper) (gs : Nat → Nat) : List (Nat × List Value × TypeId) → Act → Act
  | [], a => a
  | x :: r, a => putAl ops gs r (a.put (dstOf ops x.1) (ptrOf (gs x.1)))

def alOk (ops : Array Oper) (n : Nat) (al : List (Nat × List Value × TypeId)) : Bool :=
  al.all fun x => decide (x.1 < n) && ((List.range n).all fun i => isAl al i || (ops[i]?).all fun o => (dstOf ops x.1).all fun t => !(o.looksAt ops).contains t)

theorem putAl_agree {n : Nat} {a0 : Act} {S : Nat → Bool} {gs : Nat → Nat} (hd : ∀ i, i < n → ∀ j, j < n → j ≠ i → ∀ t, dstOf ops i = some t → dstOf ops j ≠ some t) :
    ∀ (al : List (Nat × List Value × TypeId)) (vs : Nat → Value) (a : Act), (∀ x ∈ al, x.1 < n ∧ S x.1 = true) → Agree ops n vs a0 S a →
      Agree ops n (fun j => if isAl al j then ptrOf (gs j) else vs j) a0 S (putAl ops gs al a)
  | [], vs, a, _, h => by simpa [isAl, putAl] using h
  | x :: r, vs, a, hx, h => by
    obtain ⟨h1, h2⟩ := hx x (by simp)
    have := putAl_agree (gs := gs) hd r _ _ (fun y hy => hx y (by simp [hy])) (h.reput h1 h2 (ptrOf (gs x.1)) (hd x.1 h1))
    refine Agree.cong this fun j hj hS => ?_
    have hcons : isAl (x :: r) j = (x.1 == j || isAl r j) := rfl
    show (if isAl r j = true then ptrOf (gs j) else if j = x.1 then ptrOf (gs x.1) else vs j) = if isAl (x :: r) j = true then ptrOf (gs j) else vs j
    by_cases hr : isAl r j = true
    · rw [if_pos hr, if_pos (by rw [hcons, hr, Bool.or_true])]
    · rw [if_neg hr]
      by_cases hjx : j = x.1
      · subst hjx
        rw [if_pos rfl, if_pos (by rw [hcons]; simp)]
      · rw [if_neg hjx, if_neg]
        rw [hcons]
        simp only [Bool.or_eq_true, beq_iff_eq, not_or]
        exact ⟨fun e => hjx e.symm, hr⟩

/-- A region whose order is drawn: the first n operations read and call quietly in every world of the class C, or make variables (al: their numbers, what they hold, their types); the others come behind them, one by one. -/
theorem wp_region_al {id : Nat} {a : Act} {w : World} {l : List Oper} (n : Nat) (al : List (Nat × List Value × TypeId)) (B : Nat) (hm : P.follows .mixedOrders = true) (hB : clsOk l.toArray n = true)
    (hA : alOk l.toArray n al = true) (hC : C w.drew) (hCa : ∀ w o, C w → C (w.alloc o)) (hCB : ∀ w, C w → B ≤ w.heap.size)
    (hal : ∀ x ∈ al, ∃ o, l[x.1]? = some o ∧ o.guard = none ∧ ∀ ρ w, (execOp ρ o).run P w = .ok (.value (ptrOf w.heap.size)) (w.alloc (.cells x.2.1.toArray x.2.2)))
    (h : wpQE P l.toArray C al (fun a' => ∀ gs w', C w' → (∀ x ∈ al, Blk w' (gs x.1) x.2.1 x.2.2 ∧ B ≤ gs x.1) → (∀ x ∈ al, ∀ y ∈ al, x.1 ≠ y.1 → gs x.1 ≠ gs y.1) →
      wpList P l.toArray Q (l.drop n) (putAl l.toArray gs al a') w') (l.take n) 0 a) : (Code.region id l.toArray true).wp P Q a w := by
  obtain ⟨b1, b2, ⟨b3, b5⟩, b4⟩ := clsOk_spec hB
  have hA' : ∀ x ∈ al, x.1 < n ∧ ∀ i, i < n → isAl al i = false → ∀ o, l.toArray[i]? = some o → ∀ t, dstOf l.toArray x.1 = some t → t ∉ o.looksAt l.toArray := by
    intro x hx
    have := List.all_eq_true.1 hA x hx
    simp only [Bool.and_eq_true, decide_eq_true_eq, List.all_eq_true, List.mem_range, Bool.or_eq_true, Option.all_eq_true, Bool.not_eq_true'] at this
    refine ⟨this.1, fun i hi hal o ho t ht hmem => ?_⟩
    rcases this.2 i hi with h1 | h1
    · rw [hal] at h1; cases h1
    · have := h1 o ho t ht
      rw [List.contains_iff_mem.2 hmem] at this; cases this
  have hnl : n ≤ l.length := by simpa using b4
  have htl : (l.take n).length = n := by simp [hnl]
  have hdd : ∀ i, i < n → ∀ j, j < n → j ≠ i → ∀ t, dstOf l.toArray i = some t → dstOf l.toArray j ≠ some t := by
    intro i hi j hj hji t hd hd'
    have ho : l.toArray[i]? = some l[i] := by simp <;> omega
    have := ((b2 i _ hi ho).2 j t hj hd').1 (Ne.symm hji)
    simp only [dstOf, ho] at hd
    exact this hd
  obtain ⟨vs, st, hst0, hst, hK⟩ := lex_valsE (l.take n) 0 a (fun j hj => by
    have hj' : j < n := by rw [htl] at hj; exact hj
    simp [hj']) h
  rw [htl] at hst hK
  simp only [Nat.zero_add] at hst hK
  have hag : ∀ i, i ≤ n → Agree l.toArray n vs a (fun j => decide (j < i)) (st i) := by
    intro i
    induction i with
    | zero =>
      intro _
      rw [hst0]
      exact ⟨rfl, rfl, fun _ _ _ _ h => by simp at h, fun _ _ _ => rfl⟩
    | succ i ih =>
      intro hi
      obtain ⟨h1, o, ho, _⟩ := hst i (Nat.zero_le _) (by omega)
      rw [h1]
      refine (ih (by omega)).put (by omega) (by simp) (by simp) (fun j hj => ?_) (fun j hj hji t hd => hdd i (by omega) j hj hji t hd)
      simp; omega
  refine wp_region_inv (I := fun listed a' w' =>
    ((∀ t, n ≤ t → listed.getD t false = false) ∧ (∀ i, listed.getD i false = true → ∀ o, l.toArray[i]? = some o → ∀ e ∈ o.after, Region.binds .any e = true → listed.getD e.on false = true) ∧ C w' ∧
      ∃ gs : Nat → Nat, Agree l.toArray n (fun j => if isAl al j then ptrOf (gs j) else vs j) a (fun j => listed.getD j false) a' ∧
        (∀ x ∈ al, listed.getD x.1 false = true → Blk w' (gs x.1) x.2.1 x.2.2 ∧ B ≤ gs x.1) ∧ (∀ x ∈ al, ∀ y ∈ al, listed.getD x.1 false = true → listed.getD y.1 false = true → x.1 ≠ y.1 → gs x.1 ≠ gs y.1)) ∨
    (∃ m, n ≤ m ∧ m ≤ l.length ∧ (∀ j, j < l.length → listed.getD j false = decide (j < m)) ∧ wpList P l.toArray Q (l.drop m) a' w')) hm ?_ ?_ ?_
  · have hf : ∀ t, (Array.replicate l.toArray.size false).getD t false = false := fun t => by
      simp [Array.getElem?_replicate]
      split <;> rfl
    refine .inl ⟨fun t _ => hf t, fun i hi => (by rw [hf] at hi; cases hi), hC, fun _ => 0, ⟨rfl, rfl, fun _ _ i _ h => (by rw [hf] at h; cases h), fun _ _ _ => rfl⟩, fun x _ h => (by rw [hf] at h; cases h), fun x _ y _ h => (by rw [hf] at h; cases h)⟩
  · intro listed a' w' i hsz hI hi
    obtain ⟨hun, o, ho, hall⟩ := mem_ready.1 hi
    have hil : i < l.length := by simpa using (Array.getElem?_eq_some_iff.1 ho).1
    have hun' : listed.getD i false = false := by rw [← getD_ft (by rw [hsz]; simpa using hil)]; exact hun
    have hw8 : ∀ j, waits l.toArray i j = true → listed.getD j false = true := fun j hj => by
      obtain ⟨o', ho', e, he, hb, hon⟩ := waits_spec hj
      have : o' = o := Option.some.inj (ho'.symm.trans ho)
      subst this
      rw [← hon]; exact hall e he hb
    have hsi : (listed.setIfInBounds i true).getD i false = true := by
      have : i < listed.size := by rw [hsz]; simpa using hil
      simp [this]
    have hsn : ∀ j, j ≠ i → (listed.setIfInBounds i true).getD j false = listed.getD j false := fun j hj => by
      simp only [Array.getD_eq_getD_getElem?]
      rw [Array.getElem?_setIfInBounds_ne (Ne.symm hj)]
    have two : ∀ m, n ≤ m → m ≤ l.length → (∀ j, j < l.length → listed.getD j false = decide (j < m)) → wpList P l.toArray Q (l.drop m) a' w' →
        wpOp P l.toArray Q i (fun a'' w'' => (∃ m, n ≤ m ∧ m ≤ l.length ∧ (∀ j, j < l.length → (listed.setIfInBounds i true).getD j false = decide (j < m)) ∧ wpList P l.toArray Q (l.drop m) a'' w'')) a' w' := by
      intro m hnm hml hlist hw
      have him : i = m := by
        have h1 : ¬ i < m := fun hlt => by have := hlist i hil; rw [hun'] at this; simp at this; omega
        rcases Nat.lt_or_ge m i with h2 | h2
        · have h3 := hw8 (i - 1) (b5 i (by omega) (by simpa using hil))
          have h4 := hlist (i - 1) (by omega)
          rw [h3] at h4; simp at h4; omega
        · omega
      subst him
      have hd : l.drop i = o :: l.drop (i + 1) := by
        have ho' : l[i] = o := by
          have := (Array.getElem?_eq_some_iff.1 ho).2
          simpa using this
        rw [← ho']; exact List.drop_eq_getElem_cons hil
      rw [hd] at hw
      have hw' : wpOp P l.toArray Q i (wpList P l.toArray Q (l.drop (i + 1))) a' w' := by
        unfold wpOp; simp only [ho]; exact hw
      refine wpOp_mono (fun a'' w'' h'' => ⟨i + 1, by omega, by omega, fun j hj => ?_, h''⟩) hw'
      by_cases hji : j = i
      · subst hji; rw [hsi]; simp
      · rw [hsn j hji, hlist j hj]
        by_cases hjl : j < i
        · simp [hjl]; omega
        · simp [hjl]; omega
    rcases hI with ⟨hno, hdc, hCw, gs, hAg, hbl, hdis⟩ | ⟨m, hnm, hml, hlist, hw⟩
    · have hdc' : ∀ k, (listed.setIfInBounds i true).getD k false = true → ∀ ok, l.toArray[k]? = some ok → ∀ e ∈ ok.after, Region.binds .any e = true → (listed.setIfInBounds i true).getD e.on false = true := by
        intro k hk ok hok e he hb
        have hset : ∀ j, listed.getD j false = true → (listed.setIfInBounds i true).getD j false = true := fun j hj => by
          by_cases hji : j = i
          · subst hji; exact hsi
          · rw [hsn j hji]; exact hj
        by_cases hki : k = i
        · subst hki
          have : ok = o := Option.some.inj (hok.symm.trans ho)
          subst this
          exact hset _ (hall e he hb)
        · rw [hsn k hki] at hk
          exact hset _ (hdc k hk ok hok e he hb)
      by_cases hin : i < n
      · have hno' : ∀ t, n ≤ t → (listed.setIfInBounds i true).getD t false = false := fun t ht => by rw [hsn t (by omega)]; exact hno t ht
        have hdo : o.dst = dstOf l.toArray i := by simp [dstOf, ho]
        obtain ⟨_, o', ho', hy⟩ := hst i (Nat.zero_le _) hin
        have : o' = o := Option.some.inj (ho'.symm.trans ho)
        subst this
        by_cases hali : isAl al i = true
        · -- a variable is made
          obtain ⟨x, hx, hxi⟩ := List.any_eq_true.1 hali
          have hxi' : x.1 = i := by simpa using hxi
          obtain ⟨ox, hox, hg, hrun⟩ := hal x hx
          have hoo : ox = o' := by
            have : l.toArray[i]? = some ox := by rw [← hxi']; simpa using hox
            exact Option.some.inj (this.symm.trans ho)
          subst hoo
          unfold wpOp
          simp only [ho]
          rw [if_pos (by simp [Region.wanted, hg])]
          refine .inl ?_
          unfold Oper.wp
          rw [hrun]
          simp only [Oper.upon]
          refine .inl ⟨hno', hdc', hCa _ _ hCw, fun j => if j = i then w'.heap.size else gs j, ?_, fun y hy hly => ?_, fun y hy z hz hly hlz hne => ?_⟩
          · rw [hdo]
            have h5 : Agree l.toArray n (fun j => if isAl al j then ptrOf (if j = i then w'.heap.size else gs j) else vs j) a (fun j => listed.getD j false) a' :=
              hAg.cong fun j hj hS => by
                by_cases hji : j = i
                · subst hji; rw [hun'] at hS; cases hS
                · rw [if_neg hji]
            have h6 := h5.put (S' := fun j => (listed.setIfInBounds i true).getD j false) hin hun' hsi (fun j hj => hsn j hj) (fun j hj hji t hd => hdd i hin j hj hji t hd)
            simpa [hali] using h6
          · show Blk _ (if y.1 = i then w'.heap.size else gs y.1) _ _ ∧ B ≤ (if y.1 = i then w'.heap.size else gs y.1)
            by_cases hyi : y.1 = i
            · rw [if_pos hyi]
              have : ox = ox := rfl
              obtain ⟨oy, hoy, _, hruny⟩ := hal y hy
              have hoo2 : oy = ox := by
                have : l.toArray[i]? = some oy := by rw [← hyi]; simpa using hoy
                exact Option.some.inj (this.symm.trans ho)
              subst hoo2
              have e1 := hrun a'.eval w'
              rw [hruny] at e1
              have e2 : w'.alloc (.cells y.2.1.toArray y.2.2) = w'.alloc (.cells x.2.1.toArray x.2.2) := by injection e1
              refine ⟨?_, hCB _ hCw⟩
              have := Blk.alloc_new w' y.2.1 y.2.2
              rw [e2] at this
              exact this
            · rw [if_neg hyi]
              rw [hsn y.1 hyi] at hly
              exact ⟨(hbl y hy hly).1.alloc _, (hbl y hy hly).2⟩
          · show (if y.1 = i then w'.heap.size else gs y.1) ≠ (if z.1 = i then w'.heap.size else gs z.1)
            by_cases hyi : y.1 = i
            · rw [if_pos hyi, if_neg (by omega)]
              rw [hsn z.1 (by omega)] at hlz
              have := (hbl z hz hlz).1.lt
              omega
            · rw [if_neg hyi]
              rw [hsn y.1 hyi] at hly
              by_cases hzi : z.1 = i
              · rw [if_pos hzi]
                have := (hbl y hy hly).1.lt
                omega
              · rw [if_neg hzi]
                rw [hsn z.1 hzi] at hlz
                exact hdis y hy z hz hly hlz hne
        · have hali' : isAl al i = false := by simpa using hali
          obtain ⟨b21, b22⟩ := b2 i o' hin ho
          have hev := hAg.eval2 (hag i (by omega)) (o := o') b21 (fun j hj t hd ht => by
            have hjal : isAl al j = false := by
              cases hj2 : isAl al j with
              | false => rfl
              | true =>
                obtain ⟨x, hx, hxj⟩ := List.any_eq_true.1 hj2
                have hxj' : x.1 = j := by simpa using hxj
                exact absurd ht ((hA' x hx).2 i hin hali' o' ho t (by rw [hxj']; exact hd))
            refine ⟨?_, by simp [hjal]⟩
            obtain ⟨_, c2⟩ := b22 j t hj hd
            obtain ⟨c3, c4⟩ := c2 ht
            rcases Nat.lt_trichotomy j i with h1 | h1 | h1
            · simp only [h1, decide_true]; exact hw8 j (c3 h1)
            · subst h1; simp only [Nat.lt_irrefl, decide_false]; exact hun'
            · have : ¬ j < i := by omega
              simp only [this, decide_false]
              cases hl : listed.getD j false with
              | false => rfl
              | true =>
                obtain ⟨oj, hoj, e, he, hb, hon⟩ := waits_spec (c4 h1)
                have := hdc j hl oj hoj e he hb
                rw [hon, hun'] at this; cases this)
          have hput : ∀ gs' : Nat → Nat, (∀ j, listed.getD j false = true → gs' j = gs j) → Agree l.toArray n (fun j => if isAl al j then ptrOf (gs' j) else vs j) a (fun j => (listed.setIfInBounds i true).getD j false) (a'.put o'.dst (vs i)) := by
            intro gs' hgs
            rw [hdo]
            have h5 : Agree l.toArray n (fun j => if isAl al j then ptrOf (gs' j) else vs j) a (fun j => listed.getD j false) a' :=
              hAg.cong fun j hj hS => by rw [hgs j hS]
            have h6 := h5.put (S' := fun j => (listed.setIfInBounds i true).getD j false) hin hun' hsi (fun j hj => hsn j hj) (fun j hj hji t hd => hdd i hin j hj hji t hd)
            simpa [hali'] using h6
          have done : ∀ w'', C w'' → Ext w' w'' → (fun a'' w'' => ((∀ t, n ≤ t → (listed.setIfInBounds i true).getD t false = false) ∧ (∀ k, (listed.setIfInBounds i true).getD k false = true → ∀ o, l.toArray[k]? = some o → ∀ e ∈ o.after, Region.binds .any e = true → (listed.setIfInBounds i true).getD e.on false = true) ∧ C w'' ∧
              ∃ gs : Nat → Nat, Agree l.toArray n (fun j => if isAl al j then ptrOf (gs j) else vs j) a (fun j => (listed.setIfInBounds i true).getD j false) a'' ∧
                (∀ x ∈ al, (listed.setIfInBounds i true).getD x.1 false = true → Blk w'' (gs x.1) x.2.1 x.2.2 ∧ B ≤ gs x.1) ∧ (∀ x ∈ al, ∀ y ∈ al, (listed.setIfInBounds i true).getD x.1 false = true → (listed.setIfInBounds i true).getD y.1 false = true → x.1 ≠ y.1 → gs x.1 ≠ gs y.1)) ∨
            (∃ m, n ≤ m ∧ m ≤ l.length ∧ (∀ j, j < l.length → (listed.setIfInBounds i true).getD j false = decide (j < m)) ∧ wpList P l.toArray Q (l.drop m) a'' w'')) (a'.put o'.dst (vs i)) w'' := by
            intro w'' hC'' hE
            have hne : ∀ x ∈ al, x.1 ≠ i := fun x hx e => by
              have : isAl al i = true := List.any_eq_true.2 ⟨x, hx, by simp [e]⟩
              rw [hali'] at this; cases this
            refine .inl ⟨hno', hdc', hC'', gs, hput gs (fun _ _ => rfl), fun x hx hlx => ?_, fun x hx y hy hlx hly => ?_⟩
            · rw [hsn x.1 (hne x hx)] at hlx
              exact ⟨(hbl x hx hlx).1.ext hE, (hbl x hx hlx).2⟩
            · rw [hsn x.1 (hne x hx)] at hlx
              rw [hsn y.1 (hne y hy)] at hly
              exact hdis x hx y hy hlx hly
          unfold wpOp
          simp only [ho]
          rcases hy with hy | ⟨hw, hy⟩ | ⟨hw, hy⟩
          · rw [hali'] at hy; cases hy
          · rw [if_pos (by rw [hev.2]; exact hw)]
            refine .inl ?_
            have h3 := hy w' hCw
            rw [← hev.1] at h3
            unfold Oper.wp
            generalize (execOp a'.eval o').run P w' = r at h3 ⊢
            cases r with
            | ok nx w'' =>
              cases nx <;> simp only [uponE] at h3 <;> simp only [Oper.upon]
              case value u =>
                obtain ⟨e1, e2⟩ := h3
                rw [e1, e2]
                exact done _ hCw (Ext.refl _)
              case skip =>
                obtain ⟨e1, e2⟩ := h3
                rw [e1, ← e2]
                exact done _ hCw (Ext.refl _)
              case enter f args =>
                obtain ⟨e1, hc⟩ := h3
                rw [e1]
                exact hc.mono fun e w3 ⟨he, h1, h2⟩ => by subst he; exact done _ h1 h2
            | halt x w'' => simp only [uponE] at h3
          · rw [if_neg (by rw [hev.2, hw]; simp), ← hy]
            exact done _ hCw (Ext.refl _)
      · have hin2 : i = n := by
          rcases Nat.lt_or_ge n i with h1 | h1
          · have h2 := hw8 (i - 1) (b5 i h1 (by simpa using hil))
            rw [hno (i - 1) (by omega)] at h2; cases h2
          · omega
        have hall2 : ∀ j, j < i → listed.getD j false = true := by
          have key : ∀ d j, i - j = d → j < i → listed.getD j false = true := by
            intro d
            induction d using Nat.strongRecOn with
            | _ d ih =>
              intro j hd hj
              obtain ⟨k, hjk, hkn, hw⟩ := b3 (by simpa [hin2] using hil) j (by omega)
              by_cases hki : k = i
              · subst hki; exact hw8 j hw
              · have hk := ih (i - k) (by omega) k rfl (by omega)
                obtain ⟨ok, hok, e, he, hb, hon⟩ := waits_spec hw
                rw [← hon]; exact hdc k hk ok hok e he hb
          exact fun j hj => key _ j rfl hj
        have hfin := putAl_agree (gs := gs) (S := fun j => decide (j < n)) hdd al vs (st n) (fun x hx => ⟨(hA' x hx).1, by simpa using (hA' x hx).1⟩) (hag n (Nat.le_refl _))
        have hae : a' = putAl l.toArray gs al (st n) := hAg.eq hfin fun j hj => by
          rw [hall2 j (by omega)]; simp [hj]
        refine wpOp_mono (fun a'' w'' h'' => .inr h'') (two n (Nat.le_refl _) (by omega) (fun j hj => ?_) ?_)
        · by_cases hjn : j < n
          · rw [hall2 j (by omega)]; simp [hjn]
          · rw [hno j (by omega)]; simp [hjn]
        · rw [hae]
          have hlx : ∀ x ∈ al, listed.getD x.1 false = true := fun x hx => hall2 _ (by have := (hA' x hx).1; omega)
          exact hK gs w' hCw (fun x hx => hbl x hx (hlx x hx)) (fun x hx y hy => hdis x hx y hy (hlx x hx) (hlx y hy))
    · exact wpOp_mono (fun a'' w'' h'' => .inr h'') (two m hnm hml hlist hw)
  · intro listed a' w' hsz hI hr
    have hsz' : listed.size = l.length := by rw [hsz]; simp
    rcases hI with ⟨hno, hdc, hCw, gs, hAg, hbl, hdis⟩ | ⟨m, hnm, hml, hlist, hw⟩
    · have hall : ∀ i, i < l.length → listed.getD i false = true := by
        intro i
        induction i using Nat.strongRecOn with
        | _ i ih =>
          intro hi
          cases hl : listed.getD i false with
          | true => rfl
          | false =>
            have := mem_ready_of (ops := l.toArray) hsz (by simpa using hi) hl (fun j hj => ih j hj (by omega)) (fun o ho e he hb => b1 i o ho e he hb)
            rw [hr] at this; cases this
      have hn : n = l.length := by
        rcases Nat.lt_or_ge n l.length with h1 | h1
        · have := hall n h1
          rw [hno n (Nat.le_refl _)] at this; cases this
        · omega
      have hfin := putAl_agree (gs := gs) (S := fun j => decide (j < n)) hdd al vs (st n) (fun x hx => ⟨(hA' x hx).1, by simpa using (hA' x hx).1⟩) (hag n (Nat.le_refl _))
      have hae : a' = putAl l.toArray gs al (st n) := hAg.eq hfin fun j hj => by
        rw [hall j (by omega)]; simp [hj]
      have hlx : ∀ x ∈ al, listed.getD x.1 false = true := fun x hx => hall _ (by have := (hA' x hx).1; omega)
      have := hK gs w' hCw (fun x hx => hbl x hx (hlx x hx)) (fun x hx y hy => hdis x hx y hy (hlx x hx) (hlx y hy))
      rw [hae]
      rw [hn, List.drop_length] at this
      rw [hn]
      exact this
    · have hml' : m = l.length := by
        rcases Nat.lt_or_ge m l.length with h1 | h1
        · have := mem_ready_of (ops := l.toArray) hsz (by simpa using h1) (by rw [hlist m h1]; simp) (fun j hj => by rw [hlist j (by omega)]; simp [hj]) (fun o ho e he hb => b1 m o ho e he hb)
          rw [hr] at this; cases this
        · omega
      rw [hml', List.drop_length] at hw
      exact hw
end

section
variable {P : Program} {C : World → Prop} {o : Oper} {a : Act}
theorem yieldsE_loadw (ty : TypeId) (x : Operand) (ho : o.op = .load ty x) {g : Nat} {vs : List Value} {T : TypeId} {n : Nat}
    (hx : a.eval x = .pointer (some ⟨g, 0, none⟩)) (hb : ∀ w, C w → Blk w g vs T) (ht : AggT P ty n) (hn : vs.length = n) : yieldsE P C o a (.agg vs.toArray) := by
  intro w hw
  have h1 := run_load_sub (P := P) (off := 0) (hb w hw) ht (by omega)
  have h2 : (vs.drop 0).take n = vs := by simp [← hn]
  rw [h2] at h1
  unfold execOp
  simp only [ho, hx, Instr.loadAt, Instr.sureAddr, Sem.run_bind, Sem.run_pure, Result.andThen_ok, h1]
  exact ⟨rfl, rfl⟩
/-- a comparison of which the run is known -/
theorem yieldsE_cmp (op : BinOp) (t u : TypeId) (x y : Operand) (ho : o.op = .binOp op t x y u) {xs ys : Array Value} {b : Value} (hx : a.eval x = .agg xs) (hy : a.eval y = .agg ys)
    (hg : P.eqGuardType P.depth t = false) (hr : ∀ w, (binOp op t (.agg xs) (.agg ys)).run P w = .ok b w) : yieldsE P C o a b := by
  intro w _
  unfold execOp
  simp only [ho, hx, hy, Sem.run_bind, run_eqGuard_agg w op t x y xs ys hg, Result.andThen_ok, hr, Sem.run_pure]
  exact ⟨rfl, rfl⟩
theorem yieldsE_call {f : FuncId} {xs : Array Operand} {ts : Array TypeId} {args : Array Value} {v : Value} (ho : o.op = .call { callee := .value (.func f), args := xs, argTypes := ts })
    (hf : ∀ args w, (callFunc f args).run P w = .ok (.enter f args) w) (ha : xs.map a.eval = args)
    (hc : ∀ w, C w → Calls P f args w (fun e w' => e = .returned v ∧ Ext w w')) (hC : ∀ w w', C w → Ext w w' → C w') : yieldsE P C o a v := by
  intro w hw
  have hr : (execOp a.eval o).run P w = .ok (.enter f args) w := by
    unfold execOp
    simp only [ho, resolve, Act.eval, Deferred.ofValue, Sem.run_bind, Sem.run_pure, Result.andThen_ok, invoke]
    have : (#[] ++ xs.map a.eval ++ #[] : Array Value) = args := by simp [ha]
    simpa [ha] using hf args w
  rw [hr]
  exact ⟨rfl, (hc w hw).mono fun e w' ⟨h1, h2⟩ => ⟨h1, hC w w' hw h2, h2⟩⟩
end
attribute [go_sem] uponE
end

section
open Go Go.RowKit

theorem gby_self (w : World) (r : Option Nat) : w.grownBy w r := ⟨rfl, rfl, rfl, Nat.le_refl _, fun _ _ _ => rfl⟩
theorem gby_ext {w w1 w2 : World} {r : Option Nat} (h : w.grownBy w1 r) (e : Ext w1 w2) : w.grownBy w2 r :=
  ⟨e.os.trans h.os, e.tape.trans h.tape, e.output.trans h.output, Nat.le_trans h.size e.size, fun k hk hn => (e.block k (Nat.lt_of_lt_of_le hk h.size)).trans (h.block k hk hn)⟩
theorem gby_upd {w w1 w2 : World} {g : Nat} (h : w.grownBy w1 (some g)) (u : Upd w1 g w2) : w.grownBy w2 (some g) :=
  ⟨u.os.trans h.os, u.tape.trans h.tape, u.output.trans h.output, by rw [u.size]; exact h.size, fun k hk hn => (u.block k (fun e => hn (by rw [e]))).trans (h.block k hk hn)⟩
theorem gby_new {w w1 w2 : World} {g : Nat} {r : Option Nat} (h : w.grownBy w1 r) (u : Upd w1 g w2) (hg : w.heap.size ≤ g) : w.grownBy w2 r :=
  ⟨u.os.trans h.os, u.tape.trans h.tape, u.output.trans h.output, by rw [u.size]; exact h.size, fun k hk hn => (u.block k (by omega)).trans (h.block k hk hn)⟩
/-- the cells behind a slice's address, and none of them in block g -/
def CellsOff (w : World) (g : Nat) (a : Option Addr) (xs : List Value) : Prop := xs = [] ∨ ∃ b off, a = some ⟨b, off, none⟩ ∧ b ≠ g ∧ ∀ i u, xs[i]? = some u → w.cell? ⟨b, off + i, none⟩ = some u
theorem CellsOff.cells {w : World} {g : Nat} {a : Option Addr} {xs : List Value} (h : CellsOff w g a xs) : Cells w a xs := by
  rcases h with h | ⟨b, off, ha, _, h⟩
  · exact .inl h
  · exact .inr ⟨b, off, ha, h⟩
theorem CellsOff.grown {w w' : World} {g : Nat} {a : Option Addr} {xs : List Value} (h : CellsOff w g a xs) (k : w.grownBy w' (some g)) : CellsOff w' g a xs := by
  rcases h with h | ⟨b, off, ha, hb, h⟩
  · exact .inl h
  · exact .inr ⟨b, off, ha, hb, fun i u hu => k.cell (h i u hu) (by simpa using hb)⟩
theorem CellsOff.ext {w w' : World} {g : Nat} {a : Option Addr} {xs : List Value} (h : CellsOff w g a xs) (k : Ext w w') : CellsOff w' g a xs := by
  rcases h with h | ⟨b, off, ha, hb, h⟩
  · exact .inl h
  · refine .inr ⟨b, off, ha, hb, fun i u hu => ?_⟩
    have h1 := h i u hu
    have hb := block_lt_of_cell h1
    have := k.cell (p := ⟨b, off + i, none⟩) hb
    rw [this]; exact h1
theorem own_off {w : World} {B g : Nat} {T : TypeId} {z : Nat} {v : Value} {n : Nat} {xs : List Value} (hz : 0 < z) (h : w.ownsRow B T z v n xs) (hg : g < B) :
    ∃ a c, v = .slice a n c ∧ n ≤ c ∧ c ≤ maxLen ∧ (a = none → c = 0) ∧ CellsOff w g a xs := by
  obtain ⟨hl, h⟩ := h
  rcases h with ⟨rfl, rfl⟩ | ⟨gr, cap, cur, rfl, hb, hgr, h1, h2, h3, h4⟩
  · refine ⟨none, 0, rfl, Nat.le_refl _, by unfold maxLen; omega, fun _ => rfl, .inl ?_⟩
    exact List.length_eq_zero_iff.1 (by omega)
  · refine ⟨_, cap, rfl, h1, h2, (fun h => by cases h), .inr ⟨gr, 0, rfl, by omega, fun i u hu => ?_⟩⟩
    rw [← h4] at hu
    have hi : i < n * z := by
      have := (List.getElem?_eq_some_iff.1 hu).1
      simp only [List.length_take] at this; omega
    rw [List.getElem?_take_of_lt hi] at hu
    rw [Nat.zero_add]
    exact Blk.cell' (vs := cur.toList) (T := T) (by simpa [Blk] using hgr) hu
theorem CellsOff.at {w : World} {g : Nat} {a : Option Addr} {xs : List Value} (h : CellsOff w g a xs) {i : Nat} {u : Value} (hu : xs[i]? = some u) :
    ∃ b off, a = some ⟨b, off, none⟩ ∧ w.cell? ⟨b, off + i, none⟩ = some u := by
  rcases h with rfl | ⟨b, off, ha, _, h⟩
  · simp at hu
  · exact ⟨b, off, ha, h i u hu⟩
theorem CellsOff.of {w w' : World} {g : Nat} {a : Option Addr} {xs : List Value} (h : Cells w a xs) (hg : w.heap.size ≤ g) (e : Ext w w') : CellsOff w' g a xs := by
  rcases h.ext e with h' | ⟨b, off, ha, h'⟩
  · exact .inl h'
  · rcases h with h | ⟨b2, off2, ha2, h2⟩
    · exact .inl h
    · rw [ha] at ha2
      cases ha2
      by_cases h0 : xs = []
      · exact .inl h0
      · refine .inr ⟨b, off, ha, ?_, h'⟩
        obtain ⟨u, hu⟩ : ∃ u, xs[0]? = some u := ⟨xs[0]'(List.length_pos_iff.2 h0), by simp⟩
        have := block_lt_of_cell (h2 0 u hu)
        simp only at this
        omega

section
variable {P : Program} {ops : Array Oper} {rest : List Oper} {o : Oper} {a : Act} {C : World → Prop}
theorem yieldsE_run {v : Value} (hr : ∀ w, C w → (execOp a.eval o).run P w = .ok (.value v) w) : yieldsE P C o a v := by
  intro w hw
  rw [hr w hw]
  first | exact ⟨rfl, rfl⟩ | exact ⟨rfl, hw⟩
end
end

section
open Go Go.RowKit

section
variable {P : Program} {ops : Array Oper} {Q : Exit → Act → World → Prop} {S : World → Prop} {W : List Nat}

/-- whichever comes up; S is shown behind all operations but those of W -/
def wpAnyW (P : Program) (ops : Array Oper) (Q : Exit → Act → World → Prop) (S : World → Prop) (W : List Nat) : Nat → Array Bool → Act → World → Prop
  | 0, listed, a, w => Region.ready .any ops listed = [] ∧ Q .normal a w
  | f + 1, listed, a, w => (Region.ready .any ops listed = [] → Q .normal a w) ∧
      ∀ i ∈ Region.ready .any ops listed, wpOp P ops Q i (fun a' w' => (W.contains i = false → S w → S w') ∧ wpAnyW P ops Q S W f (listed.setIfInBounds i true) a' w') a w

theorem wpAny_of_W : ∀ (f : Nat) (listed : Array Bool) (a : Act) (w : World), wpAnyW P ops Q S W f listed a w → wpAny P .any ops Q f listed a w
  | 0, _, _, _, h => h
  | f + 1, _, _, _, h => ⟨h.1, fun i hi => wpOp_mono (fun a' w' h' => wpAny_of_W f _ a' w' h'.2) (h.2 i hi)⟩

/-- what stands in listed has all that it waits for in listed -/
def Down (ops : Array Oper) (listed : Array Bool) : Prop := ∀ k, listed.getD k false = true → ∀ o, ops[k]? = some o → ∀ e ∈ o.after, Region.binds .any e = true → listed.getD e.on false = true
/-- j waits for i, through others too -/
def reachW (ops : Array Oper) : Nat → Nat → Nat → Bool
  | 0, _, _ => false
  | f + 1, j, i => waits ops j i || (List.range ops.size).any fun k => waits ops j k && reachW ops f k i

theorem reachW_listed {listed : Array Bool} (hd : Down ops listed) : ∀ (f j i : Nat), (∀ k, waits ops j k = true → listed.getD k false = true) → reachW ops f j i = true → listed.getD i false = true
  | 0, _, _, _, h => by cases h
  | f + 1, j, i, hj, h => by
    simp only [reachW, Bool.or_eq_true, List.any_eq_true, Bool.and_eq_true] at h
    rcases h with h | ⟨k, _, h1, h2⟩
    · exact hj i h
    · refine reachW_listed hd f k i (fun q hq => ?_) h2
      obtain ⟨o, ho, e, he, hb, hon⟩ := waits_spec hq
      rw [← hon]
      exact hd k (hj k h1) o ho e he hb

theorem ready_waits {listed : Array Bool} {j : Nat} (hj : j ∈ Region.ready .any ops listed) : ∀ k, waits ops j k = true → listed.getD k false = true := by
  intro k hk
  obtain ⟨_, o, ho, hall⟩ := mem_ready.1 hj
  obtain ⟨o', ho', e, he, hb, hon⟩ := waits_spec hk
  have : o' = o := Option.some.inj (ho'.symm.trans ho)
  subst this
  rw [← hon]; exact hall e he hb

theorem Down.set {listed : Array Bool} {j : Nat} (hd : Down ops listed) (hj : j ∈ Region.ready .any ops listed) : Down ops (listed.setIfInBounds j true) := by
  intro k hk o ho e he hb
  by_cases hkj : j = k
  · subst hkj
    obtain ⟨_, o', ho', hall⟩ := mem_ready.1 hj
    have : o' = o := Option.some.inj (ho'.symm.trans ho)
    subst this
    exact getD_set_true (hall e he hb)
  · rw [getD_set_ne false hkj] at hk
    exact getD_set_true (hd k hk o ho e he hb)

theorem wpAnyW_first {i : Nat} {oi : Oper} {v : Value} (n : Nat) (hi : ops[i]? = some oi) (hsel : ∀ (j : Nat) (o : Oper) cs b, ops[j]? = some o → o.op ≠ .select cs b) (hW : ∀ j, W.contains j = true → reachW ops n j i = true)
    (hQ : ∀ c a w, Q (.panic c) (a.put oi.dst v) w → Q (.panic c) a w) :
    ∀ (f : Nat) (listed : Array Bool) (a : Act) (w : World), Down ops listed →
      (∀ j oj, ops[j]? = some oj → j ≠ i → listed.getD j true = false → (∀ e ∈ oj.after, Region.binds .any e = true → e.on ≠ i) → oi.apart ops oj = true) →
      i ∈ Region.ready .any ops listed → YieldsIf P ops S oi v a → S w →
      wpAnyW P ops Q S W f (listed.setIfInBounds i true) (a.put oi.dst v) w → wpAnyW P ops Q S W (f + 1) listed a w := by
  intro f
  induction f with
  | zero =>
    intro listed a w _ _ hr hy hS H
    refine ⟨fun h => (by rw [h] at hr; cases hr), fun j hj => ?_⟩
    by_cases hji : j = i
    · subst hji; exact hy.wpOp hi hS ⟨fun _ _ => hS, H⟩
    · have := ready_mono hj hji
      rw [H.1] at this
      cases this
  | succ f ih =>
    intro listed a w hdn hfree hr hy hS H
    refine ⟨fun h => (by rw [h] at hr; cases hr), fun j hj => ?_⟩
    by_cases hji : j = i
    · subst hji; exact hy.wpOp hi hS ⟨fun _ _ => hS, H⟩
    · have h1 := H.2 j (ready_mono hj hji)
      obtain ⟨hjun, oj, hoj, hall⟩ := mem_ready.1 hj
      have h0 := (mem_ready.1 hr).1
      have hiu : listed.getD i false = true → False := fun h => by
        simp only [Array.getD_eq_getD_getElem?] at h h0
        cases hq : listed[i]? with
        | none => rw [hq] at h0; simp at h0
        | some b => rw [hq] at h h0; simp at h h0; rw [h] at h0; cases h0
      have hnot : ∀ e ∈ oj.after, Region.binds .any e = true → e.on ≠ i := fun e he hb heq => by
        have h1 := hall e he hb
        rw [heq] at h1
        exact hiu h1
      have hWj : W.contains j = false := by
        cases hq : W.contains j with
        | false => rfl
        | true => exact absurd (reachW_listed hdn n j i (ready_waits hj) (hW j hq)) hiu
      have h2 := wpOp_putIf hoj (hfree j oj hoj hji hjun hnot) (fun cs b => hsel i oi cs b hi) (fun cs b => hsel j oj cs b hoj) hQ hy h1
      have hfree' : ∀ k ok, ops[k]? = some ok → k ≠ i → (listed.setIfInBounds j true).getD k true = false →
          (∀ e ∈ ok.after, Region.binds .any e = true → e.on ≠ i) → oi.apart ops ok = true := fun k ok hk hki hun hno => by
        refine hfree k ok hk hki ?_ hno
        by_cases hjk : j = k
        · subst hjk; exact hjun
        · rw [getD_set_ne true hjk] at hun; exact hun
      refine wpOp_mono (fun a' w' h3 => ⟨fun _ _ => h3.2.1 hWj hS, ih (listed.setIfInBounds j true) a' w' (hdn.set hj) hfree' (ready_mono hr (Ne.symm hji)) h3.1 (h3.2.1 hWj hS) ?_⟩) h2
      rw [Array.setIfInBounds_comm _ _ hji]
      exact h3.2.2

/-- what yields in whatever world -/
theorem wpAnyW_pure {i : Nat} {oi : Oper} {v : Value} (hi : ops[i]? = some oi) (hsel : ∀ (j : Nat) (o : Oper) cs b, ops[j]? = some o → o.op ≠ .select cs b)
    (hQ : ∀ c a w, Q (.panic c) (a.put oi.dst v) w → Q (.panic c) a w) :
    ∀ (f : Nat) (listed : Array Bool) (a : Act) (w : World),
      (∀ j oj, ops[j]? = some oj → j ≠ i → listed.getD j true = false → (∀ e ∈ oj.after, Region.binds .any e = true → e.on ≠ i) → oi.apart ops oj = true) →
      i ∈ Region.ready .any ops listed → YieldsIf P ops (fun _ => True) oi v a →
      wpAnyW P ops Q S W f (listed.setIfInBounds i true) (a.put oi.dst v) w → wpAnyW P ops Q S W (f + 1) listed a w := by
  intro f
  induction f with
  | zero =>
    intro listed a w _ hr hy H
    refine ⟨fun h => (by rw [h] at hr; cases hr), fun j hj => ?_⟩
    by_cases hji : j = i
    · subst hji; exact hy.wpOp hi trivial ⟨fun _ h => h, H⟩
    · have := ready_mono hj hji
      rw [H.1] at this
      cases this
  | succ f ih =>
    intro listed a w hfree hr hy H
    refine ⟨fun h => (by rw [h] at hr; cases hr), fun j hj => ?_⟩
    by_cases hji : j = i
    · subst hji; exact hy.wpOp hi trivial ⟨fun _ h => h, H⟩
    · have h1 := H.2 j (ready_mono hj hji)
      obtain ⟨hjun, oj, hoj, hall⟩ := mem_ready.1 hj
      have hnot : ∀ e ∈ oj.after, Region.binds .any e = true → e.on ≠ i := fun e he hb heq => by
        have h1 := hall e he hb
        have h0 := (mem_ready.1 hr).1
        rw [heq] at h1
        simp only [Array.getD_eq_getD_getElem?] at h1 h0
        cases hq : listed[i]? with
        | none => rw [hq] at h0; simp at h0
        | some b => rw [hq] at h1 h0; simp at h1 h0; rw [h1] at h0; cases h0
      have h2 := wpOp_putIf hoj (hfree j oj hoj hji hjun hnot) (fun cs b => hsel i oi cs b hi) (fun cs b => hsel j oj cs b hoj) hQ hy h1
      have hfree' : ∀ k ok, ops[k]? = some ok → k ≠ i → (listed.setIfInBounds j true).getD k true = false →
          (∀ e ∈ ok.after, Region.binds .any e = true → e.on ≠ i) → oi.apart ops ok = true := fun k ok hk hki hun hno => by
        refine hfree k ok hk hki ?_ hno
        by_cases hjk : j = k
        · subst hjk; exact hjun
        · rw [getD_set_ne true hjk] at hun; exact hun
      refine wpOp_mono (fun a' w' h3 => ⟨h3.2.1, ih (listed.setIfInBounds j true) a' w' hfree' (ready_mono hr (Ne.symm hji)) h3.1 ?_⟩) h2
      rw [Array.setIfInBounds_comm _ _ hji]
      exact h3.2.2

def downB (ops : Array Oper) (listed : Array Bool) : Bool := (List.range ops.size).all fun k => !listed.getD k false || (ops[k]?).all fun o => o.after.all fun e => !Region.binds .any e || listed.getD e.on false
theorem down_of {listed : Array Bool} (h : downB ops listed = true) : Down ops listed := by
  intro k hk o ho e he hb
  have hkl : k < ops.size := (Array.getElem?_eq_some_iff.1 ho).1
  have h1 := List.all_eq_true.1 h k (List.mem_range.2 hkl)
  rw [hk, ho] at h1
  simp only [Bool.not_true, Bool.false_or, Option.all_some, Array.all_eq_true'] at h1
  have := h1 e he
  rw [hb] at this
  simpa using this

/-- one operation is taken first -/
theorem w_take (i : Nat) {oi : Oper} {r : List Oper} {v : Value} {f : Nat} {listed : Array Bool} {a : Act} {w : World} (hi : ops.toList.drop i = oi :: r)
    (hs : Region.noSelect ops = true) (hW : (W.all fun j => reachW ops 12 j i) = true) (hdn : downB ops listed = true) (hf : Region.free .any ops listed i = true) (hr : (Region.ready .any ops listed).contains i = true)
    (hQ : ∀ c a w, Q (.panic c) (a.put oi.dst v) w → Q (.panic c) a w) (hy : YieldsIf P ops S oi v a) (hS : S w)
    (h : wpAnyW P ops Q S W f (listed.setIfInBounds i true) (a.put oi.dst v) w) : wpAnyW P ops Q S W (f + 1) listed a w :=
  wpAnyW_first 12 (op_of_drop hi) (Region.noSelect_spec hs) (fun j hj => List.all_eq_true.1 hW j (by simpa using hj)) hQ f listed a w (down_of hdn) (Region.free_spec (op_of_drop hi) hf) (by simpa using hr) hy hS h

theorem w_pure (i : Nat) {oi : Oper} {r : List Oper} {v : Value} {f : Nat} {listed : Array Bool} {a : Act} {w : World} (hi : ops.toList.drop i = oi :: r)
    (hs : Region.noSelect ops = true) (hf : Region.free .any ops listed i = true) (hr : (Region.ready .any ops listed).contains i = true)
    (hQ : ∀ c a w, Q (.panic c) (a.put oi.dst v) w → Q (.panic c) a w) (hy : YieldsIf P ops (fun _ => True) oi v a)
    (h : wpAnyW P ops Q S W f (listed.setIfInBounds i true) (a.put oi.dst v) w) : wpAnyW P ops Q S W (f + 1) listed a w :=
  wpAnyW_pure (op_of_drop hi) (Region.noSelect_spec hs) hQ f listed a w (Region.free_spec (op_of_drop hi) hf) (by simpa using hr) hy h

/-- just one operation may come up -/
theorem w_one {i : Nat} {o : Oper} {r : List Oper} {f : Nat} {listed : Array Bool} {a : Act} {w : World} (hr : Region.ready .any ops listed = [i]) (ho : ops.toList.drop i = o :: r) (hW : W.contains i = false) (hS : S w)
    (h : ∀ Q' : Exit → Act → World → Prop, (∀ a w, S w → wpAnyW P ops Q S W f (listed.setIfInBounds i true) a w → Q' .normal a w) → wpList P ops Q' [o] a w) :
    wpAnyW P ops Q S W (f + 1) listed a w := by
  refine ⟨fun h0 => (by rw [hr] at h0; cases h0), fun j hj => ?_⟩
  rw [hr] at hj
  obtain rfl : j = i := by simpa using hj
  exact wpOp_of_list (op_of_drop ho) (h _ fun a w hS hW => ⟨fun _ _ => hS, hW⟩)
/-- just one operation may come up, a late one -/
theorem w_late {i : Nat} {o : Oper} {r : List Oper} {f : Nat} {listed : Array Bool} {a : Act} {w : World} (hr : Region.ready .any ops listed = [i]) (ho : ops.toList.drop i = o :: r) (hW : W.contains i = true)
    (h : ∀ Q' : Exit → Act → World → Prop, (∀ a w, True → wpAnyW P ops Q S W f (listed.setIfInBounds i true) a w → Q' .normal a w) → wpList P ops Q' [o] a w) :
    wpAnyW P ops Q S W (f + 1) listed a w := by
  refine ⟨fun h0 => (by rw [hr] at h0; cases h0), fun j hj => ?_⟩
  rw [hr] at hj
  obtain rfl : j = i := by simpa using hj
  exact wpOp_of_list (op_of_drop ho) (h _ fun a w _ hX => ⟨fun h => (by rw [hW] at h; cases h), hX⟩)
theorem w_done {listed : Array Bool} {a : Act} {w : World} (hr : Region.ready .any ops listed = []) (h : Q .normal a w) : ∀ f, wpAnyW P ops Q S W f listed a w
  | 0 => ⟨hr, h⟩
  | _ + 1 => ⟨fun _ => h, by rw [hr]; simp⟩
theorem wp_region_w {id : Nat} {a : Act} {w : World} (hm : P.follows .mixedOrders = true) (hS : S w.drew)
    (h : S w.drew → wpAnyW P ops Q S W ops.size (Array.replicate ops.size false) a w.drew) : (Code.region id ops true).wp P Q a w :=
  wp_region_any hm (wpAny_of_W _ _ _ _ (h hS))
end
theorem Cls.two_room {w0 W : World} {L : List Nat} {r r2 n n2 : Nat} {vs vs2 : List Value} {T T2 : TypeId} (h : Ext w0 W) (k : Kept W L W) (hb : Blk W r vs T) (hn : vs.length = n) (hb2 : Blk W r2 vs2 T2) (hn2 : vs2.length = n2) : Cls w0 W L [(r, n, T), (r2, n2, T2)] W :=
  ⟨h, k, by simp only [List.mem_cons, List.not_mem_nil, or_false]; rintro x (rfl | rfl) <;> first | exact ⟨hb.lt, vs, hn, hb⟩ | exact ⟨hb2.lt, vs2, hn2, hb2⟩⟩
end

section
open Go

/-- the greatest power of two less than n (n from 2 on) -/
def splitN (n : Nat) : Nat := 2 ^ Nat.log2 (n - 1)

theorem splitN_spec {n : Nat} (h : 2 ≤ n) : 1 ≤ splitN n ∧ splitN n < n ∧ n ≤ 2 * splitN n := by
  unfold splitN
  have h1 := Nat.log2_self_le (n := n - 1) (by omega)
  have h2 := Nat.lt_log2_self (n := n - 1)
  rw [Nat.pow_succ] at h2
  have h3 : 0 < 2 ^ Nat.log2 (n - 1) := Nat.pow_pos (by omega)
  omega

theorem splitN_eq {n j : Nat} (h1 : 2 ^ j < n) (h2 : n ≤ 2 * 2 ^ j) : 2 ^ j = splitN n := by
  have hp : 0 < 2 ^ j := Nat.pow_pos (by omega)
  have : Nat.log2 (n - 1) = j := (Nat.log2_eq_iff (by omega)).2 ⟨by omega, by rw [Nat.pow_succ]; omega⟩
  rw [splitN, this]

/-- for each sum of a path, from the leaf on: whether it stands on the left -/
def sidesL (i n : Nat) : List Bool :=
  if h : n < 2 then [] else if i < splitN n then sidesL i (splitN n) ++ [false] else sidesL (i - splitN n) (n - splitN n) ++ [true]
termination_by n
decreasing_by
  · have := splitN_spec (n := n) (by omega); omega
  · have := splitN_spec (n := n) (by omega); omega

theorem sidesL_one (i n : Nat) (h : n < 2) : sidesL i n = [] := by rw [sidesL, dif_pos h]
theorem sidesL_left {i n : Nat} (h : 2 ≤ n) (hi : i < splitN n) : sidesL i n = sidesL i (splitN n) ++ [false] := by
  rw [sidesL, dif_neg (by omega), if_pos hi]
theorem sidesL_right {i n : Nat} (h : 2 ≤ n) (hi : ¬ i < splitN n) : sidesL i n = sidesL (i - splitN n) (n - splitN n) ++ [true] := by
  rw [sidesL, dif_neg (by omega), if_neg hi]

theorem sidesL_le (i n : Nat) : (sidesL i n).length ≤ n := by
  induction n using Nat.strongRecOn generalizing i with
  | ind n ih =>
    by_cases h : n < 2
    · rw [sidesL_one _ _ h]; simp
    · have hs := splitN_spec (n := n) (by omega)
      by_cases hi : i < splitN n
      · rw [sidesL_left (by omega) hi, List.length_append]
        have := ih (splitN n) (by omega) i
        simp only [List.length_cons, List.length_nil]; omega
      · rw [sidesL_right (by omega) hi, List.length_append]
        have := ih (n - splitN n) (by omega) (i - splitN n)
        simp only [List.length_cons, List.length_nil]; omega

section
variable (nd : List UInt8 → List UInt8 → List UInt8)
def stepN (x : List UInt8) (p : Bool × List UInt8) : List UInt8 := if p.1 then nd p.2 x else nd x p.2
def leadS (x : List UInt8) (s : List Bool) (path : List (List UInt8)) : List UInt8 := (s.zip path).foldl (stepN nd) x
theorem leadS_nil (x : List UInt8) (path : List (List UInt8)) : leadS nd x [] path = x := rfl
theorem leadS_snoc (x : List UInt8) (s : List Bool) (b : Bool) (path : List (List UInt8)) (y : List UInt8) (h : s.length = path.length) :
    leadS nd x (s ++ [b]) (path ++ [y]) = if b then nd y (leadS nd x s path) else nd (leadS nd x s path) y := by
  unfold leadS
  rw [List.zip_append h, List.foldl_append]
  rfl
theorem leadS_take (x : List UInt8) (s : List Bool) (path : List (List UInt8)) (k : Nat) (hs : k < s.length) (hp : k < path.length) :
    leadS nd x (s.take (k + 1)) (path.take (k + 1)) = if s[k] then nd path[k] (leadS nd x (s.take k) (path.take k)) else nd (leadS nd x (s.take k) (path.take k)) path[k] := by
  rw [List.take_succ_eq_append_getElem hs, List.take_succ_eq_append_getElem hp, leadS_snoc]
  simp; omega
theorem leadS_length (hnd : ∀ a b, (nd a b).length = 32) (x : List UInt8) (s : List Bool) (path : List (List UInt8)) (hx : x.length = 32) : (leadS nd x s path).length = 32 := by
  unfold leadS
  generalize s.zip path = z
  induction z generalizing x with
  | nil => exact hx
  | cons p z ih =>
    rw [List.foldl_cons]
    apply ih
    unfold stepN
    split <;> exact hnd _ _

/-- how many sums a path of growth has -/
def growN (m n : Nat) (whole : Bool) : Nat :=
  if h : n < 2 then (if whole then 0 else 1) else if m = n then (if whole then 0 else 1) else if m ≤ splitN n then growN m (splitN n) whole + 1 else growN (m - splitN n) (n - splitN n) false + 1
termination_by n
decreasing_by
  · have := splitN_spec (n := n) (by omega); omega
  · have := splitN_spec (n := n) (by omega); omega
/-- the older and the newer root -/
def followL (older : List UInt8) (m n : Nat) (whole : Bool) (path : List (List UInt8)) : List UInt8 × List UInt8 :=
  if h : n < 2 then (if whole then (older, older) else (path.headD [], path.headD [])) else if m = n then (if whole then (older, older) else (path.headD [], path.headD [])) else
    if m ≤ splitN n then ((followL older m (splitN n) whole path.dropLast).1, nd (followL older m (splitN n) whole path.dropLast).2 (path.getLastD []))
    else (nd (path.getLastD []) (followL older (m - splitN n) (n - splitN n) false path.dropLast).1, nd (path.getLastD []) (followL older (m - splitN n) (n - splitN n) false path.dropLast).2)
termination_by n
decreasing_by
  all_goals have := splitN_spec (n := n) (by omega); omega
end

theorem growN_eq {n : Nat} (whole : Bool) : growN n n whole = if whole then 0 else 1 := by
  rw [growN]; split
  · rfl
  · rw [if_pos rfl]
theorem growN_left {m n : Nat} {whole : Bool} (h1 : 1 ≤ m) (h : m < n) (hm : m ≤ splitN n) : growN m n whole = growN m (splitN n) whole + 1 := by
  rw [growN, dif_neg (by omega), if_neg (by omega), if_pos hm]
theorem growN_right {m n : Nat} {whole : Bool} (h1 : 1 ≤ m) (h : m < n) (hm : ¬ m ≤ splitN n) : growN m n whole = growN (m - splitN n) (n - splitN n) false + 1 := by
  rw [growN, dif_neg (by omega), if_neg (by omega), if_neg hm]
theorem followL_eq (nd : List UInt8 → List UInt8 → List UInt8) (older : List UInt8) (n : Nat) (whole : Bool) (path : List (List UInt8)) : followL nd older n n whole path = if whole then (older, older) else (path.headD [], path.headD []) := by
  rw [followL]; split
  · rfl
  · rw [if_pos rfl]
theorem followL_left (nd : List UInt8 → List UInt8 → List UInt8) (older : List UInt8) {m n : Nat} (whole : Bool) (rest : List (List UInt8)) (last : List UInt8) (h1 : 1 ≤ m) (h : m < n) (hm : m ≤ splitN n) :
    followL nd older m n whole (rest ++ [last]) = ((followL nd older m (splitN n) whole rest).1, nd (followL nd older m (splitN n) whole rest).2 last) := by
  rw [followL, dif_neg (by omega), if_neg (by omega), if_pos hm]; simp
theorem followL_right (nd : List UInt8 → List UInt8 → List UInt8) (older : List UInt8) {m n : Nat} (whole : Bool) (rest : List (List UInt8)) (last : List UInt8) (h1 : 1 ≤ m) (h : m < n) (hm : ¬ m ≤ splitN n) :
    followL nd older m n whole (rest ++ [last]) = (nd last (followL nd older (m - splitN n) (n - splitN n) false rest).1, nd last (followL nd older (m - splitN n) (n - splitN n) false rest).2) := by
  rw [followL, dif_neg (by omega), if_neg (by omega), if_neg hm]; simp
theorem growN_le (m n : Nat) (whole : Bool) (h : m ≤ n) (h1 : 1 ≤ m) : growN m n whole ≤ n := by
  induction n using Nat.strongRecOn generalizing m whole with
  | ind n ih =>
    rcases Nat.lt_or_ge m n with h2 | h2
    · have hs := splitN_spec (n := n) (by omega)
      by_cases hm : m ≤ splitN n
      · rw [growN_left h1 h2 hm]
        have := ih (splitN n) (by omega) m whole hm h1
        omega
      · rw [growN_right h1 h2 hm]
        have := ih (n - splitN n) (by omega) (m - splitN n) false (by omega) (by omega)
        omega
    · obtain rfl : m = n := by omega
      rw [growN_eq]; split <;> omega
end

section
open Go Go.RowKit

/-- the state behind the first n blocks -/
def absN (s t : List UInt8) : Nat → List UInt8
  | 0 => s
  | n + 1 => absorb (absN s t n) ((t.drop (32 * n)).take 32)
theorem absN_length {s t : List UInt8} (hs : s.length = 64) (n : Nat) : (absN s t n).length = 64 := by
  cases n with
  | zero => exact hs
  | succ n => exact absorb_length _ _
theorem absN_append {s t b : List UInt8} (n : Nat) (h : 32 * n ≤ t.length) : absN s (t ++ b) n = absN s t n := by
  induction n with
  | zero => rfl
  | succ n ih =>
    rw [absN, absN, ih (by omega), List.drop_append_of_le_length (by omega), List.take_append_of_le_length (by rw [List.length_drop]; omega)]

/-- block g is a Summer that began with s0 and took t -/
def Holds (w : World) (g : Nat) (T : TypeId) (s0 t : List UInt8) (tot : Int) : Prop :=
  ∃ r : List UInt8, r.length = 32 ∧ r.take (t.length % 32) = t.drop (32 * (t.length / 32)) ∧ Blk w g (sm (absN s0 t (t.length / 32)) r (t.length % 32 : Nat) tot) T

theorem field_have {w : World} {g : Nat} {T : TypeId} {s r : List UInt8} {h t : Int} (hb : Blk w g (sm s r h t) T) (hs : s.length = 64) (hr : r.length = 32) :
    w.cell? ⟨g, 96, none⟩ = some (.int .i64 h) := hb.cell' (sm_have h t hs hr)

theorem u8_at {l : List UInt8} {i : Nat} (h : i < l.length) : (l.map u8v)[i]? = some (.int .u8 ((l[i]?.getD 0).toNat : Int)) := by simp [h, u8v]
theorem drop_behind {t b : List UInt8} {m k : Nat} (h : t.length = 32 * m) : (t ++ b).drop (32 * (m + k)) = b.drop (32 * k) := by
  rw [List.drop_append, List.drop_of_length_le (by rw [h]; omega), List.nil_append, h, show 32 * (m + k) - 32 * m = 32 * k by omega]
def sliceLen : Value → Nat
  | .slice _ n _ => n
  | _ => 0

def takePost (w : World) (g : Nat) (T : TypeId) (s0 u : List UInt8) (tot : Int) (e : Ending) (w' : World) : Prop :=
  e = .returned (.tuple #[]) ∧ Holds w' g T s0 u tot ∧ w.grownBy w' (some g)

set_option maxRecDepth 100000 in
set_option maxHeartbeats 1000000 in
/-- with nothing ahead -/
theorem take_c0 (s0 t b r : List UInt8) (tot : Int) (g m n c : Nat) (a : Option Addr) (T : TypeId) (w : World) (hs : s0.length = 64) (hr : r.length = 32) (hb : b.length = n) (hm : t.length = 32 * m)
    (hB : Blk w g (sm (absN s0 t m) r 0 tot) T) (hn : n ≤ 140737488355328) (hnc : n ≤ c) (hc : c ≤ 9223372036854775807) (h0 : a = none → n = 0) (hcl : Cells w a (b.map u8v)) (haw : n = 0 ∨ ∀ x, a = some x → some x.block ≠ some g) :
    Calls Try.prog 162 #[.pointer (some ⟨g, 0, none⟩), .slice a n c] w (takePost w g T s0 (t ++ b) tot) := by
  have HS := hid hs
  clear hs
  have HB := hid hb
  clear hb
  have HM := hid hm
  clear hm
  have HR := hid hr
  clear hr
  have H0 := hid h0
  clear h0
  have HA := hid haw
  clear haw
  have HC := hid hcl
  clear hcl
  have c1 := hB.cell' (sm_have 0 tot (absN_length HS.out m) HR.out)
  go_enter Try.func162, Try.ntmps162
  go_wp2
  clear c1
  go_loopw [1] (fun x wr => ∃ (k n' c' : Nat) (a' : Option Addr), x = .slice a' n' c' ∧ n' + 32 * k = n ∧ n' ≤ c' ∧ c' ≤ c ∧ Hid (a' = none → n' = 0) ∧ Hid (n' = 0 ∨ ∀ x, a' = some x → some x.block ≠ some g) ∧
      Hid (Cells wr a' ((b.drop (32 * k)).map u8v)) ∧ Hid (Blk wr g (sm (absN s0 (t ++ b) (m + k)) r 0 tot) T) ∧ Hid (w.grownBy wr (some g)))
    (fun x _ => sliceLen x)
  case atStart => exact ⟨0, n, c, a, rfl, by omega, hnc, by omega, H0, HA, HC, hid (by rw [Nat.add_zero, absN_append _ (by rw [HM.out]; omega)]; exact hB), hid (grown_refl _ _)⟩
  case round =>
    obtain ⟨k, n', c', a', rfl, hk, hnc', hcc', h0', ha', hc', hb', hg'⟩ := hrel
    by_cases hlt : 32 ≤ n'
    · have hd : decide ((32 : Int) ≤ (n' : Int)) = true := decide_eq_true (by omega)
      have hlen : (b.drop (32 * k)).length = n' := by rw [List.length_drop, HB.out]; omega
      have hne : a' ≠ none := fun e => by have := h0'.out e; omega
      obtain ⟨gb, off, rfl, hcell⟩ := hc'.out.some_of (by rw [List.length_map, hlen]; omega)
      have haw2 := ha'.out.resolve_left (by omega)
      have hgb : gb ≠ g := fun e => haw2 _ rfl (by rw [e])
      have HA2 := hid haw2
      clear haw2
      have har := run_arrayAt (P := Try.prog) Try.underlying22 (len := n') hlt
      have hsrc : ∀ i, i < 32 → wr.cell? ⟨gb, off + i, none⟩ = some (.int .u8 ((((b.drop (32 * k)).take 32)[i]?.getD 0).toNat : Int)) := by
        intro i hi
        refine hcell i _ ?_
        rw [List.getElem?_take_of_lt hi]
        exact u8_at (by omega)
      have HSR := hid hsrc
      clear hsrc hcell hne
      have HL := hid hlen
      clear hlen
      go_wp2_with fail
      refine (block_c _ ((b.drop (32 * k)).take 32) _ g gb off T wr (absN_length HS.out _) hb'.out HSR.out (.inl hgb)).mono ?_
      rintro e w1 ⟨rfl, b1, g1⟩
      have hst : absorb (absN s0 (t ++ b) (m + k)) ((b.drop (32 * k)).take 32) = absN s0 (t ++ b) (m + (k + 1)) := by
        rw [← Nat.add_assoc, absN, drop_behind HM.out]
      rw [hst] at b1
      have HB1 := hid b1
      clear b1 hst
      have HG1 := hid (grown_trans hg'.out g1)
      have hc1 := hid (hc'.out.grown g1 HA2.out)
      clear g1
      go_wp2_with (refine wpl_slice_low rfl _ _ _ _ rfl (k := 32) rfl rfl Try.underlying28 size_u8 hlt ?_)
      go_roundw
      case rel =>
        refine ⟨k + 1, n' - 32, c' - 32, _, rfl, by omega, by omega, by omega, hid fun e => ?_, hid (.inr (shift_away HA2.out)), hid ?_, HB1, HG1⟩
        · have := h0'.out (shift_nil.1 e); omega
        · have h1 := hc1.out.shift c' 32 (n' - 32) (by omega)
          rw [← List.map_drop, List.drop_drop, List.take_of_length_le (by rw [List.length_map, List.length_drop, HB.out]; omega)] at h1
          rwa [show 32 * k + 32 = 32 * (k + 1) by omega] at h1
      case measure => simp [sliceLen]; omega
    · have hd : decide ((32 : Int) ≤ (n' : Int)) = false := decide_eq_false (by omega)
      have hlen : (b.drop (32 * k)).length = n' := by rw [List.length_drop, HB.out]; omega
      have hlen2 : ((b.drop (32 * k)).map u8v).length = n' := by rw [List.length_map, hlen]
      have hmin : n' = Nat.min n' 32 := (Nat.min_eq_left (by omega)).symm
      have HMI := hid hmin
      clear hmin
      have hfit : 64 + n' ≤ (sm (absN s0 (t ++ b) (m + k)) r 0 tot).length := by rw [sm_length _ _ (absN_length HS.out _) HR.out]; omega
      have HF := hid hfit
      clear hfit
      have hsp := sm_splice (xs := b.drop (32 * k)) 0 tot (absN_length (t := t ++ b) HS.out (m + k)) HR.out 0 (by rw [hlen]; omega)
      rw [List.take_zero, List.nil_append, Nat.add_zero, Nat.zero_add, hlen] at hsp
      have hrl : (b.drop (32 * k) ++ r.drop n').length = 32 := by rw [List.length_append, hlen, List.length_drop, HR.out]; omega
      have hrt : (b.drop (32 * k) ++ r.drop n').take n' = b.drop (32 * k) := by rw [← hlen, List.take_left]
      have hdb := drop_behind (b := b) (k := k) HM.out
      generalize b.drop (32 * k) = bb at *
      have HDB := hid hdb
      have HL := hid hlen
      clear hlen hdb
      have HL2 := hid hlen2
      clear hlen2
      generalize hr2 : bb ++ r.drop n' = r2 at *
      have HRT := hid hrt
      have HR2 := hid hrl
      have HSP := hid hsp
      clear hrt hrl hsp hr2
      go_wp2_with (refine wpl_copyc rfl _ _ _ _ rfl rfl rfl hb'.out Try.underlying28 size_u8 HL2.out HMI.out h0'.out hc'.out HF.out (one_u8 _) ?_)
      intro w1 b1 u1
      rw [HSP.out] at b1
      have f1 := b1.frozen 96
      have c1 := b1.cell' (sm_have 0 tot (absN_length HS.out (m + k)) HR2.out)
      go_wp2
      have b2 := b1.set 96 (.int .i64 (n' : Int))
      rw [sm_set_have _ _ _ (absN_length HS.out _) HR2.out] at b2
      have HB2 := hid b2
      have HG2 := hid (grown_set (grown_upd hg'.out u1) 96 (.int .i64 (n' : Int)))
      clear b2
      refine end_none rfl rfl ⟨rfl, ⟨r2, HR2.out, ?_, ?_⟩, HG2.out⟩
      · have h1 : (t ++ b).length % 32 = n' := by rw [List.length_append, HM.out, HB.out]; omega
        have h2 : (t ++ b).length / 32 = m + k := by rw [List.length_append, HM.out, HB.out]; omega
        rw [h1, h2, HDB.out]; exact HRT.out
      · have h1 : (t ++ b).length % 32 = n' := by rw [List.length_append, HM.out, HB.out]; omega
        have h2 : (t ++ b).length / 32 = m + k := by rw [List.length_append, HM.out, HB.out]; omega
        rw [h1, h2]; exact HB2.out
end

section
open Go Go.RowKit

def hexd (n : Nat) : UInt8 := if n < 10 then UInt8.ofNat (48 + n) else UInt8.ofNat (87 + n)
def hex2 (b : UInt8) : List UInt8 := [hexd (b.toNat / 16), hexd (b.toNat % 16)]
def hexL (l : List UInt8) : List UInt8 := l.flatMap hex2
theorem hexL_length (l : List UInt8) : (hexL l).length = 2 * l.length := by
  induction l with
  | nil => rfl
  | cons x l ih => simp only [hexL, List.flatMap_cons, List.length_append, List.length_cons] at *; rw [ih]; simp [hex2]; omega
theorem hexL_snoc (l : List UInt8) (k : Nat) (h : k < l.length) : hexL (l.take (k + 1)) = hexL (l.take k) ++ hex2 (l[k]?.getD 0) := by
  rw [List.take_succ_eq_append_getElem h, hexL, List.flatMap_append]
  simp [hexL, h]

def digitsStr : ByteArray := { data := #[48, 49, 50, 51, 52, 53, 54, 55, 56, 57, 97, 98, 99, 100, 101, 102] }
theorem digits_at (k : Nat) (h : k < 16) : digitsStr[k]? = some (hexd k) := by
  have : ∀ k : Fin 16, digitsStr[k.val]? = some (hexd k.val) := by decide
  exact this ⟨k, h⟩
theorem run_digits (k : Nat) (h : k < 16) (w : World) : (Instr.index 9 (.string { data := #[48, 49, 50, 51, 52, 53, 54, 55, 56, 57, 97, 98, 99, 100, 101, 102] }) (.int .u8 (k : Int))).run Try.prog w = .ok (.int .u8 ((hexd k).toNat : Nat)) w := by
  have hd := digits_at k h
  unfold digitsStr at hd
  simp [Instr.index, asIntOf, run_underlying Try.underlying9, hd]

theorem and15_u8 (b : UInt8) : bits .and .u8 (b.toNat : Int) 15 = (b.toNat : Int) % 16 := by
  have h := b.toNat_lt
  have e : (15 : Int) = ((15 : Nat) : Int) := rfl
  rw [e, (bits_u8 _ 15 h (by omega)).2.2, Nat.and_two_pow_sub_one_eq_mod b.toNat 4]; omega
theorem run_digits2 (b : UInt8) : (∀ w, (Instr.index 9 (.string { data := #[48, 49, 50, 51, 52, 53, 54, 55, 56, 57, 97, 98, 99, 100, 101, 102] }) (.int .u8 ((b.toNat : Int) / 16))).run Try.prog w = .ok (.int .u8 ((hexd (b.toNat / 16)).toNat : Nat)) w) ∧
    (∀ w, (Instr.index 9 (.string { data := #[48, 49, 50, 51, 52, 53, 54, 55, 56, 57, 97, 98, 99, 100, 101, 102] }) (.int .u8 ((b.toNat : Int) % 16))).run Try.prog w = .ok (.int .u8 ((hexd (b.toNat % 16)).toNat : Nat)) w) ∧
    bits .and .u8 (b.toNat : Int) 15 = (b.toNat : Int) % 16 := by
  have h := b.toNat_lt
  have e1 : (b.toNat : Int) / 16 = ((b.toNat / 16 : Nat) : Int) := by omega
  have e2 : (b.toNat : Int) % 16 = ((b.toNat % 16 : Nat) : Int) := by omega
  rw [and15_u8, e1, e2]
  exact ⟨run_digits _ (by omega), run_digits _ (by omega), rfl⟩

theorem info_u8 : (Try.prog.info? 5).map (fun i => (i.zero, i.size, i.bytes)) = some (some (.int .u8 0), 1, 1) := by kernel_rfl

/-- string of octets -/
def strOf (l : List UInt8) : ByteArray := ⟨l.toArray⟩

theorem ints_back (l : List UInt8) : ((l.map fun b => (b.toNat : Int)).map fun n => UInt8.ofNat n.toNat) = l := by
  rw [List.map_map]
  conv => rhs; rw [← List.map_id l]
  apply List.map_congr_left
  intro b _
  simp

theorem run_string_of (w : World) (a : Option Addr) (l : List UInt8) (n c : Nat) (h : Cells w a (l.map u8v)) (hn : n = l.length) :
    (convert 28 9 (.slice a n c)).run Try.prog w = .ok (.string (strOf l)) w := by
  subst hn
  have hm : (l.map fun b => (b.toNat : Int)).map (Value.int .u8) = l.map u8v := by
    rw [List.map_map]; rfl
  have main : ∀ x : Addr, (loadCells x l.length).run Try.prog w = .ok (l.map u8v).toArray w → (convert 28 9 (.slice (some x) l.length c)).run Try.prog w = .ok (.string (strOf l)) w := by
    intro x hl
    rw [run_convert_bytes_string w 28 9 5 (some x) l.length c Try.underlying28 Try.underlying5 Try.underlying9,
      run_bytesToString w x l.length c (l.map fun b => (b.toNat : Int)) (by rw [hm]; exact hl), foldl_push_bytes, ints_back]
    simp [strOf, ByteArray.empty, ByteArray.emptyWithCapacity]
    rfl
  rcases h with h | ⟨b, off, rfl, h⟩
  · have hl : l = [] := by simpa using h
    subst hl
    cases a with
    | none => exact run_convert_bytes_nil w 28 5 Try.underlying28 Try.underlying5 _ _ _ Try.underlying9
    | some x => exact main x (by simpa using run_loadCells_list (P := Try.prog) w x [] (by simp))
  · refine main _ ?_
    have := run_loadCells_list (P := Try.prog) w ⟨b, off, none⟩ (l.map u8v) (fun j v hj => by
      have hplain : (⟨b, off, none⟩ : Addr).add j = ⟨b, off + j, none⟩ := by unfold Addr.add; split <;> simp_all
      rw [hplain]; exact h j v hj)
    simpa using this

set_option maxRecDepth 100000 in
set_option maxHeartbeats 1000000 in
theorem hex_c (l : List UInt8) (a : Option Addr) (c : Nat) (w : World) (hl : l.length ≤ 140737488351232) (hc : Cells w a (l.map u8v)) :
    Calls Try.prog 16 #[.slice a l.length c] w fun e w' => e = .returned (.string (strOf (hexL l))) ∧ Ext w w' := by
  obtain ⟨i0, hi, hz0, hz1, hz2⟩ := info_parts info_u8
  have HC := hid hc
  clear hc
  obtain ⟨n, hn⟩ : ∃ n, l.length = n := ⟨_, rfl⟩
  have HN := hid hn
  rw [hn] at hl ⊢
  clear hn
  go_enter Try.func16, Try.ntmps16
  go_wp2_with (at_make; refine wpList_make_own _ rfl _ _ 28 rfl w.heap.size 5 i0 (.int .u8 0) 1 Try.underlying28 hi hz0 hz1 _ _ _ (2 * n) rfl rfl (by omega) (by rw [hz2]; omega) (by unfold maxLen; omega) (Nat.le_refl _) ?_)
  intro w1 own1 gr1
  have e1 : Ext w w1 := (Ext.refl w).grown gr1 (fun g h => by cases h)
  clear gr1
  go_wp2
  go_loopw [12, 3] (fun x v wr => ∃ k : Nat, k ≤ n ∧ x = .int .i64 k ∧ v = .slice (some ⟨w.heap.size, 0, none⟩) (2 * k) (2 * n) ∧ wr.ownsRow w.heap.size 5 1 v (2 * k) ((hexL (l.take k)).map u8v) ∧ Ext w wr)
    (fun x _ _ => n - (intOf x).toNat)
  case atStart => exact ⟨0, by omega, rfl, rfl, by simpa [hexL] using own1, e1⟩
  case round =>
    obtain ⟨k, hk, rfl, rfl, own, bb⟩ := hrel
    by_cases hlt : k < n
    · obtain ⟨b, off, rfl, hcell⟩ := (HC.out.ext bb).some_of (by rw [List.length_map, HN.out]; omega)
      have hc1 : wr.cell? ⟨b, off + k, none⟩ = some (.int .u8 ((l[k]?.getD 0).toNat : Nat)) := hcell k _ (by simp [u8v, HN.out, hlt])
      clear hcell
      have h8 := u8_lt (l[k]?.getD 0)
      obtain ⟨r1, r2, r3⟩ := run_digits2 (l[k]?.getD 0)
      have hs := hexL_snoc l k (by rw [HN.out]; exact hlt)
      have HS := hid hs
      clear hs
      go_wp2
      go_region_law ((refine step_append_fits rfl _ _ 28 rfl w.heap.size 5 i0 1 Try.underlying28 hi hz1 w.heap.size (2 * k) (2 * n) _ rfl (own.alloc _) ⟨wr.heap.size, 0, none⟩ 2 2 ((hex2 (l[k]?.getD 0)).map u8v) rfl rfl (news_blk (T := 5) (Blk.mk_alloc rfl rfl)) (one_u8 _) (by omega) ?_; intro w2 own2 gr2))
      all_goals
        have e2 : Ext w w2 := ((bb.alloc _).drew).grown gr2 (fun g h => by cases h; exact Nat.le_refl _)
        rw [← List.map_append, ← HS.out] at own2
        clear gr2 own bb hc1 r1 r2 r3
        go_wp2
        go_roundw
        case rel => exact ⟨k + 1, by omega, by go_num, by rw [show 2 * (k + 1) = 2 * k + 2 by omega], own2, e2⟩
        case measure => simp [intOf]; omega
    · obtain rfl : k = n := by omega
      have hcs : Cells wr (some ⟨w.heap.size, 0, none⟩) ((hexL l).map u8v) := by
        refine .inr ⟨_, _, rfl, fun i u hu => ?_⟩
        rw [List.take_of_length_le (by rw [HN.out]; omega)] at own
        have h1 := own.cellAt i (by have := (List.getElem?_eq_some_iff.1 hu).1; rw [List.length_map, hexL_length, HN.out] at this; omega)
        rw [Nat.zero_add, h1]; exact hu
      have hst := run_string_of wr _ (hexL l) (2 * k) (2 * k) hcs (by rw [hexL_length, HN.out])
      go_wp2
      go_ret
      exact ⟨rfl, bb⟩

set_option maxHeartbeats 400000 in
theorem landed_c (w : World) : Calls Try.prog 9 #[] w fun e w' => e = .returned (.bool true) ∧ Ext w w' := by
  go_enter Try.func9, Try.ntmps9
  go_wp2_with fail
  refine (hex_c [1] _ _ _ (by simp) (Cells.of_blk0 (T := 5) (Blk.mk_alloc rfl rfl))).mono ?_
  rintro e w1 ⟨rfl, hb⟩
  have h01 : strOf (hexL [1]) = { data := #[48, 49] } := by decide
  rw [h01]
  go_wp2
  go_ret
  exact ⟨rfl, (Ext.alloc (Ext.refl w) _).ext hb⟩
end

section
open Go Go.RowKit

def roomE (n : Nat) (at_ many : Int) : Int := if at_ < 0 then 4 else if (n : Int) < many ∨ (n : Int) - many < at_ then 1 else 0

set_option maxHeartbeats 400000 in
theorem room_c (a : Option Addr) (n c : Nat) (at_ many : Int) (w : World) (hn : n ≤ 140737488355328) (hm : 0 ≤ many) (hm2 : many ≤ 1099511627776) :
    Calls Try.prog 141 #[.slice a n c, .int .i64 at_, .int .i64 many] w fun e w' => e = .returned (.int .i64 (roomE n at_ many)) ∧ w = w' := by
  by_cases h1 : at_ < 0
  · go_enter Try.func141, Try.ntmps141
    go_wp2
    go_ret
    exact ⟨by simp [roomE, h1], rfl⟩
  · by_cases h2 : (n : Int) < many
    · go_enter Try.func141, Try.ntmps141
      go_wp2
      go_ret
      exact ⟨by simp [roomE, h1, h2], rfl⟩
    · by_cases h3 : (n : Int) - many < at_
      · go_enter Try.func141, Try.ntmps141
        go_wp2
        go_ret
        exact ⟨by simp [roomE, h1, h2, h3], rfl⟩
      · have hE : roomE n at_ many = 0 := by simp only [roomE, h1, if_false]; rw [if_neg (by omega)]
        have HE := hid hE
        clear hE
        go_enter Try.func141, Try.ntmps141
        go_wp2
        go_ret
        exact ⟨by rw [HE.out]; rfl, rfl⟩

/-- what a reference's cut gives -/
def CutPost (a : Option Addr) (n c : Nat) (at_ many : Int) (w : World) (e : Ending) (w' : World) : Prop :=
  w = w' ∧ e = .returned (if roomE n at_ many = 0 then .tuple #[.slice (shift a c at_.toNat) many.toNat (c - at_.toNat), .int .i64 0] else .tuple #[.slice none 0 0, .int .i64 (roomE n at_ many)])

set_option maxHeartbeats 400000 in
theorem rcut_c (a : Option Addr) (n c : Nat) (at_ many : Int) (w : World) (hn : n ≤ 140737488355328) (hc : n ≤ c) (hc2 : c ≤ 140737488355328) (hm : 0 ≤ many) (hm2 : many ≤ 1099511627776) :
    Calls Try.prog 102 #[.slice a n c, .int .i64 at_, .int .i64 many] w (CutPost a n c at_ many w) := by
  by_cases h1 : at_ < 0
  · have hp : ∀ e w', (e = Ending.returned (.tuple #[.slice none 0 0, .int .i64 4]) ∧ w = w') → CutPost a n c at_ many w e w' := by
      rintro e w' ⟨rfl, rfl⟩
      have : roomE n at_ many = 4 := by simp [roomE, h1]
      refine ⟨rfl, ?_⟩
      rw [if_neg (by omega), this]
    refine Calls.mono ?_ hp
    clear hp
    go_enter Try.func102, Try.ntmps102
    go_wp2
    go_ret2
    exact ⟨rfl, rfl⟩
  · have h0 : 0 ≤ at_ := by omega
    by_cases h2 : (n : Int) < at_
    · have hp : ∀ e w', (e = Ending.returned (.tuple #[.slice none 0 0, .int .i64 1]) ∧ w = w') → CutPost a n c at_ many w e w' := by
        rintro e w' ⟨rfl, rfl⟩
        have : roomE n at_ many = 1 := by simp only [roomE, h1, if_false]; rw [if_pos (by omega)]
        refine ⟨rfl, ?_⟩
        rw [if_neg (by omega), this]
      refine Calls.mono ?_ hp
      clear hp
      go_enter Try.func102, Try.ntmps102
      go_wp2
      go_ret2
      exact ⟨rfl, rfl⟩
    · by_cases h3 : (n : Int) - at_ < many
      · have hp : ∀ e w', (e = Ending.returned (.tuple #[.slice none 0 0, .int .i64 1]) ∧ w = w') → CutPost a n c at_ many w e w' := by
          rintro e w' ⟨rfl, rfl⟩
          have : roomE n at_ many = 1 := by simp only [roomE, h1, if_false]; rw [if_pos (by omega)]
          refine ⟨rfl, ?_⟩
          rw [if_neg (by omega), this]
        refine Calls.mono ?_ hp
        clear hp
        go_enter Try.func102, Try.ntmps102
        go_wp2
        go_ret2
        exact ⟨rfl, rfl⟩
      · have hE : roomE n at_ many = 0 := by simp only [roomE, h1, if_false]; rw [if_neg (by omega)]
        have HE := hid hE
        clear hE
        obtain ⟨p, rfl⟩ := Int.eq_ofNat_of_zero_le h0
        obtain ⟨m, rfl⟩ := Int.eq_ofNat_of_zero_le hm
        go_enter Try.func102, Try.ntmps102
        go_wp2
        all_goals
          go_ret2
          refine ⟨rfl, ?_⟩
          rw [if_pos HE.out]
          simp [shift, *]
end

section
open Go Go.RowKit

theorem roomE_zero {n : Nat} {at_ many : Int} (h : roomE n at_ many = 0) (hm : 0 ≤ many) : ∃ p : Nat, at_ = (p : Int) ∧ (p : Int) + many ≤ n := by
  unfold roomE at h
  split at h
  · cases h
  · split at h
    · cases h
    · exact ⟨at_.toNat, by omega, by omega⟩

def word4 (l : List UInt8) (p : Nat) : UInt32 := wordOf (l[p]?.getD 0) (l[p + 1]?.getD 0) (l[p + 2]?.getD 0) (l[p + 3]?.getD 0)
def numOf (l : List UInt8) (n : Nat) (at_ : Int) : Value := if roomE n at_ 4 = 0 then .tuple #[.int .u32 ((word4 l at_.toNat).toNat : Nat), .int .i64 0] else .tuple #[.int .u32 0, .int .i64 (roomE n at_ 4)]

theorem cells4 {w : World} {b off : Nat} {l : List UInt8} (h : ∀ (i : Nat) (u : Value), (l.map u8v)[i]? = some u → w.cell? ⟨b, off + i, none⟩ = some u) (i : Nat) (hi : i < l.length) :
    w.cell? ⟨b, off + i, none⟩ = some (.int .u8 ((l[i]?.getD 0).toNat : Nat)) := h i _ (by simp [hi, u8v])

set_option maxHeartbeats 400000 in
theorem number_c (l : List UInt8) (a : Option Addr) (n c : Nat) (at_ : Int) (w : World) (hnl : l.length = n) (hn : n ≤ 140737488355328) (hc : n ≤ c) (hcl : Cells w a (l.map u8v)) :
    Calls Try.prog 136 #[.slice a n c, .int .i64 at_] w fun e w' => e = .returned (numOf l n at_) ∧ Ext w w' := by
  by_cases h : roomE n at_ 4 = 0
  · obtain ⟨p, rfl, hp⟩ := roomE_zero h (by omega)
    have hv : numOf l n (p : Int) = .tuple #[.int .u32 ((word4 l p).toNat : Nat), .int .i64 0] := by rw [numOf, if_pos h]; rfl
    rw [hv]
    obtain ⟨b, off, rfl, hcell⟩ := hcl.some_of (by rw [List.length_map]; omega)
    have c0 := cells4 hcell p (by omega)
    have c1 := cells4 hcell (p + 1) (by omega)
    have c2 := cells4 hcell (p + 2) (by omega)
    have c3 := cells4 hcell (p + 3) (by omega)
    simp only [← Nat.add_assoc] at c1 c2 c3
    have H := hid h
    have HV := hid hv
    clear h hv hcl hcell
    have ne : ¬ c = p := by omega
    have HN := hid hnl
    clear hnl
    have ha := run_arrayAt (P := Try.prog) Try.underlying169 (len := 4) (Nat.le_refl 4)
    go_enter Try.func136, Try.ntmps136
    go_wp2_with fail
    refine (room_c _ n c _ 4 w (by omega) (by omega) (by omega)).mono ?_
    rintro e w' ⟨rfl, rfl⟩
    rw [H.out]
    go_wp2_with fail
    refine (word_c _ _ _ _ _).mono ?_
    rintro e w1 ⟨rfl, hb1⟩
    go_wp2
    go_ret2
    exact ⟨rfl, hb1⟩
  · have hv : numOf l n at_ = .tuple #[.int .u32 0, .int .i64 (roomE n at_ 4)] := by rw [numOf, if_neg h]
    rw [hv]
    have hne : (roomE n at_ 4 != 0) = true := by rw [bne_iff_ne]; exact h
    clear hv hcl h hnl
    go_enter Try.func136, Try.ntmps136
    go_wp2_with fail
    refine (room_c _ n c _ 4 w (by omega) (by omega) (by omega)).mono ?_
    rintro e w' ⟨rfl, rfl⟩
    go_wp2
    go_ret2
    exact ⟨rfl, Ext.refl _⟩

theorem strOf_beq (x y : List UInt8) : ((strOf x).toList == (strOf y).toList) = (x == y) := by
  unfold strOf
  rw [ByteArray.toList_mk, ByteArray.toList_mk]

set_option maxHeartbeats 400000 in
theorem equal_c (x y : List UInt8) (a b : Option Addr) (n m c d : Nat) (w : World) (hn : n = x.length) (hm : m = y.length) (hx : Cells w a (x.map u8v)) (hy : Cells w b (y.map u8v)) :
    Calls Try.prog 19 #[.slice a n c, .slice b m d] w fun e w' => e = .returned (.bool (x == y)) ∧ w = w' := by
  have h1 := run_string_of w a x n c hx hn
  have h2 := run_string_of w b y m d hy hm
  have hs := strOf_beq x y
  clear hn hm hx hy
  go_enter Try.func19, Try.ntmps19
  go_wp2
  go_ret
  exact ⟨rfl, rfl⟩

/-- the number of eight octets, as Go reads it -/
def long8 (l : List UInt8) (p : Nat) : Nat := (word4 l p).toNat * 4294967296 + (word4 l (p + 4)).toNat
def longOf (l : List UInt8) (n : Nat) (at_ : Int) : Value :=
  if roomE n at_ 8 = 0 then (if long8 l at_.toNat ≤ 4611686018427387904 then .tuple #[.int .i64 (long8 l at_.toNat : Nat), .int .i64 0] else .tuple #[.int .i64 0, .int .i64 4]) else .tuple #[.int .i64 0, .int .i64 (roomE n at_ 8)]

theorem or_u64 (x y : UInt32) : bits .or .u64 ((x.toNat : Int) * 4294967296) (y.toNat : Int) = ((x.toNat * 4294967296 + y.toNat : Nat) : Int) := by
  have hx := x.toNat_lt
  have hy := y.toNat_lt
  have ea : (BitVec.ofInt 64 ((x.toNat : Int) * 4294967296)).toNat = x.toNat * 4294967296 := by
    rw [show ((x.toNat : Int) * 4294967296) = ((x.toNat * 4294967296 : Nat) : Int) by omega]
    rw [BitVec.toNat_ofInt]; omega
  have eb : (BitVec.ofInt 64 (y.toNat : Int)).toNat = y.toNat := by rw [BitVec.toNat_ofInt]; omega
  change IntKind.u64.wrap ((BitVec.ofInt 64 ((x.toNat : Int) * 4294967296) ||| BitVec.ofInt 64 (y.toNat : Int)).toNat : Int) = _
  have := or_add x.toNat y.toNat 32 (by omega)
  rw [show (2 : Nat) ^ 32 = 4294967296 from rfl] at this
  rw [BitVec.toNat_or, ea, eb, this, IntKind.wrap_u64]; omega
end

section
open Go Go.RowKit

section
variable {P : Program} {C : World → Prop} {o : Oper} {a : Act} {K : Act → Prop}
theorem run_load_cells {b off n : Nat} {w : World} {vs : List Value} {ty : TypeId} (hb : ∀ j u, vs[j]? = some u → w.cell? ⟨b, off + j, none⟩ = some u) (ht : AggT P ty n) (hn : vs.length = n) :
    (loadVar ty ⟨b, off, none⟩).run P w = .ok (.agg vs.toArray) w := by
  obtain ⟨⟨d, hu, hd⟩, hi⟩ := ht
  have hl : (loadCells ⟨b, off, none⟩ vs.length).run P w = .ok vs.toArray w :=
    run_loadCells_list (P := P) w ⟨b, off, none⟩ _ (fun j v hv => by
      have hadd : (⟨b, off, none⟩ : Addr).add j = ⟨b, off + j, none⟩ := by unfold Addr.add; split <;> simp_all
      rw [hadd]
      exact hb j v hv)
  rw [hn] at hl
  cases hq : P.info? ty with
  | none => simp [hq] at hi
  | some i =>
    have hs : i.size = n := by simpa [hq] using hi
    have hagg : (isAgg ty).run P w = .ok true w := by
      unfold isAgg
      rw [Sem.run_bind, run_underlying hu w]
      cases d <;> simp_all
    simp [loadVar, hagg, sizeOf, typeInfo, hq, hs, hl]
theorem quiet_loadc (ty : TypeId) (x : Operand) (ho : o.op = .load ty x) {b off n : Nat} {vs : List Value}
    (hx : a.eval x = .pointer (some ⟨b, off, none⟩)) (hb : ∀ w, C w → ∀ j u, vs[j]? = some u → w.cell? ⟨b, off + j, none⟩ = some u) (ht : AggT P ty n) (hn : vs.length = n)
    (h : K (a.put o.dst (.agg vs.toArray))) : o.quiet P a C K :=
  ⟨_, fun w hw => by
    unfold Oper.quietAt execOp
    simp only [ho, hx, Instr.loadAt, Instr.sureAddr, Sem.run_bind, Sem.run_pure, Result.andThen_ok, run_load_cells (hb w hw) ht hn]
    exact ⟨rfl, rfl⟩, h⟩
theorem quiet_callw {f : FuncId} {xs : Array Operand} {ts : Array TypeId} {args : Array Value} {v : Value} (ho : o.op = .call { callee := .value (.func f), args := xs, argTypes := ts })
    (hf : ∀ args w, (callFunc f args).run P w = .ok (.enter f args) w) (ha : xs.map a.eval = args)
    (hc : ∀ w, C w → Calls P f args w (fun e w' => e = .returned v ∧ C w')) (h : K (a.put o.dst v)) : o.quiet P a C K :=
  ⟨v, fun w hw => by
    have hr : (execOp a.eval o).run P w = .ok (.enter f args) w := by
      unfold execOp
      simp only [ho, resolve, Act.eval, Deferred.ofValue, Sem.run_bind, Sem.run_pure, Result.andThen_ok, invoke]
      have : (#[] ++ xs.map a.eval ++ #[] : Array Value) = args := by simp [ha]
      simpa [ha] using hf args w
    unfold Oper.quietAt
    rw [hr]
    exact ⟨rfl, hc w hw⟩, h⟩
end


set_option maxRecDepth 100000 in
set_option maxHeartbeats 1000000 in
theorem long_c (l : List UInt8) (a : Option Addr) (n c : Nat) (at_ : Int) (w : World) (hnl : l.length = n) (hn : n ≤ 140737488355328) (hc : n ≤ c) (hcl : Cells w a (l.map u8v)) :
    Calls Try.prog 98 #[.slice a n c, .int .i64 at_] w fun e w' => e = .returned (longOf l n at_) ∧ Ext w w' := by
  by_cases h : roomE n at_ 8 = 0
  · obtain ⟨p, rfl, hp⟩ := roomE_zero h (by omega)
    have hv : longOf l n (p : Int) = if long8 l p ≤ 4611686018427387904 then .tuple #[.int .i64 (long8 l p : Nat), .int .i64 0] else .tuple #[.int .i64 0, .int .i64 4] := by rw [longOf, if_pos h]; rfl
    obtain ⟨b, off, rfl, hcell⟩ := hcl.some_of (by rw [List.length_map]; omega)
    have c0 := cells4 hcell p (by omega)
    have c1 := cells4 hcell (p + 1) (by omega)
    have c2 := cells4 hcell (p + 2) (by omega)
    have c3 := cells4 hcell (p + 3) (by omega)
    have c4 := cells4 hcell (p + 4) (by omega)
    have c5 := cells4 hcell (p + 5) (by omega)
    have c6 := cells4 hcell (p + 6) (by omega)
    have c7 := cells4 hcell (p + 7) (by omega)
    simp only [← Nat.add_assoc] at c1 c2 c3 c4 c5 c6 c7
    have hlt := block_lt_of_cell c0
    have H := hid h
    have HV := hid hv
    have HN := hid hnl
    clear h hv hcl hcell hnl
    have ne : ¬ c = p := by omega
    have ne4 : ¬ c = p + 4 := by omega
    have ha := run_arrayAt (P := Try.prog) Try.underlying169 (len := 4) (Nat.le_refl 4)
    go_enter Try.func98, Try.ntmps98
    go_wp2_with fail
    refine (room_c _ n c _ 8 w (by omega) (by omega) (by omega)).mono ?_
    rintro e w' ⟨rfl, rfl⟩
    rw [H.out]
    go_wp2_with fail
    obtain ⟨C, hC⟩ : ∃ C : World → Prop, C = fun w' => Ext w w' := ⟨_, rfl⟩
    have hC0 : ∀ w', C w' ↔ Ext w w' := fun w' => by rw [hC]
    clear hC
    have HC := hid hC0
    clear hC0
    have hCx : ∀ w w', C w → Ext w w' → C w' := fun w w' h1 h2 => (HC.out w').2 (((HC.out w).1 h1).ext h2)
    have hCa : ∀ w', C w' → ∀ j u, [u8v (l[p]?.getD 0), u8v (l[p + 1]?.getD 0), u8v (l[p + 2]?.getD 0), u8v (l[p + 3]?.getD 0)][j]? = some u → w'.cell? ⟨b, off + p + j, none⟩ = some u := by
      intro w' h j u hu
      rw [((HC.out w').1 h).cell (p := ⟨b, _, none⟩) hlt]
      match j, hu with
      | 0, hu => cases hu; exact c0
      | 1, hu => cases hu; exact c1
      | 2, hu => cases hu; exact c2
      | 3, hu => cases hu; exact c3
    have hCb : ∀ w', C w' → ∀ j u, [u8v (l[p + 4]?.getD 0), u8v (l[p + 5]?.getD 0), u8v (l[p + 6]?.getD 0), u8v (l[p + 7]?.getD 0)][j]? = some u → w'.cell? ⟨b, off + (p + 4) + j, none⟩ = some u := by
      intro w' h j u hu
      rw [((HC.out w').1 h).cell (p := ⟨b, _, none⟩) hlt]
      match j, hu with
      | 0, hu => cases hu; exact c4
      | 1, hu => cases hu; exact c5
      | 2, hu => cases hu; exact c6
      | 3, hu => cases hu; exact c7
    clear c0 c1 c2 c3 c4 c5 c6 c7
    refine wp_region_cls (C := C) 21 (by kernel_rfl) (by kernel_rfl) ((HC.out _).2 (Ext.refl w).drew) ?_
    simp only [List.take_succ_cons, List.take_zero, List.drop_succ_cons, List.drop_zero]
    have k4 : IntKind.i64.wrap ((p : Int) + 4) = (p : Int) + 4 := IntWalk.i64_in _ (by omega)
    have k8 : IntKind.i64.wrap ((p : Int) + 8) = (p : Int) + 8 := IntWalk.i64_in _ (by omega)
    have i0 : (0 : Int) ≤ (p : Int) + 4 := by omega
    have i1 : (p : Int) + 4 ≤ (c : Int) := by omega
    have i2 : (p : Int) ≤ (p : Int) + 4 := by omega
    have i3 : (0 : Int) ≤ (p : Int) + 8 := by omega
    have i4 : (p : Int) + 8 ≤ (c : Int) := by omega
    have t4 : ((p : Int) + 4).toNat = p + 4 := by omega
    have t8 : ((p : Int) + 8).toNat = p + 8 := by omega
    have d8 : p + 8 - (p + 4) = 4 := by omega
    have hx := (word4 l p).toNat_lt
    have hy := (word4 l (p + 4)).toNat_lt
    have wx : IntKind.u64.wrap ((word4 l p).toNat : Int) = ((word4 l p).toNat : Int) := IntWalk.u64_in _ (by omega)
    have wy : IntKind.u64.wrap ((word4 l (p + 4)).toNat : Int) = ((word4 l (p + 4)).toNat : Int) := IntWalk.u64_in _ (by omega)
    have wz : IntKind.u64.wrap ((word4 l p).toNat * 4294967296 : Int) = ((word4 l p).toNat * 4294967296 : Int) := IntWalk.u64_in _ (by omega)
    have ho := or_u64 (word4 l p) (word4 l (p + 4))
    rw [show (word4 l p).toNat * 4294967296 + (word4 l (p + 4)).toNat = long8 l p from rfl] at ho
    have hw4 : ∀ q w', C w' → Calls Try.prog 142 #[.agg #[.int .u8 (l[q]?.getD 0).toNat, .int .u8 (l[q + 1]?.getD 0).toNat, .int .u8 (l[q + 2]?.getD 0).toNat, .int .u8 (l[q + 3]?.getD 0).toNat]] w' fun e w'' => e = .returned (.int .u32 (word4 l q).toNat) ∧ C w'' :=
      fun q w' h => (word_c _ _ _ _ w').mono fun e w'' ⟨h1, h2⟩ => ⟨h1, hCx _ _ h h2⟩
    clear hx hy
    iterate 6
      refine wpQuiet_step (fun K hK => ?_)
      rw [if_pos (by rfl)]
      apply Exists.intro
      refine ⟨fun w hw => ?_, hK _ ?_⟩
      go_simp
      first | exact rfl | exact ⟨rfl, rfl⟩
      clear hK K
      simp only [Act.put, List.setIfInBounds_toArray, List.set_cons_succ, List.set_cons_zero]
    refine wpQuiet_step (fun K hK => ?_)
    rw [if_pos (by rfl)]
    refine quiet_loadc _ _ rfl rfl hCa agg_four rfl (hK _ ?_)
    clear hK K
    simp only [Act.put, List.setIfInBounds_toArray, List.set_cons_succ, List.set_cons_zero]
    refine wpQuiet_step (fun K hK => ?_)
    rw [if_pos (by rfl)]
    refine quiet_callw rfl Try.call142 (by simp [Act.eval, u8v]) (hw4 p) (hK _ ?_)
    clear hK K
    simp only [Act.put, List.setIfInBounds_toArray, List.set_cons_succ, List.set_cons_zero]
    iterate 8
      refine wpQuiet_step (fun K hK => ?_)
      rw [if_pos (by rfl)]
      apply Exists.intro
      refine ⟨fun w hw => ?_, hK _ ?_⟩
      go_simp
      first | exact rfl | exact ⟨rfl, rfl⟩
      clear hK K
      simp only [Act.put, List.setIfInBounds_toArray, List.set_cons_succ, List.set_cons_zero]
    refine wpQuiet_step (fun K hK => ?_)
    rw [if_pos (by rfl)]
    apply Exists.intro
    refine ⟨fun w hw => ?_, hK _ ?_⟩
    go_simp
    first | exact rfl | exact ⟨rfl, rfl⟩
    clear hK K
    simp only [Act.put, List.setIfInBounds_toArray, List.set_cons_succ, List.set_cons_zero]
    refine wpQuiet_step (fun K hK => ?_)
    rw [if_pos (by rfl)]
    refine quiet_loadc _ _ rfl rfl hCb agg_four rfl (hK _ ?_)
    clear hK K
    simp only [Act.put, List.setIfInBounds_toArray, List.set_cons_succ, List.set_cons_zero]
    refine wpQuiet_step (fun K hK => ?_)
    rw [if_pos (by rfl)]
    refine quiet_callw rfl Try.call142 (by simp [Act.eval, u8v]) (hw4 (p + 4)) (hK _ ?_)
    clear hK K
    simp only [Act.put, List.setIfInBounds_toArray, List.set_cons_succ, List.set_cons_zero]
    refine wpQuiet_step (fun K hK => ?_)
    rw [if_pos (by rfl)]
    apply Exists.intro
    refine ⟨fun w hw => ?_, hK _ ?_⟩
    go_simp
    first | exact rfl | exact ⟨rfl, rfl⟩
    clear hK K
    simp only [Act.put, List.setIfInBounds_toArray, List.set_cons_succ, List.set_cons_zero]
    refine wpQuiet_step (fun K hK => ?_)
    rw [if_pos (by rfl)]
    apply Exists.intro
    refine ⟨fun w hw => ?_, hK _ ?_⟩
    go_simp
    first | exact rfl | exact ⟨rfl, rfl⟩
    clear hK K
    simp only [Act.put, List.setIfInBounds_toArray, List.set_cons_succ, List.set_cons_zero]
    refine wpQuiet_nil ?_
    intro w2 hw2
    have e2 := (HC.out w2).1 hw2
    clear hw2 HC hCx hCa hCb hw4 wx wy wz ho k4 k8 i0 i1 i2 i3 i4 t4 t8 d8 ha ne ne4 hp hc
    by_cases hbig : long8 l p ≤ 4611686018427387904
    · rw [if_pos hbig] at HV
      have hdec : decide ((4611686018427387904 : Int) < (long8 l p : Int)) = false := decide_eq_false (by omega)
      have hk : IntKind.i64.wrap (long8 l p : Int) = (long8 l p : Int) := IntWalk.i64_in _ (by omega)
      go_wp2
      go_ret2
      exact ⟨by rw [HV.out]; rfl, e2⟩
    · rw [if_neg hbig] at HV
      have hdec : decide ((4611686018427387904 : Int) < (long8 l p : Int)) = true := decide_eq_true (by omega)
      go_wp2
      go_ret2
      exact ⟨by rw [HV.out]; rfl, e2⟩
  · have hv : longOf l n at_ = .tuple #[.int .i64 0, .int .i64 (roomE n at_ 8)] := by rw [longOf, if_neg h]
    rw [hv]
    have hne : (roomE n at_ 8 != 0) = true := by rw [bne_iff_ne]; exact h
    clear hv hcl h hnl
    go_enter Try.func98, Try.ntmps98
    go_wp2_with fail
    refine (room_c _ n c _ 8 w (by omega) (by omega) (by omega)).mono ?_
    rintro e w' ⟨rfl, rfl⟩
    go_wp2
    go_ret2
    exact ⟨rfl, Ext.refl _⟩
end

section
open Go Go.RowKit

set_option maxRecDepth 100000 in
set_option maxHeartbeats 1000000 in
theorem grow0_c (n : Nat) (w : World) (hn : n ≤ 140737488355328) :
    Calls Try.prog 104 #[.slice none 0 0, .int .i64 n] w fun e w' => ∃ v, e = .returned v ∧ w'.ownsRow w.heap.size 5 1 v 0 [] ∧ Ext w w' := by
  by_cases h0 : n = 0
  · subst h0
    go_enter Try.func104, Try.ntmps104
    go_wp2
    go_ret
    exact ⟨_, rfl, World.ownsRow_nil _ _ _ _, Ext.refl _⟩
  · have h1 : ¬ ((n : Int) < 0) := by omega
    have h3 : IntKind.i64.wrap (n : Int) = (n : Int) := IntWalk.i64_in _ (by omega)
    have h4 : decide ((0 : Int) < (n : Int)) = true := decide_eq_true (by omega)
    obtain ⟨i0, hi, hz, hs, hb⟩ := info_parts info_u8
    obtain ⟨G, hG⟩ : ∃ G, G = grownCap w n 0 5 := ⟨_, rfl⟩
    have hGn : n ≤ G := by rw [hG]; exact grownCap_ge w _ _ _
    have hG63 : G ≤ maxLen := by rw [hG]; exact grownCap_le_maxLen w n 0 5 (by unfold maxLen; omega)
    have hrz : ∀ ty, (Builtin.append_ #[28, 3] ty #[.slice none 0 0, .int .i64 (n : Int)]).run Try.prog w =
        .ok (.slice (some ⟨w.heap.size, 0, none⟩) n G) (w.drew.alloc (.cells (#[] ++ Builtin.zeroCells (Value.int .u8 0).cells n ++ Builtin.zeroCells (Value.int .u8 0).cells (G - n)) 5)) := fun ty => by
      have h := Lib.run_append_grow_zeros w 28 3 ty 5 i0 (.int .u8 0) .i64 .i64 Try.underlying28 Try.underlying3 hi hz none 0 0 [] (by rw [hs]; exact run_firstCells_none w.drew 1 0 0 0) n (by omega) (by omega) (by omega) (by omega) (by rw [hb]; omega)
        (by exact growslice_fits (by omega) (by rw [hb]; omega))
      rw [Nat.zero_add, ← hG] at h
      exact h
    have hsz : (#[] ++ Builtin.zeroCells (Value.int .u8 0).cells n ++ Builtin.zeroCells (Value.int .u8 0).cells (G - n)).size = G * 1 := by
      have h1 : (Value.int .u8 0).cells.size = 1 := rfl
      simp [Builtin.zeroCells, h1]
      omega
    have hown : ∀ cs : Array Value, cs.size = G * 1 → (w.drew.alloc (.cells cs 5)).ownsRow w.heap.size 5 1 (.slice (some ⟨w.heap.size, 0, none⟩) 0 G) 0 [] := fun cs hc => World.ownsRow_made w.drew cs G (Nat.le_refl _) hG63 hc
    generalize hcs : (#[] ++ Builtin.zeroCells (Value.int .u8 0).cells n ++ Builtin.zeroCells (Value.int .u8 0).cells (G - n)) = cs at *
    clear hG hcs
    unfold maxLen at hG63
    go_enter Try.func104, Try.ntmps104
    go_wp2_with (at_builtin; refine Lib.wpList_append_run _ rfl _ _ _ _ rfl _ _ rfl rfl _ _ (hrz _) ?_)
    all_goals (go_ret; exact ⟨_, rfl, hown cs hsz, (Ext.refl w).drew.alloc _⟩)

/-- a list of slices of octets: address, capacity, octets -/
abbrev Item := Option Addr × Nat × List UInt8
def cat (its : List Item) : List UInt8 := (its.map (·.2.2)).flatten
def itemV (it : Item) : Value := .slice it.1 it.2.2.length it.2.1

theorem cat_succ {its : List Item} {k : Nat} {it : Item} (h : its[k]? = some it) : cat (its.take (k + 1)) = cat (its.take k) ++ it.2.2 := by
  unfold cat
  rw [List.take_add_one, h]; simp
theorem cat_le (its : List Item) (k : Nat) : (cat (its.take k)).length ≤ (cat its).length := by
  have h2 : cat its = cat (its.take k) ++ cat (its.drop k) := by
    unfold cat
    rw [← List.flatten_append, ← List.map_append, List.take_append_drop]
  rw [h2, List.length_append]
  omega

set_option maxRecDepth 100000 in
set_option maxHeartbeats 1000000 in
theorem concat_c (its : List Item) (g nn cap : Nat) (w : World) (hnn : its.length = nn) (hnn2 : nn ≤ 140737488355328) (hcap : nn ≤ cap) (hg : ∀ (i : Nat) it, its[i]? = some it → w.cell? ⟨g, i, none⟩ = some (itemV it))
    (hc : ∀ it ∈ its, Cells w it.1 (it.2.2.map u8v)) (hn0 : ∀ it ∈ its, it.1 = none → it.2.1 = 0) (hlen : (cat its).length ≤ 140737488355328) :
    Calls Try.prog 50 #[.slice (some ⟨g, 0, none⟩) nn cap] w fun e w' => ∃ v, e = .returned v ∧ w'.ownsRow w.heap.size 5 1 v (cat its).length ((cat its).map u8v) ∧ Ext w w' := by
  have HNN := hid hnn
  have HG := hid hg
  have HC := hid hc
  have HN0 := hid hn0
  have HL := hid hlen
  obtain ⟨i0, hi, hz, hs, hb1⟩ := info_parts info_u8
  clear hg hc hn0 hlen hnn
  go_enter Try.func50, Try.ntmps50
  go_wp2
  go_loopw [3, 11] (fun s i wr => ∃ k : Nat, k ≤ nn ∧ s = .int .i64 ((cat (its.take k)).length : Nat) ∧ i = .int .i64 k ∧ wr = w)
    (fun _ i _ => nn - (intOf i).toNat)
  case atStart => exact ⟨0, by omega, by simp [cat], rfl, rfl⟩
  case round =>
    obtain ⟨k, hk, rfl, rfl, hwr⟩ := hrel
    subst wr
    by_cases hlt : k < nn
    · obtain ⟨it, hit⟩ : ∃ it, its[k]? = some it := ⟨its[k]'(by rw [HNN.out]; exact hlt), by simp⟩
      have c1 := HG.out k it hit
      unfold itemV at c1
      have hcs := cat_succ hit
      have hcl := cat_le its (k + 1)
      rw [hcs] at hcl
      have hcl2 := HL.out
      rw [List.length_append] at hcl
      obtain ⟨m, hm⟩ : ∃ m, (cat (its.take k)).length = m := ⟨_, rfl⟩
      obtain ⟨q, hq⟩ : ∃ q, it.2.2.length = q := ⟨_, rfl⟩
      have hsum : (cat (its.take (k + 1))).length = m + q := by rw [hcs, List.length_append, hm, hq]
      rw [hm, hq] at hcl
      rw [hq] at c1
      rw [hm]
      have h3 : IntKind.i64.wrap ((m : Int) + (q : Int)) = (m : Int) + (q : Int) := IntWalk.i64_in _ (by omega)
      have h4 : decide ((m : Int) + (q : Int) < 0) = false := decide_eq_false (by omega)
      have HS := hid hsum
      clear hsum hcs hcl hcl2 hm hq hit
      go_wp2
      go_roundw
      case rel => exact ⟨k + 1, by omega, by rw [HS.out]; go_num, by go_num, by simp⟩
      case measure => simp [intOf]; omega
    · have hkn : k = nn := by omega
      subst k
      have htk : its.take nn = its := List.take_of_length_le (by rw [HNN.out]; omega)
      rw [htk]
      have hl := HL.out
      obtain ⟨N, hN⟩ : ∃ N, (cat its).length = N := ⟨_, rfl⟩
      have HNL := hid hN
      rw [hN] at hl ⊢
      clear htk hN
      go_wp2_with fail
      refine (grow0_c N _ hl).mono ?_
      rintro e w1 ⟨v, rfl, own, e1⟩
      go_wp2
      go_loopw [6, 27] (fun v i wr => ∃ k : Nat, k ≤ nn ∧ i = .int .i64 k ∧ wr.ownsRow w.heap.size 5 1 v (cat (its.take k)).length ((cat (its.take k)).map u8v) ∧ Ext w wr)
        (fun _ i _ => nn - (intOf i).toNat)
      case atStart => exact ⟨0, by omega, rfl, by simpa [cat] using own, e1⟩
      case round =>
        obtain ⟨k, hk, rfl, own2, e2⟩ := hrel
        by_cases hlt : k < nn
        · obtain ⟨it, hit⟩ : ∃ it, its[k]? = some it := ⟨its[k]'(by rw [HNN.out]; exact hlt), by simp⟩
          have c1 := HG.out k it hit
          have hb := block_lt_of_cell c1
          rw [← e2.cell (p := ⟨g, k, none⟩) hb] at c1
          have hcs := cat_succ hit
          have hcl := cat_le its (k + 1)
          rw [hcs, HNL.out, List.length_append] at hcl
          have hci := (HC.out it (List.mem_of_getElem? hit)).ext e2
          have hn0 := HN0.out it (List.mem_of_getElem? hit)
          unfold itemV at c1
          obtain ⟨x, c, li⟩ := it
          obtain ⟨q, hq⟩ : ∃ q, li.length = q := ⟨_, rfl⟩
          obtain ⟨m, hm⟩ : ∃ m, (cat (its.take k)).length = m := ⟨_, rfl⟩
          simp only at c1 hcs hcl hci hn0
          rw [hq] at c1
          rw [hm, hq] at hcl
          rw [hm] at own2
          have HCS := hid hcs
          have HQ := hid hq
          have HM := hid hm
          clear hcs hq hm hit hb
          cases x with
          | none =>
            have hli : li = [] := by
              rcases hci with h | ⟨_, _, h, _⟩
              · simpa using h
              · cases h
            have hc0 : c = 0 := hn0 rfl
            have hq0 : q = 0 := by rw [← HQ.out, hli]; rfl
            subst hc0
            subst hq0
            have hcs2 := HCS.out
            rw [hli, List.append_nil] at hcs2
            have HCS2 := hid hcs2
            clear hcs2 hli HCS
            go_wp2_with (at_builtin; refine wpList_append_own_none rfl _ _ 28 rfl w.heap.size 5 i0 1 Try.underlying28 hi _ _ _ rfl own2 rfl ?_)
            go_wp2
            go_roundw
            case rel => exact ⟨k + 1, by omega, by go_num, by rw [HCS2.out, HM.out]; exact own2, e2⟩
            case measure => simp [intOf]; omega
          | some ad =>
            go_wp2_with (at_builtin; refine wpList_append_own _ rfl _ _ 28 rfl w.heap.size 5 i0 (.int .u8 0) 1 1 Try.underlying28 hi hz hs hb1 rfl (by decide) _ _ _ rfl own2 ad q c (li.map u8v) rfl ?qc1 (news_cells hci) (one_u8 _) ?qc4 ?qc5 e2.size ?_)
            case qc1 => rw [List.length_map, HQ.out, Nat.mul_one]
            case qc4 => unfold maxLen; omega
            case qc5 => omega
            intro v2 w2 own3 gr _
            have e3 : Ext w w2 := e2.grown gr (fun g' h => (own2.lt g' h).1)
            rw [← List.map_append] at own3
            clear own2 gr e2 c1 hci
            go_wp2
            go_roundw
            case rel => exact ⟨k + 1, by omega, by go_num, by rw [HCS.out, List.length_append, HM.out, HQ.out]; exact own3, e3⟩
            case measure => simp [intOf]; omega
        · have hkn : k = nn := by omega
          subst k
          rw [List.take_of_length_le (by rw [HNN.out]; omega)] at own2
          go_wp2
          go_ret
          exact ⟨_, rfl, own2, e2⟩
end

section
open Go Go.RowKit

theorem own_slice {w : World} {B : Nat} {v : Value} {n : Nat} {xs : List Value} (h : w.ownsRow B 5 1 v n xs) :
    ∃ a c, v = .slice a n c ∧ n ≤ c ∧ c ≤ maxLen ∧ (a = none → c = 0) ∧ Cells w a xs := by
  obtain ⟨hl, h⟩ := h
  rcases h with ⟨rfl, rfl⟩ | ⟨g, cap, cur, rfl, hb, hg, h1, h2, h3, h4⟩
  · refine ⟨none, 0, rfl, Nat.le_refl _, by unfold maxLen; omega, fun _ => rfl, .inl ?_⟩
    exact List.length_eq_zero_iff.1 (by omega)
  · refine ⟨_, cap, rfl, h1, h2, (fun h => by cases h), .inr ⟨g, 0, rfl, fun i u hu => ?_⟩⟩
    rw [← h4] at hu
    have hi : i < n * 1 := by
      have := (List.getElem?_eq_some_iff.1 hu).1
      simp at this; omega
    rw [List.getElem?_take_of_lt hi] at hu
    rw [Nat.zero_add]
    exact Blk.cell' (vs := cur.toList) (T := 5) (by simpa [Blk] using hg) hu

theorem own_lower {w : World} {B B' : Nat} {e : TypeId} {size : Nat} {v : Value} {n : Nat} {xs : List Value} (h : w.ownsRow B e size v n xs) (hb : B' ≤ B) : w.ownsRow B' e size v n xs := by
  refine ⟨h.1, ?_⟩
  rcases h.2 with h | ⟨g, cap, cur, h1, h2, h3⟩
  · exact .inl h
  · exact .inr ⟨g, cap, cur, h1, Nat.le_trans hb h2, h3⟩

set_option maxRecDepth 100000 in
set_option maxHeartbeats 1000000 in
theorem putNumber_c (l : List UInt8) (a : Option Addr) (n c : Nat) (x : UInt32) (w : World) (hnl : l.length = n) (hn : n ≤ 140737488355320) (hcl : Cells w a (l.map u8v)) (h0 : a = none → c = 0) :
    Calls Try.prog 78 #[.slice a n c, .int .u32 x.toNat] w fun e w' => ∃ v, e = .returned v ∧ w'.ownsRow w.heap.size 5 1 v (n + 4) ((l ++ octL x).map u8v) ∧ Ext w w' := by
  have HN := hid hnl
  have HC := hid hcl
  have H0 := hid h0
  clear hnl hcl h0
  go_enter Try.func78, Try.ntmps78
  go_wp2_with fail
  refine (octets_c x _).mono ?_
  rintro e w1 ⟨rfl, e1⟩
  go_wp2_with (first | (refine wpl_storew rfl _ _ _ rfl rfl rfl (Blk.mk_alloc rfl rfl) agg_four rfl rfl (one_u8 _) ?_))
  intro w2 b2 u2
  have e2 : Ext w w2 := u2.ext (e1.alloc _) e1.size
  go_wp2_with fail
  have hB : Blk (w2.alloc (.cells #[.slice a n c, .slice (some ⟨w1.heap.size, 0, none⟩) 4 4] 28)) w2.heap.size [.slice a n c, .slice (some ⟨w1.heap.size, 0, none⟩) 4 4] 28 := Blk.mk_alloc rfl rfl
  have b3 := b2.alloc (.cells #[.slice a n c, .slice (some ⟨w1.heap.size, 0, none⟩) 4 4] 28)
  have e3 : Ext w (w2.alloc (.cells #[.slice a n c, .slice (some ⟨w1.heap.size, 0, none⟩) 4 4] 28)) := e2.alloc _
  generalize w2.alloc (.cells #[.slice a n c, .slice (some ⟨w1.heap.size, 0, none⟩) 4 4] 28) = w3 at *
  have hcat : cat [(a, c, l), (some ⟨w1.heap.size, 0, none⟩, 4, octL x)] = l ++ octL x := by simp [cat]
  have hlen : (l ++ octL x).length = n + 4 := by rw [List.length_append, HN.out]; rfl
  refine (concat_c [(a, c, l), (some ⟨w1.heap.size, 0, none⟩, 4, octL x)] w2.heap.size 2 2 w3 rfl (by omega) (by omega) ?hg ?hc ?hn ?hl).mono ?_
  case hg =>
    intro i it hit
    match i, hit with
    | 0, hit => cases hit; rw [itemV]; simp only; rw [HN.out]; exact hB.cell' rfl
    | 1, hit => cases hit; exact hB.cell' rfl
  case hc =>
    intro it hit
    simp only [List.mem_cons, List.not_mem_nil, or_false] at hit
    rcases hit with rfl | rfl
    · exact HC.out.ext e3
    · exact Cells.of_blk0 b3
  case hn =>
    intro it hit
    simp only [List.mem_cons, List.not_mem_nil, or_false] at hit
    rcases hit with rfl | rfl
    · exact H0.out
    · intro h; cases h
  case hl => rw [hcat, hlen]; omega
  rintro e w4 ⟨v, rfl, own, e4⟩
  rw [hcat, hlen] at own
  have own' : w4.ownsRow w.heap.size 5 1 v (n + 4) ((l ++ octL x).map u8v) := own_lower own e3.size
  have e5 := e3.ext e4
  clear hcat hlen hB b3 e3 own e4 b2 u2 e2
  go_wp2
  go_ret
  exact ⟨_, rfl, own', e5⟩

/-- the number that PutLong puts -/
def longNat (k : Int) : Nat := if k < 0 ∨ 4611686018427387904 < k then 0 else k.toNat
theorem longNat_lt (k : Int) : longNat k ≤ 4611686018427387904 := by unfold longNat; split <;> omega

theorem longL_length (u : UInt64) : (longL u).length = 8 := rfl

set_option maxRecDepth 100000 in
set_option maxHeartbeats 1000000 in
theorem putLong_c (l : List UInt8) (a : Option Addr) (n c : Nat) (k : Int) (w : World) (hnl : l.length = n) (hn : n ≤ 140737488355320) (hcl : Cells w a (l.map u8v)) (h0 : a = none → c = 0) :
    Calls Try.prog 79 #[.slice a n c, .int .i64 k] w fun e w' => ∃ v, e = .returned v ∧ w'.ownsRow w.heap.size 5 1 v (n + 8) ((l ++ longL (UInt64.ofNat (longNat k))).map u8v) ∧ Ext w w' := by
  have HN := hid hnl
  have HC := hid hcl
  have H0 := hid h0
  clear hnl hcl h0
  obtain ⟨u, hu⟩ : ∃ u, UInt64.ofNat (longNat k) = u := ⟨_, rfl⟩
  have hun : (u.toNat : Int) = longNat k := by
    have := longNat_lt k
    rw [← hu, UInt64.toNat_ofNat']; omega
  rw [hu]
  clear hu
  by_cases hk : k < 0 ∨ 4611686018427387904 < k
  · have h0 : (u.toNat : Int) = 0 := by rw [hun, longNat, if_pos hk]; rfl
    clear hun
    have hlong := fun w => longOctets_c u w
    rw [h0] at hlong
    by_cases hk1 : k < 0
    · go_enter Try.func79, Try.ntmps79
      go_wp2_with fail
      refine (hlong _).mono ?_
      rintro e w1 ⟨rfl, e1⟩
      go_wp2_with (first | (refine wpl_storew rfl _ _ _ rfl rfl rfl (Blk.mk_alloc rfl rfl) agg_eight rfl rfl (one_u8 _) ?_))
      intro w2 b2 u2
      have e2 : Ext w w2 := u2.ext (e1.alloc _) e1.size
      go_wp2_with fail
      have hB : Blk (w2.alloc (.cells #[.slice a n c, .slice (some ⟨w1.heap.size, 0, none⟩) 8 8] 28)) w2.heap.size [.slice a n c, .slice (some ⟨w1.heap.size, 0, none⟩) 8 8] 28 := Blk.mk_alloc rfl rfl
      have b3 := b2.alloc (.cells #[.slice a n c, .slice (some ⟨w1.heap.size, 0, none⟩) 8 8] 28)
      have e3 : Ext w (w2.alloc (.cells #[.slice a n c, .slice (some ⟨w1.heap.size, 0, none⟩) 8 8] 28)) := e2.alloc _
      generalize w2.alloc (.cells #[.slice a n c, .slice (some ⟨w1.heap.size, 0, none⟩) 8 8] 28) = w3 at *
      have hcat : cat [(a, c, l), (some ⟨w1.heap.size, 0, none⟩, 8, longL u)] = l ++ longL u := by simp [cat]
      have hlen : (l ++ longL u).length = n + 8 := by rw [List.length_append, HN.out]; rfl
      refine (concat_c [(a, c, l), (some ⟨w1.heap.size, 0, none⟩, 8, longL u)] w2.heap.size 2 2 w3 rfl (by omega) (by omega) ?hg ?hc ?hn ?hl).mono ?_
      case hg =>
        intro i it hit
        match i, hit with
        | 0, hit => cases hit; rw [itemV]; simp only; rw [HN.out]; exact hB.cell' rfl
        | 1, hit => cases hit; exact hB.cell' rfl
      case hc =>
        intro it hit
        simp only [List.mem_cons, List.not_mem_nil, or_false] at hit
        rcases hit with rfl | rfl
        · exact HC.out.ext e3
        · exact Cells.of_blk0 b3
      case hn =>
        intro it hit
        simp only [List.mem_cons, List.not_mem_nil, or_false] at hit
        rcases hit with rfl | rfl
        · exact H0.out
        · intro h; cases h
      case hl => rw [hcat, hlen]; omega
      rintro e w4 ⟨v, rfl, own, e4⟩
      rw [hcat, hlen] at own
      have own' : w4.ownsRow w.heap.size 5 1 v (n + 8) ((l ++ longL u).map u8v) := own_lower own e3.size
      have e5 := e3.ext e4
      clear hcat hlen hB b3 e3 own e4 b2 u2 e2
      go_wp2
      go_ret
      exact ⟨_, rfl, own', e5⟩
    · have hk2 : 4611686018427387904 < k := by omega
      go_enter Try.func79, Try.ntmps79
      go_wp2_with fail
      refine (hlong _).mono ?_
      rintro e w1 ⟨rfl, e1⟩
      go_wp2_with (first | (refine wpl_storew rfl _ _ _ rfl rfl rfl (Blk.mk_alloc rfl rfl) agg_eight rfl rfl (one_u8 _) ?_))
      intro w2 b2 u2
      have e2 : Ext w w2 := u2.ext (e1.alloc _) e1.size
      go_wp2_with fail
      have hB : Blk (w2.alloc (.cells #[.slice a n c, .slice (some ⟨w1.heap.size, 0, none⟩) 8 8] 28)) w2.heap.size [.slice a n c, .slice (some ⟨w1.heap.size, 0, none⟩) 8 8] 28 := Blk.mk_alloc rfl rfl
      have b3 := b2.alloc (.cells #[.slice a n c, .slice (some ⟨w1.heap.size, 0, none⟩) 8 8] 28)
      have e3 : Ext w (w2.alloc (.cells #[.slice a n c, .slice (some ⟨w1.heap.size, 0, none⟩) 8 8] 28)) := e2.alloc _
      generalize w2.alloc (.cells #[.slice a n c, .slice (some ⟨w1.heap.size, 0, none⟩) 8 8] 28) = w3 at *
      have hcat : cat [(a, c, l), (some ⟨w1.heap.size, 0, none⟩, 8, longL u)] = l ++ longL u := by simp [cat]
      have hlen : (l ++ longL u).length = n + 8 := by rw [List.length_append, HN.out]; rfl
      refine (concat_c [(a, c, l), (some ⟨w1.heap.size, 0, none⟩, 8, longL u)] w2.heap.size 2 2 w3 rfl (by omega) (by omega) ?hg ?hc ?hn ?hl).mono ?_
      case hg =>
        intro i it hit
        match i, hit with
        | 0, hit => cases hit; rw [itemV]; simp only; rw [HN.out]; exact hB.cell' rfl
        | 1, hit => cases hit; exact hB.cell' rfl
      case hc =>
        intro it hit
        simp only [List.mem_cons, List.not_mem_nil, or_false] at hit
        rcases hit with rfl | rfl
        · exact HC.out.ext e3
        · exact Cells.of_blk0 b3
      case hn =>
        intro it hit
        simp only [List.mem_cons, List.not_mem_nil, or_false] at hit
        rcases hit with rfl | rfl
        · exact H0.out
        · intro h; cases h
      case hl => rw [hcat, hlen]; omega
      rintro e w4 ⟨v, rfl, own, e4⟩
      rw [hcat, hlen] at own
      have own' : w4.ownsRow w.heap.size 5 1 v (n + 8) ((l ++ longL u).map u8v) := own_lower own e3.size
      have e5 := e3.ext e4
      clear hcat hlen hB b3 e3 own e4 b2 u2 e2
      go_wp2
      go_ret
      exact ⟨_, rfl, own', e5⟩
  · have hk1 : ¬ k < 0 := by omega
    have hk2 : ¬ 4611686018427387904 < k := by omega
    have h0 : (u.toNat : Int) = k := by rw [hun, longNat, if_neg hk]; omega
    have hw : IntKind.u64.wrap k = k := IntWalk.u64_in _ (by omega)
    clear hun hk
    have hlong := fun w => longOctets_c u w
    rw [h0] at hlong
    go_enter Try.func79, Try.ntmps79
    go_wp2_with fail
    refine (hlong _).mono ?_
    rintro e w1 ⟨rfl, e1⟩
    go_wp2_with (first | (refine wpl_storew rfl _ _ _ rfl rfl rfl (Blk.mk_alloc rfl rfl) agg_eight rfl rfl (one_u8 _) ?_))
    intro w2 b2 u2
    have e2 : Ext w w2 := u2.ext (e1.alloc _) e1.size
    go_wp2_with fail
    have hB : Blk (w2.alloc (.cells #[.slice a n c, .slice (some ⟨w1.heap.size, 0, none⟩) 8 8] 28)) w2.heap.size [.slice a n c, .slice (some ⟨w1.heap.size, 0, none⟩) 8 8] 28 := Blk.mk_alloc rfl rfl
    have b3 := b2.alloc (.cells #[.slice a n c, .slice (some ⟨w1.heap.size, 0, none⟩) 8 8] 28)
    have e3 : Ext w (w2.alloc (.cells #[.slice a n c, .slice (some ⟨w1.heap.size, 0, none⟩) 8 8] 28)) := e2.alloc _
    generalize w2.alloc (.cells #[.slice a n c, .slice (some ⟨w1.heap.size, 0, none⟩) 8 8] 28) = w3 at *
    have hcat : cat [(a, c, l), (some ⟨w1.heap.size, 0, none⟩, 8, longL u)] = l ++ longL u := by simp [cat]
    have hlen : (l ++ longL u).length = n + 8 := by rw [List.length_append, HN.out]; rfl
    refine (concat_c [(a, c, l), (some ⟨w1.heap.size, 0, none⟩, 8, longL u)] w2.heap.size 2 2 w3 rfl (by omega) (by omega) ?hg ?hc ?hn ?hl).mono ?_
    case hg =>
      intro i it hit
      match i, hit with
      | 0, hit => cases hit; rw [itemV]; simp only; rw [HN.out]; exact hB.cell' rfl
      | 1, hit => cases hit; exact hB.cell' rfl
    case hc =>
      intro it hit
      simp only [List.mem_cons, List.not_mem_nil, or_false] at hit
      rcases hit with rfl | rfl
      · exact HC.out.ext e3
      · exact Cells.of_blk0 b3
    case hn =>
      intro it hit
      simp only [List.mem_cons, List.not_mem_nil, or_false] at hit
      rcases hit with rfl | rfl
      · exact H0.out
      · intro h; cases h
    case hl => rw [hcat, hlen]; omega
    rintro e w4 ⟨v, rfl, own, e4⟩
    rw [hcat, hlen] at own
    have own' : w4.ownsRow w.heap.size 5 1 v (n + 8) ((l ++ longL u).map u8v) := own_lower own e3.size
    have e5 := e3.ext e4
    clear hcat hlen hB b3 e3 own e4 b2 u2 e2
    go_wp2
    go_ret
    exact ⟨_, rfl, own', e5⟩

set_option maxRecDepth 100000 in
set_option maxHeartbeats 1000000 in
theorem clone_c (l : List UInt8) (a : Option Addr) (n c : Nat) (w : World) (hnl : l.length = n) (hn : n ≤ 140737488355320) (hcl : Cells w a (l.map u8v)) :
    Calls Try.prog 99 #[.slice a n c] w fun e w' => ∃ v, e = .returned v ∧ w'.ownsRow w.heap.size 5 1 v n (l.map u8v) ∧ (v = .slice none 0 0 ↔ a = none) ∧ Ext w w' := by
  have HN := hid hnl
  have HC := hid hcl
  clear hnl hcl
  obtain ⟨i0, hi, hz, hs, hb1⟩ := info_parts info_u8
  have q26 : ∀ (w : World) (a : Option Addr) (n c n' c' : Nat), (binOp .eql 28 (.slice a n c) (.slice none n' c')).run Try.prog w = .ok (.bool a.isNone) w := fun w a n c n' c' => Lib.run_eql_slice_nil w _ _ a n c n' c' Try.underlying28
  cases a with
  | none =>
    have hl : l = [] := by
      rcases HC.out with h | ⟨_, _, h, _⟩
      · simpa using h
      · cases h
    have hn0 : n = 0 := by rw [← HN.out, hl]; rfl
    subst hn0
    have HL := hid hl
    clear hl HN HC
    go_enter Try.func99, Try.ntmps99
    go_wp2
    go_ret
    exact ⟨_, rfl, by rw [HL.out]; exact World.ownsRow_nil _ _ _ _, by simp, Ext.refl _⟩
  | some ad =>
    go_enter Try.func99, Try.ntmps99
    go_wp2_with (at_builtin; refine wpList_append_own _ rfl _ _ 28 rfl w.heap.size 5 i0 (.int .u8 0) 1 1 Try.underlying28 hi hz hs hb1 rfl (by decide) _ _ _ rfl (World.ownsRow_made w #[] 0 (Nat.le_refl _) (Nat.zero_le _) (by simp)) ad n c (l.map u8v) rfl ?qc1 (news_cells (HC.out.ext ((Ext.refl w).alloc _))) (one_u8 _) ?qc4 ?qc5 ?qc6 ?_)
    case qc1 => rw [List.length_map, HN.out, Nat.mul_one]
    case qc4 => unfold maxLen; omega
    case qc5 => omega
    case qc6 => simp
    intro v' w1 hown hgrow hnil
    have e1 : Ext w w1 := ((Ext.refl w).alloc _).grown hgrow (by intro k hk; simp [Value.ownBlock] at hk; omega)
    clear hgrow
    go_wp2
    go_ret
    exact ⟨v', rfl, hown, by simp [hnil], e1⟩
end

section
open Go Go.RowKit

theorem word_octL (x : UInt32) : wordOf (UInt8.ofNat (x.toNat / 16777216)) (UInt8.ofNat (x.toNat / 65536)) (UInt8.ofNat (x.toNat / 256)) (UInt8.ofNat x.toNat) = x := by
  have hx := x.toNat_lt
  unfold wordOf
  apply UInt32.toNat_inj.1
  rw [UInt32.toNat_ofNat', UInt8.toNat_ofNat', UInt8.toNat_ofNat', UInt8.toNat_ofNat', UInt8.toNat_ofNat']
  omega

theorem octL_word (a b c d : UInt8) : octL (wordOf a b c d) = [a, b, c, d] := by
  have ha := a.toNat_lt
  have hb := b.toNat_lt
  have hc := c.toNat_lt
  have hd := d.toNat_lt
  have hw : (wordOf a b c d).toNat = a.toNat * 16777216 + b.toNat * 65536 + c.toNat * 256 + d.toNat := by
    unfold wordOf
    rw [UInt32.toNat_ofNat']; omega
  unfold octL
  rw [hw]
  congr 1
  · apply UInt8.toNat_inj.1; rw [UInt8.toNat_ofNat']; omega
  congr 1
  · apply UInt8.toNat_inj.1; rw [UInt8.toNat_ofNat']; omega
  congr 1
  · apply UInt8.toNat_inj.1; rw [UInt8.toNat_ofNat']; omega
  congr 1
  · apply UInt8.toNat_inj.1; rw [UInt8.toNat_ofNat']; omega

theorem word4_app (l m : List UInt8) (a b c d : UInt8) (r : List UInt8) (q : Nat) (h : l.length = q) (hm : m = a :: b :: c :: d :: r) : word4 (l ++ m) q = wordOf a b c d := by
  subst hm; subst h
  unfold word4
  rw [List.getElem?_append_right (by omega), List.getElem?_append_right (by omega), List.getElem?_append_right (by omega), List.getElem?_append_right (by omega)]
  rw [show l.length - l.length = 0 by omega, show l.length + 1 - l.length = 1 by omega, show l.length + 2 - l.length = 2 by omega, show l.length + 3 - l.length = 3 by omega]
  rfl
theorem word4_octL (l : List UInt8) (x : UInt32) (q : Nat) (h : l.length = q) : word4 (l ++ octL x) q = x := by
  rw [word4_app l (octL x) _ _ _ _ [] q h rfl, word_octL]

theorem long8_longL (l : List UInt8) (u : UInt64) (q : Nat) (h : l.length = q) : long8 (l ++ longL u) q = u.toNat := by
  have hu := u.toNat_lt
  unfold long8 longL
  rw [← List.append_assoc, word4_octL (l ++ octL _) _ (q + 4) (by rw [List.length_append, h]; rfl)]
  rw [List.append_assoc, word4_app l (octL _ ++ octL _) _ _ _ _ _ q h rfl, word_octL, UInt32.toNat_ofNat', UInt32.toNat_ofNat']
  omega

theorem longL_long8 (l : List UInt8) (p : Nat) (h : p + 8 ≤ l.length) : longL (UInt64.ofNat (long8 l p)) = (l.drop p).take 8 := by
  have hx := (word4 l p).toNat_lt
  have hy := (word4 l (p + 4)).toNat_lt
  have hl : (UInt64.ofNat (long8 l p)).toNat = long8 l p := by
    rw [UInt64.toNat_ofNat']; unfold long8; omega
  unfold longL
  rw [hl]
  have h1 : UInt32.ofNat (long8 l p / 4294967296) = word4 l p := by
    apply UInt32.toNat_inj.1; rw [UInt32.toNat_ofNat']; unfold long8; omega
  have h2 : UInt32.ofNat (long8 l p) = word4 l (p + 4) := by
    apply UInt32.toNat_inj.1; rw [UInt32.toNat_ofNat']; unfold long8; omega
  rw [h1, h2]
  unfold word4
  rw [octL_word, octL_word]
  apply List.ext_getElem?
  intro i
  by_cases hi : i < 8
  · rw [List.getElem?_take_of_lt hi, List.getElem?_drop]
    have he : l[p + i]? = some (l[p + i]?.getD 0) := by
      rw [List.getElem?_eq_getElem (by omega)]; rfl
    rw [he]
    have : i = 0 ∨ i = 1 ∨ i = 2 ∨ i = 3 ∨ i = 4 ∨ i = 5 ∨ i = 6 ∨ i = 7 := by omega
    rcases this with rfl | rfl | rfl | rfl | rfl | rfl | rfl | rfl <;> rfl
  · rw [List.getElem?_eq_none (by simp; omega), List.getElem?_eq_none (by simp; omega)]
end

section
open Go Go.RowKit

theorem shift_some (b off c p : Nat) (h : ¬ c = p) : shift (some ⟨b, off, none⟩) c p = some ⟨b, off + p, none⟩ := by
  have hadd : (⟨b, off, none⟩ : Addr).add p = ⟨b, off + p, none⟩ := by unfold Addr.add; split <;> simp_all
  rw [shift, if_neg h, Option.map_some, hadd]

theorem wpQuiet_no {P : Program} {ops : Array Oper} {C : World → Prop} {Q : Act → Prop} {o : Oper} {rest : List Oper} {a : Act} (hw : Region.wanted o (yielded ops a.tmps) = false)
    (h : wpQuiet P ops C Q rest (a.put o.dst undef)) : wpQuiet P ops C Q (o :: rest) a := by
  unfold wpQuiet; rw [hw]; exact h

attribute [local irreducible] wpQuiet

theorem roomE_mono {n : Nat} {at_ : Int} (h : ¬ roomE n at_ 4 = 0) : ¬ roomE n at_ 8 = 0 := by
  intro h8
  obtain ⟨p, rfl, hp⟩ := roomE_zero h8 (by omega)
  apply h
  unfold roomE
  rw [if_neg (by omega), if_neg (by omega)]

theorem take_cells {w : World} {a : Option Addr} {l m : List UInt8} {n : Nat} (h : Cells w a ((l ++ m).map u8v)) (hn : l.length = n) : Cells w a (l.map u8v) := by
  have := h.take n
  rwa [← List.map_take, List.take_left' hn] at this
end

section
open Go Go.RowKit

theorem ret_none {P : Program} {fn : Func} {R : Ending → World → Prop} {a : Act} {w : World} (hr : fn.results = #[]) (hd : a.defers = []) (hR : R (.returned (.tuple #[])) w) : bodyPost P fn R .ret a w :=
  bodyPost_ret (results_none hr _ _ _) hd hR

set_option maxRecDepth 100000 in
set_option maxHeartbeats 1000000 in
/-- too few for a block -/
theorem take_c1 (s0 t b r : List UInt8) (tot : Int) (g m h n c : Nat) (a : Option Addr) (T : TypeId) (w : World) (hs : s0.length = 64) (hr : r.length = 32) (hb : b.length = n) (hm : t.length = 32 * m + h) (hh : 0 < h) (hhn : h + n < 32)
    (hrt : r.take h = t.drop (32 * m))
    (hB : Blk w g (sm (absN s0 t m) r h tot) T) (hnc : n ≤ c) (hc : c ≤ 9223372036854775807) (h0 : a = none → n = 0) (hcl : Cells w a (b.map u8v)) (haw : n = 0 ∨ ∀ x, a = some x → some x.block ≠ some g) :
    Calls Try.prog 162 #[.pointer (some ⟨g, 0, none⟩), .slice a n c] w (takePost w g T s0 (t ++ b) tot) := by
  have HS := hid hs
  have HR := hid hr
  have HB := hid hb
  have HM := hid hm
  have H0 := hid h0
  have HA := hid haw
  have HC := hid hcl
  have HBL := hid hB
  have HRT := hid hrt
  clear hs hr hb hm h0 haw hcl hB hrt
  have c1 := HBL.out.cell' (sm_have h tot (absN_length HS.out m) HR.out)
  have hd1 : decide ((0 : Int) < (h : Int)) = true := decide_eq_true (by omega)
  have ne : ¬ 32 = h := by omega
  have i0 : (0 : Int) ≤ (h : Int) := by omega
  have i1 : (h : Int) ≤ 32 := by omega
  have hk : IntKind.i64.wrap ((h : Int) + n) = (h : Int) + n := IntWalk.i64_in _ (by omega)
  have hd2 : decide ((h : Int) + n < 32) = true := decide_eq_true (by omega)
  have hmin : n = Nat.min n (32 - h) := (Nat.min_eq_left (by omega)).symm
  have hlen2 : (b.map u8v).length = n := by rw [List.length_map, HB.out]
  have hfit : 64 + h + n ≤ (sm (absN s0 t m) r h tot).length := by rw [sm_length _ _ (absN_length HS.out _) HR.out]; omega
  have hsp := sm_splice (xs := b) h tot (absN_length (t := t) HS.out m) HR.out h (by rw [HB.out]; omega)
  rw [HB.out] at hsp
  have hrl : (r.take h ++ b ++ r.drop (h + n)).length = 32 := by rw [List.length_append, List.length_append, List.length_take, HB.out, List.length_drop, HR.out]; omega
  have hrt : (r.take h ++ b ++ r.drop (h + n)).take (h + n) = (t ++ b).drop (32 * m) := by
    rw [List.drop_append_of_le_length (by rw [HM.out]; omega), ← HRT.out, List.take_append_of_le_length (by rw [List.length_append, List.length_take, HB.out, HR.out]; omega),
      List.take_of_length_le (by rw [List.length_append, List.length_take, HB.out, HR.out]; omega)]
  generalize r.take h ++ b ++ r.drop (h + n) = r2 at *
  have HMI := hid hmin
  have HL2 := hid hlen2
  have HF := hid hfit
  have HSP := hid hsp
  have HR2 := hid hrl
  have HRT2 := hid hrt
  clear hmin hlen2 hfit hsp hrl hrt
  go_enter Try.func162, Try.ntmps162
  go_wp2
  refine wp_region_cls (C := fun w' => ∃ n, w' = w.drewN n) 9 (by kernel_rfl) (by kernel_rfl) ⟨1, rfl⟩ ?_
  simp only [List.take_succ_cons, List.take_zero, List.drop_succ_cons, List.drop_zero]
  iterate 9 quiet_step (fail)
  refine wpQuiet_nil ?_
  rintro _ ⟨nq, rfl⟩
  go_wp2_with (refine wpl_copyc rfl _ _ _ _ rfl rfl rfl (HBL.out.drewN (n := nq)) Try.underlying28 size_u8 HL2.out HMI.out H0.out (HC.out.ext ((Ext.refl w).drewN nq)) HF.out (one_u8 _) ?_)
  intro w1 b1 u1
  rw [HSP.out] at b1
  have HB1 := hid b1
  have HG1 := hid (grown_upd (grown_drewN (grown_refl w (some g)) nq) u1)
  have f1 := b1.frozen 96
  have c2 := b1.cell' (sm_have h tot (absN_length HS.out m) HR2.out)
  clear b1 u1 c1
  go_wp2_with (refine wpl_slice_low rfl _ _ _ _ rfl (k := n) rfl rfl Try.underlying28 size_u8 (Nat.le_refl n) ?_)
  have b2 := HB1.out.set 96 (.int .i64 ((h : Int) + n))
  rw [sm_set_have _ _ _ (absN_length HS.out _) HR2.out] at b2
  have HB2 := hid b2
  have HG2 := hid (grown_set HG1.out 96 (.int .i64 ((h : Int) + n)))
  clear b2
  refine ret_none rfl rfl ⟨rfl, ⟨r2, HR2.out, ?_, ?_⟩, HG2.out⟩
  · have h1 : (t ++ b).length % 32 = h + n := by rw [List.length_append, HM.out, HB.out]; omega
    have h2 : (t ++ b).length / 32 = m := by rw [List.length_append, HM.out, HB.out]; omega
    rw [h1, h2]; exact HRT2.out
  · have h1 : (t ++ b).length % 32 = h + n := by rw [List.length_append, HM.out, HB.out]; omega
    have h2 : (t ++ b).length / 32 = m := by rw [List.length_append, HM.out, HB.out]; omega
    rw [h1, h2, absN_append _ (by rw [HM.out]; omega)]; exact HB2.out

set_option maxRecDepth 100000 in
set_option maxHeartbeats 2000000 in
/-- the block is filled -/
theorem take_c2 (s0 t b1 b2 r : List UInt8) (tot : Int) (g m h n n2 c : Nat) (a : Option Addr) (T : TypeId) (w : World) (hs : s0.length = 64) (hr : r.length = 32) (hb : b2.length = n2) (hb1 : b1.length = 32 - h) (hm : t.length = 32 * m + h) (hh : 0 < h) (hh2 : h < 32)
    (hn : n = 32 - h + n2) (hrt : r.take h = t.drop (32 * m))
    (hB : Blk w g (sm (absN s0 t m) r h tot) T) (hnc : n ≤ c) (hc : c ≤ 9223372036854775807) (h0 : a = none → n = 0) (hcl : Cells w a ((b1 ++ b2).map u8v)) (haw : n = 0 ∨ ∀ x, a = some x → some x.block ≠ some g) :
    Calls Try.prog 162 #[.pointer (some ⟨g, 0, none⟩), .slice a n c] w (takePost w g T s0 (t ++ b1 ++ b2) tot) := by
  have HS := hid hs
  have HR := hid hr
  have HBB := hid hb
  have HB1L := hid hb1
  have HM := hid hm
  have H0 := hid h0
  have HA := hid (haw.resolve_left (by omega))
  have HC := hid hcl
  have HBL := hid hB
  have HRT := hid hrt
  have HN := hid hn
  have hmm : (t ++ b1).length = 32 * (m + 1) := by rw [List.length_append, hm, hb1]; omega
  have HMM := hid hmm
  have hbl : (r.take h ++ b1) = (t ++ b1).drop (32 * m) := by rw [List.drop_append_of_le_length (by rw [hm]; omega), hrt]
  have hab : absorb (absN s0 t m) (r.take h ++ b1) = absN s0 (t ++ b1) (m + 1) := by
    have h32 : (r.take h ++ b1).length = 32 := by rw [List.length_append, List.length_take, hb1, hr]; omega
    rw [absN, ← hbl, absN_append _ (by rw [hm]; omega), List.take_of_length_le (l := r.take h ++ b1) (by omega)]
  have HAB := hid hab
  have hcb1 : Cells w a (b1.map u8v) := take_cells (m := b2) hcl rfl
  have HCB := hid hcb1
  have hcb2 : Cells w (shift a c (32 - h)) (b2.map u8v) := by
    have h1 := hcl.shift c (32 - h) n2 (by omega)
    rw [← List.map_drop, ← hb1, List.drop_left, List.take_of_length_le (by rw [List.length_map]; omega)] at h1
    rwa [hb1] at h1
  have HCC := hid hcb2
  clear hs hr hb hm h0 haw hcl hB hrt hmm hbl hab hcb1 hcb2 hb1
  have c1 := HBL.out.cell' (sm_have h tot (absN_length HS.out m) HR.out)
  have hd1 : decide ((0 : Int) < (h : Int)) = true := decide_eq_true (by omega)
  have ne : ¬ 32 = h := by omega
  have i0 : (0 : Int) ≤ (h : Int) := by omega
  have i1 : (h : Int) ≤ 32 := by omega
  obtain ⟨j, hj⟩ : ∃ j, 32 - h = j := ⟨_, rfl⟩
  have hk : IntKind.i64.wrap ((h : Int) + j) = 32 := by
    rw [show (h : Int) + j = 32 by omega]; exact IntWalk.i64_in _ (by omega)
  have hmin : j = Nat.min n j := (Nat.min_eq_right (by omega)).symm
  have hlen2 : (b1.map u8v).length = j := by rw [List.length_map, HB1L.out]; exact hj
  have hfit : 64 + h + j ≤ (sm (absN s0 t m) r h tot).length := by rw [sm_length _ _ (absN_length HS.out _) HR.out]; omega
  have hsp := sm_splice (xs := b1) h tot (absN_length (t := t) HS.out m) HR.out h (by rw [HB1L.out]; omega)
  rw [HB1L.out, show h + (32 - h) = 32 by omega, List.drop_of_length_le (by rw [HR.out]; omega), List.append_nil] at hsp
  have hrl : (r.take h ++ b1).length = 32 := by rw [List.length_append, List.length_take, HB1L.out, HR.out]; omega
  generalize r.take h ++ b1 = r2 at *
  have HMI := hid hmin
  have HL2 := hid hlen2
  have HF := hid hfit
  have HSP := hid hsp
  have HR2 := hid hrl
  clear hmin hlen2 hfit hsp hrl
  have hjn : j ≤ n := by omega
  clear hn
  go_enter Try.func162, Try.ntmps162
  go_wp2
  refine wp_region_cls (C := fun w' => ∃ n, w' = w.drewN n) 9 (by kernel_rfl) (by kernel_rfl) ⟨1, rfl⟩ ?_
  simp only [List.take_succ_cons, List.take_zero, List.drop_succ_cons, List.drop_zero]
  iterate 9 quiet_step (fail)
  refine wpQuiet_nil ?_
  rintro _ ⟨nq, rfl⟩
  go_wp2_with (refine wpl_copyc rfl _ _ _ _ rfl rfl rfl (HBL.out.drewN (n := nq)) Try.underlying28 size_u8 HL2.out HMI.out H0.out (HCB.out.ext ((Ext.refl w).drewN nq)) HF.out (one_u8 _) ?_)
  intro w1 k1 u1
  rw [HSP.out] at k1
  have HB1 := hid k1
  have HG1 := hid (grown_upd (grown_drewN (grown_refl w (some g)) nq) u1)
  have f1 := k1.frozen 96
  have c2 := k1.cell' (sm_have h tot (absN_length HS.out m) HR2.out)
  clear k1 u1 c1
  go_wp2_with (refine wpl_slice_low rfl _ _ _ _ rfl (k := j) rfl rfl Try.underlying28 size_u8 hjn ?_)
  have k2 := HB1.out.set 96 (.int .i64 32)
  rw [sm_set_have _ _ _ (absN_length HS.out _) HR2.out] at k2
  have HB2 := hid k2
  have HG2 := hid (grown_set HG1.out 96 (.int .i64 32))
  generalize World.setCell w1 _ _ = w2 at *
  have hsrc : ∀ i, i < 32 → w2.cell? ⟨g, 64 + i, none⟩ = some (.int .u8 ((r2[i]?.getD 0).toNat : Int)) := fun i hi => k2.cell' (sm_rest 32 tot (absN_length HS.out m) HR2.out hi)
  have HSR := hid hsrc
  clear k2 f1 c2 hsrc
  refine (block_c _ r2 _ g g 64 T w2 (absN_length HS.out m) HB2.out HSR.out (.inr (Nat.le_refl _))).mono ?_
  rintro e w3 ⟨rfl, k3, g3⟩
  rw [HAB.out] at k3
  have k3' : Blk w3 g (sm (absN s0 (t ++ b1) (m + 1)) r2 32 tot) T := k3
  have HB3 := hid k3'
  have HG3 := hid (grown_trans HG2.out g3)
  have f3 := k3.frozen 96
  have c3 := k3'.cell' (sm_have 32 tot (absN_length HS.out (m + 1)) HR2.out)
  clear k3 k3' g3
  go_wp2
  have k4 := HB3.out.set 96 (.int .i64 0)
  rw [sm_set_have _ _ _ (absN_length HS.out _) HR2.out] at k4
  have HB4 := hid k4
  have HG4 := hid (grown_set HG3.out 96 (.int .i64 0))
  generalize World.setCell w3 _ _ = w4 at *
  have HC4 := hid (HCC.out.grown HG4.out (shift_away HA.out))
  have HA4 : Hid (n2 = 0 ∨ ∀ x, shift a c (32 - h) = some x → some x.block ≠ some g) := hid (.inr (shift_away (c := c) (k := 32 - h) HA.out))
  rw [hj] at HC4 HA4
  have hn2 : n - j = n2 := by have := HN.out; omega
  have H04 : Hid (shift a c j = none → n2 = 0) := hid fun e => by have := H0.out (shift_nil.1 e); omega
  rw [hn2]
  clear k4 f3 c3 HB3 HB2 HG3 HG2 HSR HB1 HG1
  generalize shift a c j = a4 at *
  obtain ⟨tt, htt⟩ : ∃ tt, t ++ b1 = tt := ⟨_, rfl⟩
  obtain ⟨m1, hm1⟩ : ∃ m1, m + 1 = m1 := ⟨_, rfl⟩
  obtain ⟨cc, hcc1⟩ : ∃ cc, c - j = cc := ⟨_, rfl⟩
  rw [htt, hm1] at HB4 HMM
  rw [htt, hcc1]
  have hncc : n2 ≤ cc := by omega
  go_loopw [1] (fun x wr => ∃ (k n' c' : Nat) (a' : Option Addr), x = .slice a' n' c' ∧ n' + 32 * k = n2 ∧ n' ≤ c' ∧ c' ≤ cc ∧ Hid (a' = none → n' = 0) ∧ Hid (n' = 0 ∨ ∀ x, a' = some x → some x.block ≠ some g) ∧
      Hid (Cells wr a' ((b2.drop (32 * k)).map u8v)) ∧ Hid (Blk wr g (sm (absN s0 (tt ++ b2) (m1 + k)) r2 0 tot) T) ∧ Hid (w.grownBy wr (some g)))
    (fun x _ => sliceLen x)
  case atStart => exact ⟨0, n2, cc, a4, rfl, by omega, hncc, by omega, H04, HA4, hid (by rw [Nat.mul_zero, List.drop_zero]; exact HC4.out), hid (by rw [Nat.add_zero, absN_append _ (by rw [HMM.out]; omega)]; exact HB4.out), HG4⟩
  case round =>
    obtain ⟨k, n', c', a', rfl, hk, hnc', hcc', h0', ha', hc', hb', hg'⟩ := hrel
    by_cases hlt : 32 ≤ n'
    · have hd : decide ((32 : Int) ≤ (n' : Int)) = true := decide_eq_true (by omega)
      have hlen : (b2.drop (32 * k)).length = n' := by rw [List.length_drop, HBB.out]; omega
      have hne : a' ≠ none := fun e => by have := h0'.out e; omega
      obtain ⟨gb, off, rfl, hcell⟩ := hc'.out.some_of (by rw [List.length_map, hlen]; omega)
      have haw2 := ha'.out.resolve_left (by omega)
      have hgb : gb ≠ g := fun e => haw2 _ rfl (by rw [e])
      have HA2 := hid haw2
      clear haw2
      have har := run_arrayAt (P := Try.prog) Try.underlying22 (len := n') hlt
      have hsrc : ∀ i, i < 32 → wr.cell? ⟨gb, off + i, none⟩ = some (.int .u8 ((((b2.drop (32 * k)).take 32)[i]?.getD 0).toNat : Int)) := by
        intro i hi
        refine hcell i _ ?_
        rw [List.getElem?_take_of_lt hi]
        exact u8_at (by omega)
      have HSR := hid hsrc
      clear hsrc hcell hne
      have HL := hid hlen
      clear hlen
      go_wp2_with fail
      refine (block_c _ ((b2.drop (32 * k)).take 32) _ g gb off T wr (absN_length HS.out _) hb'.out HSR.out (.inl hgb)).mono ?_
      rintro e w1 ⟨rfl, b1, g1⟩
      have hst : absorb (absN s0 (tt ++ b2) (m1 + k)) ((b2.drop (32 * k)).take 32) = absN s0 (tt ++ b2) (m1 + (k + 1)) := by
        rw [← Nat.add_assoc, absN, drop_behind HMM.out]
      rw [hst] at b1
      have HB1 := hid b1
      clear b1 hst
      have HG1 := hid (grown_trans hg'.out g1)
      have hc1 := hid (hc'.out.grown g1 HA2.out)
      clear g1
      go_wp2_with (refine wpl_slice_low rfl _ _ _ _ rfl (k := 32) rfl rfl Try.underlying28 size_u8 hlt ?_)
      go_roundw
      case rel =>
        refine ⟨k + 1, n' - 32, c' - 32, _, rfl, by omega, by omega, by omega, hid fun e => ?_, hid (.inr (shift_away HA2.out)), hid ?_, HB1, HG1⟩
        · have := h0'.out (shift_nil.1 e); omega
        · have h1 := hc1.out.shift c' 32 (n' - 32) (by omega)
          rw [← List.map_drop, List.drop_drop, List.take_of_length_le (by rw [List.length_map, List.length_drop, HBB.out]; omega)] at h1
          rwa [show 32 * k + 32 = 32 * (k + 1) by omega] at h1
      case measure => simp [sliceLen]; omega
    · have hd : decide ((32 : Int) ≤ (n' : Int)) = false := decide_eq_false (by omega)
      have hlen : (b2.drop (32 * k)).length = n' := by rw [List.length_drop, HBB.out]; omega
      have hlen2 : ((b2.drop (32 * k)).map u8v).length = n' := by rw [List.length_map, hlen]
      have hmin : n' = Nat.min n' 32 := (Nat.min_eq_left (by omega)).symm
      have HMI3 := hid hmin
      clear hmin
      have hfit : 64 + n' ≤ (sm (absN s0 (tt ++ b2) (m1 + k)) r2 0 tot).length := by rw [sm_length _ _ (absN_length HS.out _) HR2.out]; omega
      have HF3 := hid hfit
      clear hfit
      have hsp := sm_splice (xs := b2.drop (32 * k)) 0 tot (absN_length (t := tt ++ b2) HS.out (m1 + k)) HR2.out 0 (by rw [hlen]; omega)
      rw [List.take_zero, List.nil_append, Nat.add_zero, Nat.zero_add, hlen] at hsp
      have hrl : (b2.drop (32 * k) ++ r2.drop n').length = 32 := by rw [List.length_append, hlen, List.length_drop, HR2.out]; omega
      have hrt : (b2.drop (32 * k) ++ r2.drop n').take n' = b2.drop (32 * k) := by rw [← hlen, List.take_left]
      have hdb := drop_behind (b := b2) (k := k) HMM.out
      generalize b2.drop (32 * k) = bb at *
      have HDB := hid hdb
      have HL := hid hlen
      clear hlen hdb
      have HL3 := hid hlen2
      clear hlen2
      generalize hr3 : bb ++ r2.drop n' = r3 at *
      have HRT3 := hid hrt
      have HR3 := hid hrl
      have HSP3 := hid hsp
      clear hrt hrl hsp hr3
      go_wp2_with (refine wpl_copyc rfl _ _ _ _ rfl rfl rfl hb'.out Try.underlying28 size_u8 HL3.out HMI3.out h0'.out hc'.out HF3.out (one_u8 _) ?_)
      intro w1 b1 u1
      rw [HSP3.out] at b1
      have f1 := b1.frozen 96
      have c1 := b1.cell' (sm_have 0 tot (absN_length HS.out (m1 + k)) HR3.out)
      go_wp2
      have b5 := b1.set 96 (.int .i64 (n' : Int))
      rw [sm_set_have _ _ _ (absN_length HS.out _) HR3.out] at b5
      have HB5 := hid b5
      have HG5 := hid (grown_set (grown_upd hg'.out u1) 96 (.int .i64 (n' : Int)))
      clear b5
      refine end_none rfl rfl ⟨rfl, ⟨r3, HR3.out, ?_, ?_⟩, HG5.out⟩
      · have h1 : (tt ++ b2).length % 32 = n' := by rw [List.length_append, HMM.out, HBB.out]; omega
        have h2 : (tt ++ b2).length / 32 = m1 + k := by rw [List.length_append, HMM.out, HBB.out]; omega
        rw [h1, h2, HDB.out]; exact HRT3.out
      · have h1 : (tt ++ b2).length % 32 = n' := by rw [List.length_append, HMM.out, HBB.out]; omega
        have h2 : (tt ++ b2).length / 32 = m1 + k := by rw [List.length_append, HMM.out, HBB.out]; omega
        rw [h1, h2]; exact HB5.out
end

section
open Go Go.RowKit

theorem run_mk8 (w : World) (n : Nat) (hn : n ≤ 140737488355328) : (Instr.makeSlice 28 (.int .i64 (n : Int)) (.int .i64 (n : Int))).run Try.prog w =
    .ok (.slice (some ⟨w.heap.size, 0, none⟩) n n) (w.alloc (.cells ((List.replicate n (0 : UInt8)).map u8v).toArray 5)) := by
  obtain ⟨i0, hi, hz, hs, hb⟩ := info_parts info_u8
  have h := run_make (P := Try.prog) w 28 5 i0 (.int .u8 0) Try.underlying28 hi hz .i64 .i64 n n (by omega) (by omega) (by rw [hb]; omega) (by omega)
  rw [h, hs]
  have : madeCells (Value.int .u8 0).cells ((n : Int).toNat * 1) = ((List.replicate n (0 : UInt8)).map u8v).toArray := by
    have e : (Value.int .u8 0).cells = #[.int .u8 0] := rfl
    apply Array.ext
    · simp [size_madeCells]
    · intro i h1 h2
      simp [madeCells, e, u8v, Nat.mod_one]
  rw [this]
  simp

theorem wpl_mk8 {ops : Array Oper} {rest : List Oper} {o : Oper} {a : Act} {w : World} {Q : Exit → Act → World → Prop} (hgd : o.guard = none) (x y : Operand) (ho : o.op = .makeSlice 28 x y) {n : Nat}
    (hx : a.eval x = .int .i64 (n : Int)) (hy : a.eval y = .int .i64 (n : Int)) (hn : n ≤ 140737488355328)
    (h : wpList Try.prog ops Q rest (a.put o.dst (.slice (some ⟨w.heap.size, 0, none⟩) n n)) (w.alloc (.cells ((List.replicate n (0 : UInt8)).map u8v).toArray 5))) : wpList Try.prog ops Q (o :: rest) a w :=
  wpList_plain hgd fun K hK => by
    unfold Oper.wp execOp
    simp only [ho, hx, hy, Result.andThen_ok, Sem.run_bind, Sem.run_pure, run_mk8 w n hn]
    exact hK _ _ h

theorem take_c (s0 t b : List UInt8) (tot : Int) (g n c : Nat) (a : Option Addr) (T : TypeId) (w : World) (hs : s0.length = 64) (hb : b.length = n)
    (hH : Holds w g T s0 t tot) (hn : n ≤ 140737488355328) (hnc : n ≤ c) (hc : c ≤ 9223372036854775807) (h0 : a = none → n = 0) (hcl : Cells w a (b.map u8v)) (haw : n = 0 ∨ ∀ x, a = some x → some x.block ≠ some g) :
    Calls Try.prog 162 #[.pointer (some ⟨g, 0, none⟩), .slice a n c] w (takePost w g T s0 (t ++ b) tot) := by
  obtain ⟨r, hr, hrt, hB⟩ := hH
  have hm : t.length = 32 * (t.length / 32) + t.length % 32 := by omega
  generalize hmm : t.length / 32 = m at *
  generalize hhh : t.length % 32 = h at *
  have hlt : h < 32 := by omega
  by_cases h1 : h = 0
  · subst h1
    exact take_c0 s0 t b r tot g m n c a T w hs hr hb (by omega) hB hn hnc hc h0 hcl haw
  · by_cases h2 : h + n < 32
    · exact take_c1 s0 t b r tot g m h n c a T w hs hr hb hm (by omega) h2 hrt hB hnc hc h0 hcl haw
    · have hsplit : b.take (32 - h) ++ b.drop (32 - h) = b := List.take_append_drop _ _
      have := take_c2 s0 t (b.take (32 - h)) (b.drop (32 - h)) r tot g m h n (n - (32 - h)) c a T w hs hr (by rw [List.length_drop, hb]) (by rw [List.length_take, hb]; omega) hm (by omega) hlt (by omega) hrt hB hnc hc h0 (by rw [hsplit]; exact hcl) haw
      rwa [List.append_assoc, hsplit] at this

theorem cells_grown0 {w w' : World} {a : Option Addr} {xs : List Value} {r : Option Nat} {n : Nat} (h : Cells w a xs) (hl : xs.length = n) (k : w.grownBy w' r) (hn : n = 0 ∨ ∀ x, a = some x → some x.block ≠ r) : Cells w' a xs := by
  rcases hn with rfl | hn
  · exact .inl (List.length_eq_zero_iff.1 hl)
  · exact h.grown k hn
theorem away_of {w0 : World} {a : Option Addr} {xs : List Value} {n g : Nat} (h : Cells w0 a xs) (hl : xs.length = n) (hg : w0.heap.size ≤ g) : n = 0 ∨ ∀ x, a = some x → some x.block ≠ some g := by
  by_cases h0 : n = 0
  · exact .inl h0
  · refine .inr ?_
    intro x hx
    obtain ⟨b, off, rfl, hc⟩ := h.some_of (by omega)
    cases hx
    have h1 : b < w0.heap.size := block_lt_of_cell (hc 0 _ (List.getElem?_eq_getElem (by omega)))
    intro e
    have h2 : b = g := by injection e
    omega

abbrev SmT : TypeId := 208
theorem agg_sm : AggT Try.prog 208 98 := ⟨⟨_, Try.underlying208, rfl⟩, by kernel_rfl⟩

theorem Holds.blk {w : World} {g : Nat} {T : TypeId} {s0 t : List UInt8} {tot : Int} (h : Holds w g T s0 t tot) : ∃ vs, vs.length = vs.length ∧ Blk w g vs T := by
  obtain ⟨r, _, _, hb⟩ := h; exact ⟨_, rfl, hb⟩
theorem Holds.lt {w : World} {g : Nat} {T : TypeId} {s0 t : List UInt8} {tot : Int} (h : Holds w g T s0 t tot) : g < w.heap.size := by
  obtain ⟨r, _, _, hb⟩ := h; exact hb.lt
theorem Holds.ext {w w' : World} {g : Nat} {T : TypeId} {s0 t : List UInt8} {tot : Int} (h : Holds w g T s0 t tot) (k : Ext w w') : Holds w' g T s0 t tot := by
  obtain ⟨r, h1, h2, hb⟩ := h; exact ⟨r, h1, h2, hb.ext k⟩
theorem Holds.grown {w w' : World} {g : Nat} {T : TypeId} {s0 t : List UInt8} {tot : Int} {r : Option Nat} (h : Holds w g T s0 t tot) (k : w.grownBy w' r) (hn : some g ≠ r) : Holds w' g T s0 t tot := by
  obtain ⟨r, h1, h2, hb⟩ := h; exact ⟨r, h1, h2, hb.grown k hn⟩

def writePost (w : World) (g : Nat) (T : TypeId) (s0 t b : List UInt8) (tot : Int) (e : Ending) (w' : World) : Prop :=
  if (b.length : Int) ≤ 1048576 - tot then e = .returned (.int .i64 0) ∧ Holds w' g T s0 (t ++ b) (tot + b.length) ∧ w.grownBy w' (some g)
  else e = .returned (.int .i64 5) ∧ w = w'

set_option maxRecDepth 100000 in
set_option maxHeartbeats 1000000 in
theorem write_c (s0 t b : List UInt8) (tot : Int) (g n c : Nat) (a : Option Addr) (T : TypeId) (w : World) (hs : s0.length = 64) (hb : b.length = n) (ht0 : 0 ≤ tot) (ht1 : tot ≤ 1048576)
    (hH : Holds w g T s0 t tot) (hn : n ≤ 9223372036854775807) (hnc : n ≤ c) (hc : c ≤ 9223372036854775807) (h0 : a = none → n = 0) (hcl : Cells w a (b.map u8v)) (haw : n = 0 ∨ ∀ x, a = some x → some x.block ≠ some g) :
    Calls Try.prog 156 #[.pointer (some ⟨g, 0, none⟩), .slice a n c] w (writePost w g T s0 t b tot) := by
  obtain ⟨r, hr, hrt, hB⟩ := hH
  unfold writePost
  rw [hb]
  have HB := hid hb
  have HR := hid hr
  have HRT := hid hrt
  have H0 := hid h0
  have HA := hid haw
  have HC := hid hcl
  have HBL := hid hB
  have HS := hid hs
  have c1 := hB.cell' (sm_total (t.length % 32 : Nat) tot (absN_length hs _) hr)
  have f1 := hB.frozen 97
  have k1 : IntKind.i64.wrap (1048576 - tot) = 1048576 - tot := IntWalk.i64_in _ (by omega)
  clear hb hr hrt h0 haw hcl hB hs
  by_cases hle : (n : Int) ≤ 1048576 - tot
  · simp only [if_pos hle]
    have k2 : IntKind.i64.wrap (tot + n) = tot + n := IntWalk.i64_in _ (by omega)
    have hd : decide ((1048576 - tot) < (n : Int)) = false := decide_eq_false (by omega)
    go_enter Try.func156, Try.ntmps156
    go_wp2_with fail
    have b2 := HBL.out.set 97 (.int .i64 (tot + n))
    rw [sm_set_total _ _ _ (absN_length HS.out _) HR.out] at b2
    have hH2 : Holds (w.setCell ⟨g, 97, none⟩ (.int .i64 (tot + n))) g T s0 t (tot + n) := ⟨r, HR.out, HRT.out, b2⟩
    have g2 := grown_set (grown_refl w (some g)) 97 (.int .i64 (tot + n))
    generalize World.setCell w _ _ = w2 at *
    refine (take_c s0 t b (tot + n) g n c a T w2 HS.out HB.out hH2 (by omega) hnc hc H0.out (cells_grown0 HC.out (by rw [List.length_map]; exact HB.out) g2 HA.out) HA.out).mono ?_
    rintro e w3 ⟨rfl, h3, g3⟩
    go_wp2
    go_ret
    exact ⟨rfl, h3, grown_trans g2 g3⟩
  · simp only [if_neg hle]
    have hd : decide ((1048576 - tot) < (n : Int)) = true := decide_eq_true (by omega)
    go_enter Try.func156, Try.ntmps156
    go_wp2
    go_ret
    exact ⟨rfl, rfl⟩

set_option maxRecDepth 100000 in
set_option maxHeartbeats 1000000 in
theorem copy_c (s0 t : List UInt8) (tot : Int) (g : Nat) (T : TypeId) (w : World) (hs : s0.length = 64) (hH : Holds w g T s0 t tot) :
    Calls Try.prog 163 #[.pointer (some ⟨g, 0, none⟩)] w fun e w' => e = .returned (.pointer (some ⟨w.heap.size, 0, none⟩)) ∧ Holds w' w.heap.size SmT s0 t tot ∧ Ext w w' := by
  obtain ⟨r, hr, hrt, hB⟩ := hH
  have hl := sm_length (t.length % 32 : Nat) tot (absN_length (t := t) hs (t.length / 32)) hr
  have h1 : ∀ v ∈ sm (absN s0 t (t.length / 32)) r (t.length % 32 : Nat) tot, v.oneCell' = true := by
    intro v hv
    unfold sm at hv
    simp only [List.mem_append, List.mem_cons, List.not_mem_nil, or_false] at hv
    rcases hv with hv | hv | hv | hv
    · exact one_u8 _ v hv
    · exact one_u8 _ v hv
    · rw [hv]; rfl
    · rw [hv]; rfl
  have HB := hid hB
  have HL := hid hl
  have HR := hid hr
  have HRT := hid hrt
  clear hB hl hr hrt
  go_enter Try.func163, Try.ntmps163
  go_wp2_with (first | (refine wpl_loadw rfl _ _ rfl rfl HB.out agg_sm HL.out ?_) | (refine wpl_storew rfl _ _ _ rfl rfl rfl (Blk.mk_alloc rfl rfl) agg_sm rfl HL.out h1 ?_))
  intro w2 b2 u2
  have e2 := u2.ext ((Ext.refl w).alloc _) (Nat.le_refl _)
  go_wp2
  go_ret
  exact ⟨rfl, ⟨r, HR.out, HRT.out, b2⟩, e2⟩

def initS (d : Int) : List UInt8 := (List.replicate 64 0).set 63 (UInt8.ofNat d.toNat)
theorem initS_length (d : Int) : (initS d).length = 64 := by simp [initS]

theorem zero_sm : Try.zeroCells208 = (sm (List.replicate 64 0) (List.replicate 32 0) 0 0).toArray := by kernel_rfl

def newPost (d : Int) (w : World) (e : Ending) (w' : World) : Prop :=
  if d < 0 ∨ 255 < d then e = .returned (.tuple #[.pointer none, .int .i64 3]) ∧ w = w'
  else e = .returned (.tuple #[.pointer (some ⟨w.heap.size, 0, none⟩), .int .i64 0]) ∧ Holds w' w.heap.size SmT (initS d) [] 0 ∧ Ext w w'

set_option maxRecDepth 100000 in
set_option maxHeartbeats 1000000 in
theorem newSummer_c (d : Int) (w : World) :
    Calls Try.prog 155 #[.int .i64 d] w (newPost d w) := by
  unfold newPost
  by_cases hd : d < 0 ∨ 255 < d
  · simp only [if_pos hd]
    by_cases h1 : d < 0
    · clear hd
      go_enter Try.func155, Try.ntmps155
      go_wp2
      go_ret2
      exact ⟨rfl, rfl⟩
    · have h2 : 255 < d := by omega
      clear hd
      go_enter Try.func155, Try.ntmps155
      go_wp2
      go_ret2
      exact ⟨rfl, rfl⟩
  · simp only [if_neg hd]
    have h1 : ¬ d < 0 := by omega
    have h2 : ¬ 255 < d := by omega
    have h3 : IntKind.u8.wrap d = d := IntWalk.u8_in _ (by omega)
    clear hd
    go_enter Try.func155, Try.ntmps155
    go_wp2
    go_ret2
    have hz : Try.zeroCells208.setIfInBounds 63 (.int .u8 d) = (sm (initS d) (List.replicate 32 0) 0 0).toArray := by
      rw [zero_sm, List.setIfInBounds_toArray]
      congr 1
      unfold sm initS
      rw [List.set_append_left _ _ (by simp), List.map_set]
      have : u8v (UInt8.ofNat d.toNat) = .int .u8 d := by
        unfold u8v
        rw [UInt8.toNat_ofNat']
        congr 1
        omega
      rw [this]
    exact ⟨rfl, ⟨List.replicate 32 0, rfl, rfl, Blk.mk_alloc rfl hz.symm⟩, (Ext.refl w).alloc _⟩
end

section
open Go Go.RowKit

/-- the octets behind a text, up to whole blocks -/
def padT (t : List UInt8) : List UInt8 := t ++ 128 :: List.replicate (31 - t.length % 32) 0
theorem padT_length (t : List UInt8) : (padT t).length % 32 = 0 := by
  unfold padT
  rw [List.length_append, List.length_cons, List.length_replicate]
  omega
/-- the state at the end -/
def finL (s t : List UInt8) (n : Nat) : List UInt8 := absorb (absN s (padT t) ((padT t).length / 32)) (List.replicate 24 0 ++ longL (UInt64.ofNat n))
theorem finL_length (s t : List UInt8) (n : Nat) : (finL s t n).length = 64 := absorb_length _ _
theorem agg_sum : AggT Try.prog 22 32 := ⟨⟨_, Try.underlying22, rfl⟩, by kernel_rfl⟩
theorem grown_none {w w' : World} (h : Ext w w') (r : Option Nat) : w.grownBy w' r := ⟨h.os, h.tape, h.output, h.size, fun i hi _ => h.block i hi⟩

theorem wpl_loadp {P : Program} {ops : Array Oper} {rest : List Oper} {o : Oper} {a : Act} {w : World} {Q : Exit → Act → World → Prop} (hgd : o.guard = none) (ty : TypeId) (x : Operand) (ho : o.op = .load ty x) {g off n : Nat} {vs xs : List Value} {T : TypeId}
    (hx : a.eval x = .pointer (some ⟨g, off, none⟩)) (hb : Blk w g vs T) (ht : AggT P ty n) (hn : off + n ≤ vs.length) (hxs : (vs.drop off).take n = xs)
    (h : wpList P ops Q rest (a.put o.dst (.agg xs.toArray)) w) : wpList P ops Q (o :: rest) a w :=
  wpl_load hgd ty x ho hx hb ht hn (by rw [hxs]; exact h)

set_option maxRecDepth 100000 in
set_option maxHeartbeats 2000000 in
theorem end_c (s0 t : List UInt8) (N : Nat) (g : Nat) (T : TypeId) (w : World) (hs : s0.length = 64) (hN : N ≤ 4611686018427387904) (hH : Holds w g T s0 t N) :
    Calls Try.prog 157 #[.pointer (some ⟨g, 0, none⟩)] w fun e w' => e = .returned (.agg ((finL s0 t N).map u8v).toArray) ∧ Ext w w' := by
  have HS := hid hs
  have HH := hid hH
  have hu : IntKind.u64.wrap (N : Int) = (N : Int) := IntWalk.u64_in _ (by omega)
  have hun : ((UInt64.ofNat N).toNat : Int) = N := by rw [UInt64.toNat_ofNat']; omega
  have hlong := fun w => longOctets_c (UInt64.ofNat N) w
  rw [hun] at hlong
  have HFL : Hid (((finL s0 t N).map u8v).length = 64) := hid (by rw [List.length_map, finL_length])
  have HFD : Hid (finL s0 t N = absorb (absN s0 (padT t) ((padT t).length / 32)) (List.replicate 24 0 ++ longL (UInt64.ofNat N))) := hid rfl
  have hgl := hH.lt
  generalize finL s0 t N = fin at *
  generalize UInt64.ofNat N = u at *
  clear hs hH hun
  go_enter Try.func157, Try.ntmps157
  go_wp2_with fail
  generalize hwA : World.alloc w _ = wA
  have zA : Blk wA w.heap.size (List.replicate 64 (.int .u8 0)) 144 := by rw [← hwA]; exact Blk.mk_alloc rfl rfl
  have eA : Ext w wA := by rw [← hwA]; exact (Ext.refl w).alloc _
  have sA : wA.heap.size = w.heap.size + 1 := by rw [← hwA]; exact Array.size_push _
  clear hwA
  refine (copy_c s0 t N g T _ HS.out (HH.out.ext eA)).mono ?_
  rintro e w1 ⟨rfl, h1, e1⟩
  have HZ1 := hid (zA.ext e1)
  have HE1 := hid (eA.ext e1)
  have HH1 := hid h1
  rw [sA] at HH1
  rw [sA]
  have lt1 : w.heap.size + 1 < w1.heap.size := HH1.out.lt
  clear zA eA sA h1 e1
  go_wp2_with fail
  generalize hwB : World.alloc w1 _ = wB
  have zB : Blk wB w1.heap.size (([128] : List UInt8).map u8v) 5 := by rw [← hwB]; exact Blk.mk_alloc rfl rfl
  have eB : Ext w1 wB := by rw [← hwB]; exact (Ext.refl w1).alloc _
  clear hwB
  refine (take_c s0 t [128] N (w.heap.size + 1) 1 1 (some ⟨w1.heap.size, 0, none⟩) SmT wB HS.out rfl (HH1.out.ext eB) (by omega) (Nat.le_refl _) (by omega) (by intro h; cases h) (Cells.of_blk0 zB) (.inr (by intro x hx; cases hx; intro h; injection h with h; simp only at h; omega))).mono ?_
  rintro e w2 ⟨rfl, h2, g2⟩
  have gB := grown_none eB (some (w.heap.size + 1))
  have HZ2 := hid ((HZ1.out.grown gB (by intro h; injection h with h; omega)).grown g2 (by intro h; injection h with h; omega))
  have HE2 := hid ((HE1.out.ext eB).grown g2 (by intro k hk; cases hk; omega))
  have lt2 : w.heap.size + 1 < w2.heap.size := h2.lt
  have HH2 := hid h2
  clear h2 g2 zB eB gB HZ1 HH1 HE1 lt1
  obtain ⟨r, hr, hrt, hB⟩ := HH2.out
  have c1 := hB.cell' (sm_have _ N (absN_length HS.out _) hr)
  have hlq : (t ++ [128]).length % 32 = (t.length + 1) % 32 := by rw [List.length_append]; rfl
  rw [hlq] at c1
  have hpt : padT t = (t ++ [128]) ++ List.replicate (31 - t.length % 32) 0 := by unfold padT; rw [List.append_assoc]; rfl
  have hpl := padT_length t
  generalize hq : (t.length + 1) % 32 = q at *
  have hq0 : q = 0 ∨ (0 < q ∧ 32 - q = 31 - t.length % 32) := by omega
  have hq32 : q < 32 := by omega
  clear hr hrt hB r hlq
  rcases hq0 with rfl | ⟨hq1, hq2⟩
  · have : 31 - t.length % 32 = 0 := by omega
    rw [this, List.replicate_zero, List.append_nil] at hpt
    rw [← hpt] at HH2
    clear hpt this hq
    obtain ⟨r, hr, -, hB⟩ := HH2.out
    have HR := hid hr
    have HB2 := hid hB
    clear hr hB
    have c2 := fun o => ((HH.out.ext HE2.out).ext ((Ext.refl w2).alloc o)).elim fun rr hh => hh.2.2.cell' (sm_total _ N (absN_length HS.out _) hh.1)
    go_wp2_with fail
    generalize hwD : World.alloc w2 _ = wD
    have zD : Blk wD w2.heap.size (List.replicate 32 (.int .u8 0)) 22 := by rw [← hwD]; exact Blk.mk_alloc rfl rfl
    have eD : Ext w2 wD := by rw [← hwD]; exact (Ext.refl w2).alloc _
    have sD : wD.heap.size = w2.heap.size + 1 := by rw [← hwD]; exact Array.size_push _
    clear hwD c2
    refine (hlong _).mono ?_
    rintro e wE ⟨rfl, eE⟩
    have lE : wD.heap.size ≤ wE.heap.size := eE.size
    go_wp2_with (refine wpl_storew rfl _ _ _ rfl rfl rfl (Blk.mk_alloc rfl rfl) agg_eight rfl rfl (one_u8 _) ?_)
    intro wF bF uF
    have eF : Ext wD wF := uF.ext (eE.alloc _) eE.size
    have HZF := hid (zD.ext eF)
    have HBF := hid bF
    have HEF := hid (eD.ext eF)
    clear bF uF eE zD
    generalize wE.heap.size = gE at *
    go_wp2
    refine wp_region_cls (C := fun w' => ∃ n, w' = wF.drewN n) 2 (by kernel_rfl) (by kernel_rfl) ⟨1, rfl⟩ ?_
    simp only [List.take_succ_cons, List.take_zero, List.drop_succ_cons, List.drop_zero]
    iterate 2 quiet_step (fail)
    refine wpQuiet_nil ?_
    rintro _ ⟨nq, rfl⟩
    have HLL : Hid (((longL u).map u8v).length = 8) := hid (by rw [List.length_map, longL_length])
    have hsp : splice (List.replicate 32 (.int .u8 0)) 24 ((longL u).map u8v) = (List.replicate 24 0 ++ longL u).map u8v := rfl
    have HSP := hid hsp
    have h32 : (List.replicate 24 0 ++ longL u).length = 32 := rfl
    clear hsp
    generalize hLv : (longL u).map u8v = lv at *
    have hlv1 : ∀ v ∈ lv, v.oneCell' = true := by rw [← hLv]; exact one_u8 _
    clear hLv
    have HBV := hid (Cells.of_blk0 (HBF.out.drewN (n := nq)))
    go_wp2_with (refine wpl_copyc rfl _ _ _ _ rfl rfl rfl (HZF.out.drewN (n := nq)) Try.underlying28 size_u8 HLL.out rfl (fun e => by cases e) HBV.out (by simp) hlv1 ?_)
    intro wG bG uG
    change Blk wG _ (splice (List.replicate 32 (.int .u8 0)) 24 lv) _ at bG
    rw [HSP.out] at bG
    generalize hlast : List.replicate 24 0 ++ longL u = last at *
    clear hlast
    have gne : w.heap.size + 1 ≠ w2.heap.size := by omega
    have HBG := hid (((HB2.out.ext HEF.out).drewN (n := nq)).upd uG gne)
    have HSR : Hid (∀ i, i < 32 → wG.cell? ⟨w2.heap.size, 0 + i, none⟩ = some (.int .u8 ((last[i]?.getD 0).toNat : Int))) := hid fun i hi => by
      rw [Nat.zero_add]; exact bG.cell' (u8_at (by omega))
    have eG : Ext w2 wG := uG.ext (HEF.out.drewN nq) (Nat.le_refl _)
    have HZG := hid (HZ2.out.ext eG)
    have HEG := hid (HE2.out.ext eG)
    clear bG uG eG HZF HBF HEF HZ2 HB2 HBV HLL HSP hlv1 h32
    go_wp2_with fail
    refine (block_c _ last _ (w.heap.size + 1) w2.heap.size 0 SmT wG (absN_length HS.out _) HBG.out HSR.out (.inl (Ne.symm gne))).mono ?_
    rintro e wH ⟨rfl, bH, gH⟩
    rw [← HFD.out] at bH
    have HZH := hid (HZG.out.grown gH (by intro h; injection h with h; omega))
    have HEH := hid (HEG.out.grown gH (by intro k hk; cases hk; omega))
    generalize r.map u8v ++ [Value.int IntKind.i64 _, Value.int IntKind.i64 _] = tl at *
    have hlH : 0 + 64 ≤ (fin.map u8v ++ tl).length := by rw [List.length_append, HFL.out]; omega
    have htk : ((fin.map u8v ++ tl).drop 0).take 64 = fin.map u8v := by rw [List.drop_zero, ← HFL.out, List.take_left]
    generalize hvs : fin.map u8v ++ tl = vs at *
    have HVS := hid hvs
    have HTK := hid htk
    have h1f := one_u8 fin
    clear hvs gH htk
    generalize hfv : fin.map u8v = fv at *
    have HFV := hid hfv
    clear hfv
    go_wp2_with (first | (refine wpl_loadp rfl _ _ rfl rfl bH agg_state hlH HTK.out ?_) | refine wpl_storew rfl _ _ _ rfl rfl rfl HZH.out agg_state rfl HFL.out h1f ?_)
    intro wI bI uI
    go_wp2
    refine ret_row rfl rfl bI agg_state HFL.out rfl ⟨by rw [HFV.out], uI.ext HEH.out (Nat.le_refl _)⟩
  · obtain ⟨k, hk⟩ : ∃ k, 32 - q = k := ⟨_, rfl⟩
    have iq1 : IntKind.i64.wrap (32 - (q : Int)) = (k : Int) := by rw [IntWalk.i64_in _ (by omega)]; omega
    have hkq : k ≤ 32 ∧ 0 < k := by omega
    rw [hk] at hq2
    have HK := hid hk
    have HQ2 := hid hq2
    have HPT := hid hpt
    clear hk hq hq2 hpt
    have hdq : decide ((0 : Int) < (q : Int)) = true := decide_eq_true (by omega)
    go_wp2_with (refine wpl_mk8 rfl _ _ rfl (n := k) rfl rfl (by omega) ?_)
    generalize hwC : World.alloc w2 _ = wC
    have zC : Blk wC w2.heap.size ((List.replicate (k) (0 : UInt8)).map u8v) 5 := by rw [← hwC]; exact Blk.mk_alloc rfl (by simp)
    have eC : Ext w2 wC := by rw [← hwC]; exact (Ext.refl w2).alloc _
    clear hwC
    refine (take_c s0 (t ++ [128]) (List.replicate (k) 0) N (w.heap.size + 1) k k (some ⟨w2.heap.size, 0, none⟩) SmT wC HS.out (List.length_replicate ..) (HH2.out.ext eC) (by omega) (Nat.le_refl _) (by omega) (by intro h; cases h) (Cells.of_blk0 zC) (.inr (by intro x hx; cases hx; intro h; injection h with h; simp only at h; omega))).mono ?_
    rintro e w3 ⟨rfl, h3, g3⟩
    rw [HQ2.out, ← HPT.out] at h3
    have gC := grown_none eC (some (w.heap.size + 1))
    have HZ3 := hid ((HZ2.out.grown gC (by intro h; injection h with h; omega)).grown g3 (by intro h; injection h with h; omega))
    have HE3 := hid ((HE2.out.ext eC).grown g3 (by intro k hk; cases hk; omega))
    have lt3 : w.heap.size + 1 < w3.heap.size := h3.lt
    have HH3 := hid h3
    clear h3 g3 zC eC gC HZ2 HH2 HE2 lt2 c1 hq1 hdq iq1 HK hkq HQ2 HPT
    obtain ⟨r, hr, -, hB⟩ := HH3.out
    have HR := hid hr
    have HB3 := hid hB
    clear hr hB
    have c2 := fun o => ((HH.out.ext HE3.out).ext ((Ext.refl w3).alloc o)).elim fun rr hh => hh.2.2.cell' (sm_total _ N (absN_length HS.out _) hh.1)
    go_wp2_with fail
    generalize hwD : World.alloc w3 _ = wD
    have zD : Blk wD w3.heap.size (List.replicate 32 (.int .u8 0)) 22 := by rw [← hwD]; exact Blk.mk_alloc rfl rfl
    have eD : Ext w3 wD := by rw [← hwD]; exact (Ext.refl w3).alloc _
    have sD : wD.heap.size = w3.heap.size + 1 := by rw [← hwD]; exact Array.size_push _
    clear hwD c2
    refine (hlong _).mono ?_
    rintro e wE ⟨rfl, eE⟩
    have lE : wD.heap.size ≤ wE.heap.size := eE.size
    go_wp2_with (refine wpl_storew rfl _ _ _ rfl rfl rfl (Blk.mk_alloc rfl rfl) agg_eight rfl rfl (one_u8 _) ?_)
    intro wF bF uF
    have eF : Ext wD wF := uF.ext (eE.alloc _) eE.size
    have HZF := hid (zD.ext eF)
    have HBF := hid bF
    have HEF := hid (eD.ext eF)
    clear bF uF eE zD
    generalize wE.heap.size = gE at *
    go_wp2
    refine wp_region_cls (C := fun w' => ∃ n, w' = wF.drewN n) 2 (by kernel_rfl) (by kernel_rfl) ⟨1, rfl⟩ ?_
    simp only [List.take_succ_cons, List.take_zero, List.drop_succ_cons, List.drop_zero]
    iterate 2 quiet_step (fail)
    refine wpQuiet_nil ?_
    rintro _ ⟨nq, rfl⟩
    have HLL : Hid (((longL u).map u8v).length = 8) := hid (by rw [List.length_map, longL_length])
    have hsp : splice (List.replicate 32 (.int .u8 0)) 24 ((longL u).map u8v) = (List.replicate 24 0 ++ longL u).map u8v := rfl
    have HSP := hid hsp
    have h32 : (List.replicate 24 0 ++ longL u).length = 32 := rfl
    clear hsp
    generalize hLv : (longL u).map u8v = lv at *
    have hlv1 : ∀ v ∈ lv, v.oneCell' = true := by rw [← hLv]; exact one_u8 _
    clear hLv
    have HBV := hid (Cells.of_blk0 (HBF.out.drewN (n := nq)))
    go_wp2_with (refine wpl_copyc rfl _ _ _ _ rfl rfl rfl (HZF.out.drewN (n := nq)) Try.underlying28 size_u8 HLL.out rfl (fun e => by cases e) HBV.out (by simp) hlv1 ?_)
    intro wG bG uG
    change Blk wG _ (splice (List.replicate 32 (.int .u8 0)) 24 lv) _ at bG
    rw [HSP.out] at bG
    generalize hlast : List.replicate 24 0 ++ longL u = last at *
    clear hlast
    have gne : w.heap.size + 1 ≠ w3.heap.size := by omega
    have HBG := hid (((HB3.out.ext HEF.out).drewN (n := nq)).upd uG gne)
    have HSR : Hid (∀ i, i < 32 → wG.cell? ⟨w3.heap.size, 0 + i, none⟩ = some (.int .u8 ((last[i]?.getD 0).toNat : Int))) := hid fun i hi => by
      rw [Nat.zero_add]; exact bG.cell' (u8_at (by omega))
    have eG : Ext w3 wG := uG.ext (HEF.out.drewN nq) (Nat.le_refl _)
    have HZG := hid (HZ3.out.ext eG)
    have HEG := hid (HE3.out.ext eG)
    clear bG uG eG HZF HBF HEF HZ3 HB3 HBV HLL HSP hlv1 h32
    go_wp2_with fail
    refine (block_c _ last _ (w.heap.size + 1) w3.heap.size 0 SmT wG (absN_length HS.out _) HBG.out HSR.out (.inl (Ne.symm gne))).mono ?_
    rintro e wH ⟨rfl, bH, gH⟩
    rw [← HFD.out] at bH
    have HZH := hid (HZG.out.grown gH (by intro h; injection h with h; omega))
    have HEH := hid (HEG.out.grown gH (by intro k hk; cases hk; omega))
    generalize r.map u8v ++ [Value.int IntKind.i64 _, Value.int IntKind.i64 _] = tl at *
    have hlH : 0 + 64 ≤ (fin.map u8v ++ tl).length := by rw [List.length_append, HFL.out]; omega
    have htk : ((fin.map u8v ++ tl).drop 0).take 64 = fin.map u8v := by rw [List.drop_zero, ← HFL.out, List.take_left]
    generalize hvs : fin.map u8v ++ tl = vs at *
    have HVS := hid hvs
    have HTK := hid htk
    have h1f := one_u8 fin
    clear hvs gH htk
    generalize hfv : fin.map u8v = fv at *
    have HFV := hid hfv
    clear hfv
    go_wp2_with (first | (refine wpl_loadp rfl _ _ rfl rfl bH agg_state hlH HTK.out ?_) | refine wpl_storew rfl _ _ _ rfl rfl rfl HZH.out agg_state rfl HFL.out h1f ?_)
    intro wI bI uI
    go_wp2
    refine ret_row rfl rfl bI agg_state HFL.out rfl ⟨by rw [HFV.out], uI.ext HEH.out (Nat.le_refl _)⟩
end

section
open Go Go.RowKit

theorem agg_apisum : AggT Try.prog 32 32 := ⟨⟨_, Try.underlying32, rfl⟩, by kernel_rfl⟩

/-- the sum of a text -/
def sumL (d : Int) (t : List UInt8) : List UInt8 := (finL (initS d) t t.length).take 32
theorem sumL_length (d : Int) (t : List UInt8) : (sumL d t).length = 32 := by rw [sumL, List.length_take, finL_length]; rfl

set_option maxRecDepth 100000 in
set_option maxHeartbeats 1000000 in
theorem sum_c (s0 t : List UInt8) (N : Nat) (g : Nat) (T : TypeId) (w : World) (hs : s0.length = 64) (hN : N ≤ 4611686018427387904) (hH : Holds w g T s0 t N) :
    Calls Try.prog 140 #[.pointer (some ⟨g, 0, none⟩)] w fun e w' => e = .returned (.agg (((finL s0 t N).take 32).map u8v).toArray) ∧ Ext w w' := by
  have HH := hid hH
  have HFL : Hid (((finL s0 t N).map u8v).length = 64) := hid (by rw [List.length_map, finL_length])
  have HF2 : Hid ((((finL s0 t N).map u8v).drop 0).take 32 = ((finL s0 t N).take 32).map u8v) := hid (by rw [List.drop_zero, List.map_take])
  have HF3 : Hid ((((finL s0 t N).take 32).map u8v).length = 32) := hid (by rw [List.length_map, List.length_take, finL_length]; rfl)
  have h1 := one_u8 (finL s0 t N)
  have h2 := one_u8 ((finL s0 t N).take 32)
  have hend := fun w' (h : Holds w' g T s0 t N) => end_c s0 t N g T w' hs hN h
  generalize hfv2 : ((finL s0 t N).take 32).map u8v = fv2 at *
  generalize (finL s0 t N).map u8v = fv at *
  clear hH hfv2
  have ha := run_arrayAt (P := Try.prog) Try.underlying32 (len := 32) (Nat.le_refl 32)
  go_enter Try.func140, Try.ntmps140
  go_wp2_with fail
  generalize hwA : World.alloc w _ = wA
  have zA : Blk wA w.heap.size (List.replicate 32 (.int .u8 0)) 32 := by rw [← hwA]; exact Blk.mk_alloc rfl rfl
  have eA : Ext w wA := by rw [← hwA]; exact (Ext.refl w).alloc _
  clear hwA
  refine (hend _ (HH.out.ext eA)).mono ?_
  rintro e w1 ⟨rfl, e1⟩
  have HZ := hid (zA.ext e1)
  have HE := hid (eA.ext e1)
  clear zA eA e1
  go_wp2_with (refine wpl_storew rfl _ _ _ rfl rfl rfl (Blk.mk_alloc rfl rfl) agg_state rfl HFL.out h1 ?_)
  intro w2 b2 u2
  have e2 : Ext w1 w2 := u2.ext ((Ext.refl w1).alloc _) (Nat.le_refl _)
  have HZ2 := hid (HZ.out.ext e2)
  have HE2 := hid (HE.out.ext e2)
  clear e2 u2
  go_wp2_with (first | (refine wpl_loadp rfl _ _ rfl rfl b2 agg_apisum (by rw [HFL.out]; omega) HF2.out ?_) | refine wpl_storew rfl _ _ _ rfl rfl rfl HZ2.out agg_apisum rfl HF3.out h2 ?_)
  intro w3 b3 u3
  go_wp2
  refine ret_row rfl rfl b3 agg_apisum HF3.out rfl ⟨rfl, u3.ext HE2.out (Nat.le_refl _)⟩

def summedPost (d : Int) (t : List UInt8) (w : World) (e : Ending) (w' : World) : Prop :=
  (if d < 0 ∨ 255 < d then e = .returned (.tuple #[.pointer none, .int .i64 3])
  else if t.length ≤ 1048576 then e = .returned (.tuple #[.pointer (some ⟨w.heap.size, 0, none⟩), .int .i64 0]) ∧ Holds w' w.heap.size SmT (initS d) t t.length
  else e = .returned (.tuple #[.pointer none, .int .i64 5])) ∧ Ext w w'

set_option maxRecDepth 100000 in
set_option maxHeartbeats 1000000 in
theorem summed_c (its : List Item) (d : Int) (g len cap : Nat) (w : World) (hlen : its.length = len) (hl2 : len ≤ 1000)
    (hg : ∀ i it, its[i]? = some it → w.cell? ⟨g, i, none⟩ = some (itemV it)) (hgs : g < w.heap.size)
    (hc : ∀ it ∈ its, Cells w it.1 (it.2.2.map u8v)) (hn : ∀ it ∈ its, it.1 = none → it.2.1 = 0) (hnc : ∀ it ∈ its, it.2.2.length ≤ it.2.1) (hcm : ∀ it ∈ its, it.2.1 ≤ 9223372036854775807) :
    Calls Try.prog 139 #[.int .i64 d, .slice (some ⟨g, 0, none⟩) len cap] w (summedPost d (cat its) w) := by
  have HL := hid hlen
  have HG := hid hg
  have HC := hid hc
  have HN := hid hn
  have HNC := hid hnc
  have HCM := hid hcm
  clear hlen hg hc hn hnc hcm
  unfold summedPost
  by_cases hd : d < 0 ∨ 255 < d
  · simp only [if_pos hd]
    have hd' := hid hd
    clear hd
    go_enter Try.func139, Try.ntmps139
    go_wp2_with fail
    refine (newSummer_c d w).mono ?_
    intro e w1 h
    unfold newPost at h
    rw [if_pos hd'.out] at h
    obtain ⟨rfl, rfl⟩ := h
    go_wp2
    go_ret2
    exact ⟨rfl, Ext.refl _⟩
  · simp only [if_neg hd]
    have hd' := hid hd
    clear hd
    go_enter Try.func139, Try.ntmps139
    go_wp2_with fail
    refine (newSummer_c d w).mono ?_
    intro e w1 h
    unfold newPost at h
    rw [if_neg hd'.out] at h
    obtain ⟨rfl, h1, e1⟩ := h
    have HH1 := hid h1
    have HE1 := hid e1
    clear h1 e1
    go_wp2
    go_loopw [21] (fun x wr => ∃ k : Nat, k ≤ len ∧ x = .int .i64 k ∧ Hid ((cat (its.take k)).length ≤ 1048576) ∧ Hid (Holds wr w.heap.size SmT (initS d) (cat (its.take k)) (cat (its.take k)).length) ∧ Hid (Ext w wr))
      (fun x _ => len - (intOf x).toNat)
    case atStart => exact ⟨0, by omega, rfl, hid (by simp [cat]), hid HH1.out, HE1⟩
    case round =>
      obtain ⟨k, hk, rfl, hsm, hh, he⟩ := hrel
      by_cases hlt : k < len
      · have hdk : decide ((k : Int) < (len : Int)) = true := decide_eq_true (by omega)
        obtain ⟨it, hit⟩ : ∃ it, its[k]? = some it := ⟨_, List.getElem?_eq_getElem (by rw [HL.out]; exact hlt)⟩
        have hmem : it ∈ its := List.mem_of_getElem? hit
        have hcell := (he.out.cell (p := ⟨g, k, none⟩) hgs).trans (HG.out k it hit)
        obtain ⟨a, c, l⟩ := it
        have hcs := cat_succ hit
        simp only [itemV] at hcell
        have hnc := HNC.out _ hmem
        have hcm := HCM.out _ hmem
        simp only at hnc hcm hcs
        have HCS := hid hcs
        have HIC := hid (HC.out _ hmem)
        have HIN := hid (HN.out _ hmem)
        have hi0 : (0 : Int) ≤ (k : Int) := by omega
        have hi1 : (k : Int) < (len : Int) := by omega
        clear hcs hit hmem
        generalize hll : l.length = ll at *
        generalize hT : cat (its.take k) = tk at *
        have HCL := hid (cat_le its (k + 1))
        go_wp2_with fail
        refine (write_c (initS d) tk l (tk.length : Nat) w.heap.size ll c a SmT wr (initS_length d) hll (by omega) (by have := hsm.out; omega) hh.out (by omega) hnc hcm (fun e => by have := HIN.out e; omega) (HIC.out.ext he.out) (away_of HIC.out (by rw [List.length_map]; exact hll) (Nat.le_refl _))).mono ?_
        intro e w2 h
        unfold writePost at h
        rw [hll] at h
        by_cases hfit : (ll : Int) ≤ 1048576 - (tk.length : Nat)
        · rw [if_pos hfit] at h
          obtain ⟨rfl, h2, g2⟩ := h
          have HH2 := hid h2
          have HE2 := hid (he.out.grown g2 (by intro k' hk'; cases hk'; exact Nat.le_refl _))
          have hfl : (tk ++ l).length = tk.length + ll := by rw [List.length_append, hll]
          have HFL := hid hfl
          clear h2 g2 hfl
          go_wp2
          go_roundw
          case rel =>
            refine ⟨k + 1, by omega, by go_num, hid ?_, hid ?_, HE2⟩
            · rw [HCS.out, HFL.out]; omega
            · rw [HCS.out, HFL.out, Int.natCast_add]; exact HH2.out
          case measure => simp [intOf]; omega
        · rw [if_neg hfit] at h
          obtain ⟨rfl, rfl⟩ := h
          have hbig : ¬ (cat its).length ≤ 1048576 := by
            have := HCL.out
            rw [HCS.out, List.length_append, hll] at this
            omega
          have HBIG := hid hbig
          clear hbig hfit
          go_wp2
          go_ret2
          refine ⟨?_, he.out⟩
          first | rfl | (rw [if_neg HBIG.out]; rfl)
      · have hkl : k = len := by omega
        subst hkl
        have hct : cat (its.take k) = cat its := by rw [List.take_of_length_le (by rw [HL.out]; exact Nat.le_refl _)]
        rw [hct] at hsm hh
        have HIF : Hid ((cat its).length ≤ 1048576) := hsm
        clear hct
        go_wp2
        go_ret2
        refine ⟨?_, he.out⟩
        first | exact ⟨rfl, hh.out⟩ | (rw [if_pos HIF.out]; exact ⟨rfl, hh.out⟩)
end

section
open Go Go.RowKit

theorem longL_at (N i : Nat) (hN : N < 18446744073709551616) (hi : i < 8) : ((((longL (UInt64.ofNat N))[i]?.getD 0).toNat : Nat) : Int) = (N : Int) / 2 ^ (56 - 8 * i) % 256 := by
  have hN' : (UInt64.ofNat N).toNat = N := by rw [UInt64.toNat_ofNat']; omega
  unfold longL
  rw [hN']
  have h1 : (UInt32.ofNat (N / 4294967296)).toNat = N / 4294967296 % 4294967296 := UInt32.toNat_ofNat' ..
  have h2 : (UInt32.ofNat N).toNat = N % 4294967296 := UInt32.toNat_ofNat' ..
  rcases (by omega : i = 0 ∨ i = 1 ∨ i = 2 ∨ i = 3 ∨ i = 4 ∨ i = 5 ∨ i = 6 ∨ i = 7) with rfl | rfl | rfl | rfl | rfl | rfl | rfl | rfl
  all_goals
    simp only [octL, h1, h2, List.cons_append, List.nil_append, List.getElem?_cons_zero, List.getElem?_cons_succ, Option.getD_some, u8_ofNat]
    simp
    try omega

set_option maxRecDepth 100000 in
set_option maxHeartbeats 1000000 in
theorem rlong_c (N : Nat) (w : World) (hN : N ≤ 4611686018427387904) :
    Calls Try.prog 85 #[.int .i64 (N : Int)] w fun e w' => e = .returned (.slice (some ⟨w.heap.size, 0, none⟩) 8 8) ∧ Blk w' w.heap.size ((longL (UInt64.ofNat N)).map u8v) 5 ∧ Ext w w' := by
  have hmk := fun w => run_mk8 w 8 (by omega)
  obtain ⟨f, hf⟩ : ∃ f : Nat → UInt8, (fun i => (longL (UInt64.ofNat N))[i]?.getD 0) = f := ⟨_, rfl⟩
  have hle : longL (UInt64.ofNat N) = fill (fun i => (longL (UInt64.ofNat N))[i]?.getD 0) 0 8 8 := by
    rw [fill_all _ _ _ _ (Nat.le_refl _)]; rfl
  have HLE := hid hle
  have hat : ∀ i, i < 8 → (N : Int) / 2 ^ (56 - 8 * i) % 256 = ((f i).toNat : Int) := fun i hi => by rw [← hf, longL_at N i (by omega) hi]
  rw [hf] at HLE
  clear hle hf
  generalize longL (UInt64.ofNat N) = ll at *
  go_enter Try.func85, Try.ntmps85
  go_wp2_with (refine wpl_mk8 rfl _ _ rfl (n := 8) rfl rfl (by omega) ?_)
  generalize hwA : World.alloc w _ = wA
  have zA : Blk wA w.heap.size ((fill f 0 8 0).map u8v) 5 := by rw [← hwA]; exact Blk.mk_alloc rfl (by rw [fill_zero]; simp)
  have eA : Ext w wA := by rw [← hwA]; exact (Ext.refl w).alloc _
  clear hwA
  go_loopw [8] (fun x wr => ∃ i : Nat, i ≤ 8 ∧ x = .int .i64 i ∧ Blk wr w.heap.size ((fill f 0 8 i).map u8v) 5 ∧ Ext w wr)
    (fun x _ => 8 - (intOf x).toNat)
  case atStart => exact ⟨0, by omega, rfl, zA, eA⟩
  case round =>
    obtain ⟨i, hi, rfl, q1, q2⟩ := hrel
    by_cases hlt : i < 8
    · have hd : decide ((i : Int) < 8) = true := decide_eq_true (by omega)
      have so := hat i hlt
      have c1 := q1.cell' (i := i) (u8_at (by rw [fill_length]; exact hlt))
      have f1 := q1.frozen i
      have i0 : (0 : Int) ≤ (i : Int) := by omega
      have i1 : (i : Int) < 8 := by omega
      have k1 : IntKind.i64.wrap (8 * (i : Int)) = 8 * (i : Int) := IntWalk.i64_in _ (by omega)
      have k2 : IntKind.i64.wrap (56 - 8 * (i : Int)) = ((56 - 8 * i : Nat) : Int) := by rw [IntWalk.i64_in _ (by omega)]; omega
      go_wp2
      go_roundw
      case rel => exact ⟨i + 1, by omega, by go_num, q1.fill8, q2.set _ (Nat.le_refl _)⟩
      case measure => simp [intOf]; omega
    · obtain rfl : i = 8 := by omega
      go_wp2
      go_ret
      exact ⟨rfl, by rw [HLE.out]; exact q1, q2⟩
end

section
open Go Go.RowKit

theorem zeroCells_u8 (k : Nat) : Builtin.zeroCells (Value.int .u8 0).cells k = (List.replicate k (Value.int .u8 0)).toArray := by
  have e : (Value.int .u8 0).cells = #[.int .u8 0] := rfl
  apply Array.ext
  · simp [Builtin.zeroCells, e]
  · intro i h1 h2
    simp [Builtin.zeroCells, e, Nat.mod_one]

theorem run_append_zeros_own (w : World) (base : Nat) (ty : TypeId) (v : Value) (n : Nat) (xs : List Value) (hown : w.ownsRow base 5 1 v n xs) (k : Nat) (hk : 0 < k)
    (hb : n + k ≤ 140737488355328) (hbase : base ≤ w.heap.size) :
    ∃ v' w', (Builtin.append_ #[28, 3] ty #[v, .int .i64 (k : Int)]).run Try.prog w = .ok v' w' ∧ w'.ownsRow base 5 1 v' (n + k) (xs ++ List.replicate k (.int .u8 0)) ∧ w.grownBy w' v.ownBlock := by
  obtain ⟨i0, hi, hz, hs, hb1⟩ := info_parts info_u8
  have hl1 := hown.1
  have hlen : (xs ++ List.replicate k (Value.int .u8 0)).length = (n + k) * 1 := by rw [List.length_append, List.length_replicate, hl1]; omega
  have grown : ∀ (old : Nat), old < n + k → ∀ (row : Option Nat),
      (w.drew.alloc (.cells (xs.toArray ++ Builtin.zeroCells (Value.int .u8 0).cells k ++ Builtin.zeroCells (Value.int .u8 0).cells (grownCap w (n + k) old 5 - (n + k))) 5)).ownsRow base 5 1
        (.slice (some ⟨w.heap.size, 0, none⟩) (n + k) (grownCap w (n + k) old 5)) (n + k) (xs ++ List.replicate k (.int .u8 0)) ∧
      w.grownBy (w.drew.alloc (.cells (xs.toArray ++ Builtin.zeroCells (Value.int .u8 0).cells k ++ Builtin.zeroCells (Value.int .u8 0).cells (grownCap w (n + k) old 5 - (n + k))) 5)) row := by
    intro old ho row
    have hge := grownCap_ge w (n + k) old 5
    have hcm : grownCap w (n + k) old 5 ≤ maxLen := grownCap_le_maxLen w (n + k) old 5 (by unfold maxLen; omega)
    refine ⟨⟨hlen, .inr ⟨w.heap.size, _, _, rfl, hbase, heap_alloc_new w.drew _, hge, hcm, ?_, ?_⟩⟩, ⟨rfl, rfl, rfl, by simp, fun j hj _ => heap_alloc_old w.drew _ hj⟩⟩
    · simp only [Array.size_append, List.size_toArray, zeroCells_u8, List.length_replicate, hl1]; omega
    · simp only [Array.toList_append, zeroCells_u8, List.append_assoc]
      rw [← List.append_assoc, ← hlen]
      exact List.take_left
  rcases hown.2 with ⟨rfl, rfl⟩ | ⟨g, cap, cur, rfl, hbg, hg, hnc, hcm, hcs, htake⟩
  · have hx : xs = [] := List.eq_nil_of_length_eq_zero (by simpa using hl1)
    subst hx
    have hr := Lib.run_append_nil_zeros (P := Try.prog) w 28 3 ty 5 i0 (.int .u8 0) .i64 .i64 Try.underlying28 Try.underlying3 hi hz k hk (by omega) (by omega) (by rw [hb1]; omega)
    have hgr := grown 0 (by omega) (Value.ownBlock (.slice none 0 0))
    simp only [Nat.zero_add, Array.empty_append] at hgr hr ⊢
    exact ⟨_, _, hr, by simpa using hgr.1, by simpa using hgr.2⟩
  · by_cases hroom : n + k ≤ cap
    · have hfit : n * 1 + (List.replicate k (Value.int .u8 0)).length ≤ cur.size := by rw [List.length_replicate, hcs]; omega
      have hst := run_storeCells_at Try.prog g (n * 1) 5 (List.replicate k (Value.int .u8 0)) 0 cur w hg (by simpa using hfit) (by intro u hu; simp at hu; rw [hu.2]; rfl)
      have hw : IntKind.i64.wrap (k : Int) = k := by rw [IntKind.wrap_i64]; omega
      have h48i : ¬ (281474976710656 < (k : Int) * (i0.bytes : Int)) := by rw [hb1]; omega
      have hns : ¬ (k * i0.size = 0) := by rw [hs]; omega
      have hneg : ¬ ((k : Int) < 0) := by omega
      have hk0 : k ≠ 0 := by omega
      simp only [Nat.add_zero] at hst
      have hr : (Builtin.append_ #[28, 3] ty #[.slice (some ⟨g, 0, none⟩) n cap, .int .i64 (k : Int)]).run Try.prog w =
          .ok (.slice (some ⟨g, 0, none⟩) (n + k) cap) (w.setRow g (cur.toList.take (n * 1) ++ List.replicate k (Value.int .u8 0) ++ cur.toList.drop (n * 1 + (List.replicate k (Value.int .u8 0)).length)).toArray) := by
        simp [Builtin.append_, run_underlying Try.underlying28, run_underlying Try.underlying3, sizeOf, typeInfo, zeroValue, hi, hz, asInt, asIntOf, hw, hneg, h48i, hns, hroom, zeroCells_u8, hk0, hs, Addr.add_lit]
        simp at hst
        simp [hst]
      refine ⟨_, _, hr, ⟨hlen, .inr ⟨g, cap, _, rfl, hbg, setRow_heap w g cur _ _ _ hg, hroom, hcm, ?_, ?_⟩⟩, ⟨rfl, rfl, rfl, by simp, fun j _ hj => setRow_other w g j _ (fun e => hj (by simp [Value.ownBlock, e]))⟩⟩
      · simp only [List.size_toArray, List.length_append, List.length_take, List.length_drop, Array.length_toList, List.length_replicate]
        omega
      · rw [htake, ← hlen]
        exact List.take_left
    · have holds : ∀ j u, xs[j]? = some u → w.cell? ((⟨g, 0, none⟩ : Addr).add j) = some u := hown.cells (g := g) rfl
      have hold : (Builtin.firstCells i0.size n (.slice (some ⟨g, 0, none⟩) n cap)).run Try.prog w.drew = .ok xs.toArray w.drew := run_firstCells_some (P := Try.prog) w.drew i0.size n ⟨g, 0, none⟩ n cap xs (by rw [hs]; exact hl1) holds
      have hr := Lib.run_append_grow_zeros (P := Try.prog) w 28 3 ty 5 i0 (.int .u8 0) .i64 .i64 Try.underlying28 Try.underlying3 hi hz (some ⟨g, 0, none⟩) n cap xs hold k hk (by omega) (by omega) (by omega) (by rw [hb1]; omega) (growslice_fits (by omega) (by rw [hb1]; omega))
      have hgr := grown cap (by omega) (Value.ownBlock (.slice (some ⟨g, 0, none⟩) n cap))
      exact ⟨_, _, hr, hgr.1, hgr.2⟩

theorem wpl_append_zeros {ops : Array Oper} {rest : List Oper} {o : Oper} {a : Act} {w : World} {Q : Exit → Act → World → Prop} (hgd : o.guard = none) (s x : Operand)
    (ho : o.op = .call { callee := .builtin .append, args := #[s, x], argTypes := #[28, 3] }) (base : Nat) {v : Value} {n : Nat} {xs : List Value} {k : Nat}
    (hs : a.eval s = v) (hx : a.eval x = .int .i64 (k : Int)) (hown : w.ownsRow base 5 1 v n xs) (hk : 0 < k) (hb : n + k ≤ 140737488355328) (hbase : base ≤ w.heap.size)
    (h : ∀ v' w', w'.ownsRow base 5 1 v' (n + k) (xs ++ List.replicate k (.int .u8 0)) → w.grownBy w' v.ownBlock → wpList Try.prog ops Q rest (a.put o.dst v') w') : wpList Try.prog ops Q (o :: rest) a w := by
  obtain ⟨v', w', hr, h1, h2⟩ := run_append_zeros_own w base o.type v n xs hown k hk hb hbase
  exact Lib.wpList_append_run w hgd s x _ _ ho v _ hs hx v' w' hr (h v' w' h1 h2)

/-- append onto a row of one's own: octets -/
theorem wpl_append8 {ops : Array Oper} {rest : List Oper} {o : Oper} {a : Act} {w : World} {Q : Exit → Act → World → Prop} (hgd : o.guard = none) (s x : Operand)
    (ho : o.op = .call { callee := .builtin .append, args := #[s, x], argTypes := #[28, 28] }) (base : Nat) {v : Value} {n m c : Nat} {xs ys : List UInt8} {ad : Option Addr}
    (hs : a.eval s = v) (hx : a.eval x = .slice ad m c) (hown : w.ownsRow base 5 1 v n (xs.map u8v)) (hm : ys.length = m) (had : ad = none → m = 0 ∧ c = 0) (hc : Cells w ad (ys.map u8v))
    (hb : n + m ≤ 140737488355328) (hbase : base ≤ w.heap.size)
    (h : ∀ v' w', w'.ownsRow base 5 1 v' (n + m) ((xs ++ ys).map u8v) → w.grownBy w' v.ownBlock → wpList Try.prog ops Q rest (a.put o.dst v') w') : wpList Try.prog ops Q (o :: rest) a w := by
  obtain ⟨i0, hi, hz, hsz, hb1⟩ := info_parts info_u8
  cases ad with
  | none =>
    obtain ⟨rfl, rfl⟩ := had rfl
    have hy : ys = [] := List.length_eq_zero_iff.1 hm
    subst hy
    have h' := h v w (by simpa using hown) (grown_refl w _)
    exact wpList_append_own_none hgd s x 28 ho base 5 i0 1 Try.underlying28 hi v n (xs.map u8v) hs hown hx h'
  | some y =>
    exact wpList_append_own w hgd s x 28 ho base 5 i0 (.int .u8 0) 1 1 Try.underlying28 hi hz hsz hb1 rfl (by decide) v n (xs.map u8v) hs hown y m c (ys.map u8v) hx
      (by rw [List.length_map, hm, Nat.mul_one]) (news_cells hc) (one_u8 _) (by unfold maxLen; omega) (by omega) hbase (fun v' w' h1 h2 _ => h v' w' (by rw [List.map_append]; exact h1) h2)

theorem own_block_ge {w : World} {B : Nat} {e : TypeId} {size n : Nat} {v : Value} {xs : List Value} (h : w.ownsRow B e size v n xs) : ∀ g, v.ownBlock = some g → B ≤ g := by
  intro g hg
  rcases h.2 with ⟨rfl, _⟩ | ⟨g', cap, cur, rfl, hb, _⟩
  · cases hg
  · simp [Value.ownBlock] at hg; omega
end
end Go.Proofs.Ytkcjdginoccgjaa
