/- Contracts and laws that the claim's row leans on (12 texts, joined): Rules for walking regions whose order is drawn, with a class of worlds and a forced tail; no condition. Plain values: octets and words as values of the model; no condition. Blocks of memory that are known whole; no condition. The rule for regions whose order is drawn, with variables that the region itself makes; no condition. The rule for regions whose order is drawn, with operations whose values are not known before (calls that make memory); no condition. Maps of any keys and values as lists of pairs in the order of their coming: look-up, store, delete, length; condition: the keys can be read. A range over a map of any keys and values; condition: the keys can be read. append to a row of one's own, of any element type, its block told; rows side by side; condition: the bounds. Steps inside a fence: a run, a range over a map, its next entry, an append; condition: as the plain steps. Contracts of the small functions under Stir: rotation and turn; conditions: the ranges of the counters. Contracts of word, octets, longOctets; no condition. Hex, and that the first chapter is there; condition: the slice's size. -/
import Derived.Deep.Quiet
import Derived.Deep.QuietTactic
import Derived.WalkKit
import Derived.Deep.Draws
import Derived.Deep.RegionLaw
import Derived.Maps.Keyed
import Derived.Maps.RangeRun
import Derived.Maps.RangeWalk
import Derived.Laws.OwnMore
import Derived.Lib.AppendZeros
import Derived.Lib.SlFresh
import Derived.RangeFuncNested
import Derived.RangeFuncBound
import Derived.RangeFuncCalls
import Derived.RangeFuncLeaves
import Derived.RangeFuncGives
import Derived.Shelf.Abstract
import Derived.Shelf.RegionOpen
import Derived.OwnWalkIn
import Derived.TacticsInMore
import Derived.LoopNIn
import Derived.LoopIn
import Derived.Sort.MapsRangeIn
import Derived.Shelf.SlIter.Sorted
import Derived.Test.YthfddfgncolnbaaGreatProg
import Derived.WalkSpells
import Derived.WalkLawsBesides
import Derived.Laws.BytesArg
namespace Go.Proofs.YthfddfgncolnbaaGreat
section
open Go

/-- i waits for j -/
def waits (ops : Array Oper) (i j : Nat) : Bool := (ops[i]?).any fun o => o.after.any fun e => Region.binds .any e && e.on == j

def dstOf (ops : Array Oper) (i : Nat) : Option Tmp := (ops[i]?).bind (·.dst)

def noSel (o : Oper) : Bool := match o.op with | .select .. => false | _ => true

def clsOk (ops : Array Oper) (n : Nat) : Bool :=
  ((List.range ops.size).all fun i => (ops[i]?).all fun o => o.after.all fun e => !Region.binds .any e || decide (e.on < i)) &&
  ((List.range n).all fun i => (ops[i]?).all fun o => noSel o &&
    ((List.range n).all fun j => (dstOf ops j).all fun t => (i == j || o.dst != some t) &&
          (!(o.looksAt ops).contains t || ((decide (i ≤ j) || waits ops i j) && (decide (j ≤ i) || waits ops j i))))) &&
  ((decide (n = ops.size) || (List.range n).all fun i => (List.range (n + 1)).any fun j => decide (i < j) && waits ops j i) &&
   ((List.range ops.size).all fun t => decide (t ≤ n) || waits ops t (t - 1))) &&
  decide (n ≤ ops.size)

section
variable {P : Program} {ops : Array Oper} {Q : Exit → Act → World → Prop}

theorem wp_region_inv {id : Nat} {a : Act} {w : World} (I : Array Bool → Act → World → Prop) (hm : P.follows .mixedOrders = true)
    (h0 : I (Array.replicate ops.size false) a { w with drawn := w.drawn + 1 })
    (hstep : ∀ listed a w i, listed.size = ops.size → I listed a w → i ∈ Region.ready .any ops listed → wpOp P ops Q i (I (listed.setIfInBounds i true)) a w)
    (hend : ∀ listed a w, listed.size = ops.size → I listed a w → Region.ready .any ops listed = [] → Q .normal a w) : (Code.region id ops true).wp P Q a w := by
  refine wp_region_any hm ?_
  have key : ∀ (f : Nat) (listed : Array Bool) (a : Act) (w : World), listed.size = ops.size → (listed.toList.count false ≤ f) → I listed a w → wpAny P .any ops Q f listed a w := by
    intro f
    induction f with
    | zero =>
      intro listed a w hs hf hI
      have hr : Region.ready .any ops listed = [] := by
        apply List.eq_nil_iff_forall_not_mem.2
        intro i hi
        obtain ⟨h1, o, ho, _⟩ := mem_ready.1 hi
        have hlt : i < listed.size := by
          rw [hs]; exact (Array.getElem?_eq_some_iff.1 ho).1
        have h2 : listed[i] = false := by simpa [hlt] using h1
        have h3 : false ∈ listed.toList := by rw [← h2]; simp
        have := List.count_pos_iff.2 h3
        omega
      exact ⟨hr, hend _ _ _ hs hI hr⟩
    | succ f ih =>
      intro listed a w hs hf hI
      refine ⟨hend _ _ _ hs hI, fun i hi => ?_⟩
      refine wpOp_mono (fun a' w' h' => ih _ a' w' (by simpa using hs) ?_ h') (hstep _ _ _ _ hs hI hi)
      obtain ⟨h1, o, ho, _⟩ := mem_ready.1 hi
      have hlt : i < listed.size := by
        rw [hs]; exact (Array.getElem?_eq_some_iff.1 ho).1
      have h2 : listed[i] = false := by simpa [hlt] using h1
      have h4 : (listed.setIfInBounds i true).toList = listed.toList.set i true := by simp
      have h5 : listed.toList[i]'(by simpa using hlt) = false := by simpa using h2
      have h3 : false ∈ listed.toList := by rw [← h2]; simp
      have h6 := List.count_pos_iff.2 h3
      have h7 : List.count false (listed.toList.set i true) = List.count false listed.toList - 1 := by
        rw [List.count_set (by simpa using hlt), h5]
        rfl
      rw [h4, h7]
      omega
  refine key _ _ _ _ (by simp) ?_ h0
  simp

structure Agree (ops : Array Oper) (n : Nat) (vs : Nat → Value) (a0 : Act) (S : Nat → Bool) (a : Act) : Prop where
  dfs : a.defers = a0.defers
  sz : a.tmps.size = a0.tmps.size
  yes : ∀ t, t < a0.tmps.size → ∀ i, i < n → S i = true → dstOf ops i = some t → a.tmps[t]? = some (vs i)
  no : ∀ t, t < a0.tmps.size → (∀ i, i < n → S i = true → dstOf ops i ≠ some t) → a.tmps[t]? = a0.tmps[t]?

theorem Agree.put {n : Nat} {vs : Nat → Value} {a0 a : Act} {S S' : Nat → Bool} (h : Agree ops n vs a0 S a) {i : Nat} (hin : i < n) (hS : S i = false)
    (hS' : S' i = true) (hSS : ∀ j, j ≠ i → S' j = S j)
    (hd : ∀ j, j < n → j ≠ i → ∀ t, dstOf ops i = some t → dstOf ops j ≠ some t) : Agree ops n vs a0 S' (a.put (dstOf ops i) (vs i)) := by
  cases hdi : dstOf ops i with
  | none =>
    refine ⟨h.dfs, h.sz, fun t ht j hj hSj hdj => ?_, fun t ht hno => ?_⟩
    · have hji : j ≠ i := fun e => by subst e; rw [hdi] at hdj; cases hdj
      exact h.yes t ht j hj (by rw [← hSS j hji]; exact hSj) hdj
    · refine h.no t ht fun j hj hSj => ?_
      have hji : j ≠ i := fun e => by subst e; rw [hS] at hSj; cases hSj
      exact hno j hj (by rw [hSS j hji]; exact hSj)
  | some d =>
    refine ⟨h.dfs, by simp [Act.put, h.sz], fun t ht j hj hSj hdj => ?_, fun t ht hno => ?_⟩
    · by_cases hji : j = i
      · subst hji
        rw [hdi] at hdj
        cases hdj
        have : d < a.tmps.size := by rw [h.sz]; exact ht
        simp [Act.put, this]
      · have hne : d ≠ t := fun e => hd j hj hji d hdi (by rw [hdj, e])
        simp only [Act.put]
        rw [Array.getElem?_setIfInBounds_ne hne]
        exact h.yes t ht j hj (by rw [← hSS j hji]; exact hSj) hdj
    · have hne : d ≠ t := fun e => hno i hin hS' (by rw [hdi, e])
      simp only [Act.put]
      rw [Array.getElem?_setIfInBounds_ne hne]
      refine h.no t ht fun j hj hSj => ?_
      have hji : j ≠ i := fun e => by subst e; rw [hS] at hSj; cases hSj
      exact hno j hj (by rw [hSS j hji]; exact hSj)

theorem Agree.same {n : Nat} {vs : Nat → Value} {a0 a a' : Act} {S S' : Nat → Bool} (h : Agree ops n vs a0 S a) (h' : Agree ops n vs a0 S' a') {t : Nat}
    (hSS : ∀ j, j < n → dstOf ops j = some t → S j = S' j) : a.tmps[t]? = a'.tmps[t]? := by
  by_cases ht : t < a0.tmps.size
  · by_cases he : ∃ i, i < n ∧ S i = true ∧ dstOf ops i = some t
    · obtain ⟨i, hi, hSi, hdi⟩ := he
      rw [h.yes t ht i hi hSi hdi, h'.yes t ht i hi (by rw [← hSS i hi hdi]; exact hSi) hdi]
    · have hn : ∀ i, i < n → S i = true → dstOf ops i ≠ some t := fun i hi hs hd => he ⟨i, hi, hs, hd⟩
      rw [h.no t ht hn, h'.no t ht fun i hi hs hd => hn i hi (by rw [hSS i hi hd]; exact hs) hd]
  · have h1 : ¬ t < a.tmps.size := by rw [h.sz]; exact ht
    have h2 : ¬ t < a'.tmps.size := by rw [h'.sz]; exact ht
    simp [h1, h2]

theorem Agree.eq {n : Nat} {vs : Nat → Value} {a0 a a' : Act} {S S' : Nat → Bool} (h : Agree ops n vs a0 S a) (h' : Agree ops n vs a0 S' a')
    (hSS : ∀ j, j < n → S j = S' j) : a = a' := by
  have e1 : a.tmps = a'.tmps := by
    apply Array.ext_getElem?
    intro t
    exact h.same h' fun j hj _ => hSS j hj
  have e2 : a.defers = a'.defers := by rw [h.dfs, h'.dfs]
  cases a; cases a'; simp_all

theorem Agree.eval {n : Nat} {vs : Nat → Value} {a0 a a' : Act} {S S' : Nat → Bool} (h : Agree ops n vs a0 S a) (h' : Agree ops n vs a0 S' a') {o : Oper}
    (hs : noSel o = true) (hSS : ∀ j, j < n → ∀ t, dstOf ops j = some t → t ∈ o.looksAt ops → S j = S' j) :
    execOp a.eval o = execOp a'.eval o ∧ Region.wanted o (yielded ops a.tmps) = Region.wanted o (yielded ops a'.tmps) := by
  have ht : ∀ t, t ∈ o.looksAt ops → a.tmps[t]? = a'.tmps[t]? := fun t htm => h.same h' fun j hj hd => hSS j hj t hd htm
  constructor
  · refine execOp_congr o (fun cs b e => by simp [noSel, e] at hs) fun x hx => ?_
    cases x with
    | tmp t =>
      have := ht t (List.mem_append_left _ (List.mem_filterMap.2 ⟨.tmp t, by simpa using hx, rfl⟩))
      simp [Act.eval, this]
    | _ => rfl
  · unfold Region.wanted
    cases hg : o.guard with
    | none => rfl
    | some g =>
      obtain ⟨j, want⟩ := g
      simp only [yielded]
      cases hd : (ops[j]?).bind (·.dst) with
      | none => simp
      | some t =>
        have := ht t (List.mem_append_right _ (by simp [hg, hd]))
        simp [this]

theorem lex_vals {C : World → Prop} {K : Act → Prop} : ∀ (l : List Oper) (k : Nat) (a : Act), (∀ j, j < l.length → ops[k + j]? = l[j]?) → wpQuiet P ops C K l a →
    ∃ (vs : Nat → Value) (st : Nat → Act), st k = a ∧ (∀ j, k ≤ j → j < k + l.length → st (j + 1) = (st j).put (dstOf ops j) (vs j) ∧ ∃ o, ops[j]? = some o ∧ YieldsIn P ops C o (vs j) (st j)) ∧ K (st (k + l.length))
  | [], k, a, _, h => ⟨fun _ => undef, fun _ => a, rfl, fun j h1 h2 => by simp at h2; omega, h⟩
  | o :: l, k, a, hl, h => by
    have h0 : ops[k]? = some o := by simpa using hl 0 (by simp)
    have hq : qOp P ops C k (wpQuiet P ops C K l) a := by unfold qOp; simp only [h0]; exact h
    obtain ⟨v, hy, hK⟩ := yieldsIn_of_qOp h0 hq
    obtain ⟨vs, st, h1, h2, h3⟩ := lex_vals l (k + 1) _ (fun j hj => by
      have := hl (j + 1) (by simpa using hj)
      simpa [Nat.add_assoc, Nat.add_comm 1 j] using this) hK
    refine ⟨fun j => if j = k then v else vs j, fun j => if j = k then a else st j, by simp, fun j hj hj' => ?_, ?_⟩
    · by_cases hjk : j = k
      · subst hjk
        simp only [if_true, if_neg (show j + 1 ≠ j by omega)]
        refine ⟨by rw [h1]; simp [dstOf, h0], o, h0, hy⟩
      · simp only [if_neg hjk, if_neg (show j + 1 ≠ k by omega)]
        exact h2 j (by omega) (by simp only [List.length_cons] at hj'; omega)
    · simp only [List.length_cons, if_neg (show k + (l.length + 1) ≠ k by omega)]
      have e : k + (l.length + 1) = k + 1 + l.length := by omega
      rw [e]; exact h3

theorem clsOk_spec {n : Nat} (h : clsOk ops n = true) :
    (∀ i o, ops[i]? = some o → ∀ e ∈ o.after, Region.binds .any e = true → e.on < i) ∧
    (∀ i o, i < n → ops[i]? = some o → noSel o = true ∧ ∀ j t, j < n → dstOf ops j = some t → (i ≠ j → o.dst ≠ some t) ∧ (t ∈ o.looksAt ops → (j < i → waits ops i j = true) ∧ (i < j → waits ops j i = true))) ∧
    ((n < ops.size → ∀ i, i < n → ∃ j, i < j ∧ j ≤ n ∧ waits ops j i = true) ∧ (∀ t, n < t → t < ops.size → waits ops t (t - 1) = true)) ∧ n ≤ ops.size := by
  simp only [clsOk, Bool.and_eq_true, List.all_eq_true, List.any_eq_true, List.mem_range, Option.all_eq_true, Bool.or_eq_true, decide_eq_true_eq, Bool.not_eq_true', Array.all_eq_true', beq_iff_eq, bne_iff_ne] at h
  obtain ⟨⟨⟨h1, h2⟩, h3, h5⟩, h4⟩ := h
  refine ⟨fun i o ho e he hb => ?_, fun i o hi ho => ?_, ⟨fun hn i hi => ?_, fun t ht ht' => ?_⟩, h4⟩
  · rcases h1 i (Array.getElem?_eq_some_iff.1 ho).1 o ho e he with h | h
    · rw [hb] at h; cases h
    · exact h
  · obtain ⟨a, b⟩ := h2 i hi o ho
    refine ⟨a, fun j t hj hd => ?_⟩
    obtain ⟨c, d⟩ := b j hj t hd
    refine ⟨fun hne => ?_, fun hm => ?_⟩
    · rcases c with c | c
      · exact absurd c hne
      · exact c
    · rcases d with d | ⟨d1, d2⟩
      · rw [List.contains_iff_mem.2 hm] at d; cases d
      · refine ⟨fun hlt => ?_, fun hlt => ?_⟩
        · rcases d1 with d1 | d1
          · omega
          · exact d1
        · rcases d2 with d2 | d2
          · omega
          · exact d2
  · rcases h3 with h | h
    · omega
    · obtain ⟨j, hj, hij, hw⟩ := h i hi
      exact ⟨j, hij, by omega, hw⟩
  · rcases h5 t ht' with h | h
    · omega
    · exact h

theorem waits_spec {i j : Nat} (h : waits ops i j = true) : ∃ o, ops[i]? = some o ∧ ∃ e ∈ o.after, Region.binds .any e = true ∧ e.on = j := by
  unfold waits at h
  cases ho : ops[i]? with
  | none => rw [ho] at h; cases h
  | some o =>
    rw [ho] at h
    simp only [Option.any_some, Array.any_eq_true', Bool.and_eq_true, beq_iff_eq] at h
    obtain ⟨e, he, hb, hj⟩ := h
    exact ⟨o, rfl, e, he, hb, hj⟩

theorem getD_ft {listed : Array Bool} {i : Nat} (hi : i < listed.size) : listed.getD i true = listed.getD i false := by
  simp [hi]

theorem mem_ready_of {listed : Array Bool} {m : Nat} (hs : listed.size = ops.size) (hm : m < ops.size) (hun : listed.getD m false = false) (hall : ∀ j, j < m → listed.getD j false = true)
    (he : ∀ o, ops[m]? = some o → ∀ e ∈ o.after, Region.binds .any e = true → e.on < m) : m ∈ Region.ready .any ops listed := by
  have ho : ops[m]? = some ops[m] := by simp [hm]
  exact mem_ready.2 ⟨by rw [getD_ft (by omega)]; exact hun, ops[m], ho, fun e hem hb => hall _ (he _ ho e hem hb)⟩

/-- A region whose order is drawn: the first n operations only read and call quietly, in every world of the class C; the others come behind all of them, one by one. -/
theorem wp_region_cls {id : Nat} {a : Act} {w : World} {l : List Oper} {C : World → Prop} (n : Nat) (hm : P.follows .mixedOrders = true) (hB : clsOk l.toArray n = true) (hC : C w.drew)
    (h : wpQuiet P l.toArray C (fun a' => ∀ w', C w' → wpList P l.toArray Q (l.drop n) a' w') (l.take n) a) : (Code.region id l.toArray true).wp P Q a w := by
  obtain ⟨b1, b2, ⟨b3, b5⟩, b4⟩ := clsOk_spec hB
  have hnl : n ≤ l.length := by simpa using b4
  have htl : (l.take n).length = n := by simp [hnl]
  obtain ⟨vs, st, hst0, hst, hK⟩ := lex_vals (l.take n) 0 a (fun j hj => by
    have hj' : j < n := by rw [htl] at hj; exact hj
    simp [hj']) h
  rw [htl] at hst hK
  simp only [Nat.zero_add] at hst hK
  have hag : ∀ i, i ≤ n → Agree l.toArray n vs a (fun j => decide (j < i)) (st i) := by
    intro i
    induction i with
    | zero =>
      intro _
      rw [hst0]
      exact ⟨rfl, rfl, fun _ _ _ _ h => by simp at h, fun _ _ _ => rfl⟩
    | succ i ih =>
      intro hi
      obtain ⟨h1, o, ho, _⟩ := hst i (Nat.zero_le _) (by omega)
      rw [h1]
      refine (ih (by omega)).put (by omega) (by simp) (by simp) (fun j hj => ?_) (fun j hj hji t hd => ?_)
      · simp; omega
      · intro hd'
        have := ((b2 i o (by omega) ho).2 j t hj hd').1 (Ne.symm hji)
        simp only [dstOf, ho] at hd
        exact this hd
  refine wp_region_inv (I := fun listed a' w' =>
    ((∀ t, n ≤ t → listed.getD t false = false) ∧ (∀ i, listed.getD i false = true → ∀ o, l.toArray[i]? = some o → ∀ e ∈ o.after, Region.binds .any e = true → listed.getD e.on false = true) ∧
      Agree l.toArray n vs a (fun j => listed.getD j false) a' ∧ C w') ∨
    (∃ m, n ≤ m ∧ m ≤ l.length ∧ (∀ j, j < l.length → listed.getD j false = decide (j < m)) ∧ wpList P l.toArray Q (l.drop m) a' w')) hm ?_ ?_ ?_
  · refine .inl ⟨fun t _ => ?_, fun i hi => ?_, ⟨rfl, rfl, fun _ _ _ _ h => ?_, fun _ _ _ => rfl⟩, hC⟩
    · simp [Array.getElem?_replicate]
      split <;> rfl
    · exfalso
      simp [Array.getElem?_replicate] at hi
      split at hi <;> cases hi
    · exfalso
      simp [Array.getElem?_replicate] at h
      split at h <;> cases h
  · intro listed a' w' i hsz hI hi
    obtain ⟨hun, o, ho, hall⟩ := mem_ready.1 hi
    have hil : i < l.length := by simpa using (Array.getElem?_eq_some_iff.1 ho).1
    have hun' : listed.getD i false = false := by rw [← getD_ft (by rw [hsz]; simpa using hil)]; exact hun
    have hw8 : ∀ j, waits l.toArray i j = true → listed.getD j false = true := fun j hj => by
      obtain ⟨o', ho', e, he, hb, hon⟩ := waits_spec hj
      have : o' = o := Option.some.inj (ho'.symm.trans ho)
      subst this
      rw [← hon]; exact hall e he hb
    have two : ∀ m, n ≤ m → m ≤ l.length → (∀ j, j < l.length → listed.getD j false = decide (j < m)) → wpList P l.toArray Q (l.drop m) a' w' →
        wpOp P l.toArray Q i (fun a'' w'' => (∃ m, n ≤ m ∧ m ≤ l.length ∧ (∀ j, j < l.length → (listed.setIfInBounds i true).getD j false = decide (j < m)) ∧ wpList P l.toArray Q (l.drop m) a'' w'')) a' w' := by
      intro m hnm hml hlist hw
      have him : i = m := by
        have h1 : ¬ i < m := fun hlt => by have := hlist i hil; rw [hun'] at this; simp at this; omega
        rcases Nat.lt_or_ge m i with h2 | h2
        · have h3 := hw8 (i - 1) (b5 i (by omega) (by simpa using hil))
          have h4 := hlist (i - 1) (by omega)
          rw [h3] at h4; simp at h4; omega
        · omega
      subst him
      have hd : l.drop i = o :: l.drop (i + 1) := by
        have ho' : l[i] = o := by
          have := (Array.getElem?_eq_some_iff.1 ho).2
          simpa using this
        rw [← ho']; exact List.drop_eq_getElem_cons hil
      rw [hd] at hw
      have hw' : wpOp P l.toArray Q i (wpList P l.toArray Q (l.drop (i + 1))) a' w' := by
        unfold wpOp; simp only [ho]; exact hw
      refine wpOp_mono (fun a'' w'' h'' => ⟨i + 1, by omega, by omega, fun j hj => ?_, h''⟩) hw'
      by_cases hji : j = i
      · subst hji
        have : j < listed.size := by rw [hsz]; simpa using hil
        simp [this]
      · have hne : i ≠ j := Ne.symm hji
        have h9 := hlist j hj
        simp only [Array.getD_eq_getD_getElem?] at h9 ⊢
        rw [Array.getElem?_setIfInBounds_ne hne, h9]
        by_cases hjl : j < i
        · simp [hjl]; omega
        · simp [hjl]; omega
    rcases hI with ⟨hno, hdc, hA, hCw⟩ | ⟨m, hnm, hml, hlist, hw⟩
    · by_cases hin : i < n
      · obtain ⟨_, o', ho', hy⟩ := hst i (Nat.zero_le _) hin
        have : o' = o := Option.some.inj (ho'.symm.trans ho)
        subst this
        obtain ⟨b21, b22⟩ := b2 i o' hin ho
        have hev := hA.eval (hag i (by omega)) (o := o') b21 (fun j hj t hd ht => by
          obtain ⟨_, c2⟩ := b22 j t hj hd
          obtain ⟨c3, c4⟩ := c2 ht
          rcases Nat.lt_trichotomy j i with h1 | h1 | h1
          · simp only [h1, decide_true]; exact hw8 j (c3 h1)
          · subst h1; simp only [Nat.lt_irrefl, decide_false]; exact hun'
          · have : ¬ j < i := by omega
            simp only [this, decide_false]
            cases hl : listed.getD j false with
            | false => rfl
            | true =>
              obtain ⟨oj, hoj, e, he, hb, hon⟩ := waits_spec (c4 h1)
              have := hdc j hl oj hoj e he hb
              rw [hon, hun'] at this; cases this)
        have hy' : YieldsIn P l.toArray C o' (vs i) a' := hy.of_same hev.1 hev.2
        have hq : qOp P l.toArray C i (fun a'' => a'' = a'.put o'.dst (vs i)) a' := hy'.qOp ho rfl
        refine wpOp_of_qOp hCw (fun a'' w'' hCw'' he => ?_) hq
        subst he
        refine .inl ⟨fun t ht => ?_, fun k hk ok hok e he hb => ?_, ?_, hCw''⟩
        · have hne : i ≠ t := by omega
          have h9 := hno t ht
          simp only [Array.getD_eq_getD_getElem?] at h9 ⊢
          rw [Array.getElem?_setIfInBounds_ne hne]; exact h9
        · have hset : ∀ j, listed.getD j false = true → (listed.setIfInBounds i true).getD j false = true := fun j hj => by
            by_cases hji : i = j
            · subst hji; rw [hun'] at hj; cases hj
            · simp only [Array.getD_eq_getD_getElem?] at hj ⊢
              rw [Array.getElem?_setIfInBounds_ne hji]; exact hj
          by_cases hki : i = k
          · subst hki
            have : ok = o' := Option.some.inj (hok.symm.trans ho)
            subst this
            exact hset _ (hall e he hb)
          · refine hset _ (hdc k ?_ ok hok e he hb)
            simp only [Array.getD_eq_getD_getElem?] at hk ⊢
            rw [Array.getElem?_setIfInBounds_ne hki] at hk; exact hk
        · have hdo : o'.dst = dstOf l.toArray i := by simp [dstOf, ho]
          rw [hdo]
          refine hA.put hin hun' ?_ (fun j hj => ?_) (fun j hj hji t hd hd' => ?_)
          · have : i < listed.size := by rw [hsz]; simpa using hil
            simp [this]
          · have hne : i ≠ j := Ne.symm hj
            simp only [Array.getD_eq_getD_getElem?]
            rw [Array.getElem?_setIfInBounds_ne hne]
          · have := (b22 j t hj hd').1 (Ne.symm hji)
            rw [← hdo] at hd
            exact this hd
      · have hin2 : i = n := by
          rcases Nat.lt_or_ge n i with h1 | h1
          · have h2 := hw8 (i - 1) (b5 i h1 (by simpa using hil))
            rw [hno (i - 1) (by omega)] at h2; cases h2
          · omega
        have hall2 : ∀ j, j < i → listed.getD j false = true := by
          have key : ∀ d j, i - j = d → j < i → listed.getD j false = true := by
            intro d
            induction d using Nat.strongRecOn with
            | _ d ih =>
              intro j hd hj
              obtain ⟨k, hjk, hkn, hw⟩ := b3 (by simpa [hin2] using hil) j (by omega)
              by_cases hki : k = i
              · subst hki; exact hw8 j hw
              · have hk := ih (i - k) (by omega) k rfl (by omega)
                obtain ⟨ok, hok, e, he, hb, hon⟩ := waits_spec hw
                rw [← hon]; exact hdc k hk ok hok e he hb
          exact fun j hj => key _ j rfl hj
        have hae : a' = st n := hA.eq (hag n (Nat.le_refl _)) fun j hj => by
          rw [hall2 j (by omega)]; simp [hj]
        refine wpOp_mono (fun a'' w'' h'' => .inr h'') (two n (Nat.le_refl _) (by omega) (fun j hj => ?_) (by rw [hae]; exact hK w' hCw))
        by_cases hjn : j < n
        · rw [hall2 j (by omega)]; simp [hjn]
        · rw [hno j (by omega)]; simp [hjn]
    · exact wpOp_mono (fun a'' w'' h'' => .inr h'') (two m hnm hml hlist hw)
  · intro listed a' w' hsz hI hr
    have hsz' : listed.size = l.length := by rw [hsz]; simp
    rcases hI with ⟨hno, hdc, hA, hCw⟩ | ⟨m, hnm, hml, hlist, hw⟩
    · have hall : ∀ i, i < l.length → listed.getD i false = true := by
        intro i
        induction i using Nat.strongRecOn with
        | _ i ih =>
          intro hi
          cases hl : listed.getD i false with
          | true => rfl
          | false =>
            have := mem_ready_of (ops := l.toArray) hsz (by simpa using hi) hl (fun j hj => ih j hj (by omega)) (fun o ho e he hb => b1 i o ho e he hb)
            rw [hr] at this; cases this
      have hn : n = l.length := by
        rcases Nat.lt_or_ge n l.length with h1 | h1
        · have := hall n h1
          rw [hno n (Nat.le_refl _)] at this; cases this
        · omega
      have hae : a' = st n := hA.eq (hag n (Nat.le_refl _)) fun j hj => by
        rw [hall j (by omega)]; simp [hj]
      have := hK w' hCw
      rw [hae]
      rw [hn, List.drop_length] at this
      rw [hn]
      exact this
    · have hml' : m = l.length := by
        rcases Nat.lt_or_ge m l.length with h1 | h1
        · have := mem_ready_of (ops := l.toArray) hsz (by simpa using h1) (by rw [hlist m h1]; simp) (fun j hj => by rw [hlist j (by omega)]; simp [hj]) (fun o ho e he hb => b1 m o ho e he hb)
          rw [hr] at this; cases this
        · omega
      rw [hml', List.drop_length] at hw
      exact hw
end
end

section
open Go

def u8v (x : UInt8) : Value := .int .u8 (x.toNat : Int)
def u32v (x : UInt32) : Value := .int .u32 (x.toNat : Int)

theorem u8_lt (x : UInt8) : (x.toNat : Int) < 256 := by have := x.toNat_lt; omega
theorem u32_lt (x : UInt32) : (x.toNat : Int) < 4294967296 := by have := x.toNat_lt; omega

theorem bits_u32 (a b : Nat) (ha : a < 4294967296) (hb : b < 4294967296) :
    bits .xor .u32 a b = ((a ^^^ b : Nat) : Int) ∧ bits .or .u32 a b = ((a ||| b : Nat) : Int) ∧ bits .and .u32 a b = ((a &&& b : Nat) : Int) := by
  have h1 : a ^^^ b < 2 ^ 32 := Nat.xor_lt_two_pow (by omega) (by omega)
  have h2 : a ||| b < 2 ^ 32 := Nat.or_lt_two_pow (by omega) (by omega)
  have h3 : a &&& b < 2 ^ 32 := Nat.and_lt_two_pow _ (by omega)
  have ea : (BitVec.ofInt 32 (a : Int)).toNat = a := by simp; omega
  have eb : (BitVec.ofInt 32 (b : Int)).toNat = b := by simp; omega
  refine ⟨?_, ?_, ?_⟩
  · change IntKind.u32.wrap ((BitVec.ofInt 32 (a : Int) ^^^ BitVec.ofInt 32 (b : Int)).toNat : Int) = _
    rw [BitVec.toNat_xor, ea, eb, IntKind.wrap_u32']; omega
  · change IntKind.u32.wrap ((BitVec.ofInt 32 (a : Int) ||| BitVec.ofInt 32 (b : Int)).toNat : Int) = _
    rw [BitVec.toNat_or, ea, eb, IntKind.wrap_u32']; omega
  · change IntKind.u32.wrap ((BitVec.ofInt 32 (a : Int) &&& BitVec.ofInt 32 (b : Int)).toNat : Int) = _
    rw [BitVec.toNat_and, ea, eb, IntKind.wrap_u32']; omega

theorem bits_u8 (a b : Nat) (ha : a < 256) (hb : b < 256) :
    bits .xor .u8 a b = ((a ^^^ b : Nat) : Int) ∧ bits .or .u8 a b = ((a ||| b : Nat) : Int) ∧ bits .and .u8 a b = ((a &&& b : Nat) : Int) := by
  have h1 : a ^^^ b < 2 ^ 8 := Nat.xor_lt_two_pow (by omega) (by omega)
  have h2 : a ||| b < 2 ^ 8 := Nat.or_lt_two_pow (by omega) (by omega)
  have h3 : a &&& b < 2 ^ 8 := Nat.and_lt_two_pow _ (by omega)
  have ea : (BitVec.ofInt 8 (a : Int)).toNat = a := by simp; omega
  have eb : (BitVec.ofInt 8 (b : Int)).toNat = b := by simp; omega
  refine ⟨?_, ?_, ?_⟩
  · change IntKind.u8.wrap ((BitVec.ofInt 8 (a : Int) ^^^ BitVec.ofInt 8 (b : Int)).toNat : Int) = _
    rw [BitVec.toNat_xor, ea, eb, IntKind.wrap_u8']; omega
  · change IntKind.u8.wrap ((BitVec.ofInt 8 (a : Int) ||| BitVec.ofInt 8 (b : Int)).toNat : Int) = _
    rw [BitVec.toNat_or, ea, eb, IntKind.wrap_u8']; omega
  · change IntKind.u8.wrap ((BitVec.ofInt 8 (a : Int) &&& BitVec.ofInt 8 (b : Int)).toNat : Int) = _
    rw [BitVec.toNat_and, ea, eb, IntKind.wrap_u8']; omega

theorem xor_u32 (x y : UInt32) : bits .xor .u32 x.toNat y.toNat = ((x ^^^ y).toNat : Int) := by
  rw [(bits_u32 _ _ x.toNat_lt y.toNat_lt).1, UInt32.toNat_xor]
theorem add_u32 (x y : UInt32) : IntKind.u32.wrap ((x.toNat : Int) + y.toNat) = ((x + y).toNat : Int) := by
  rw [IntKind.wrap_u32', UInt32.toNat_add]; omega
theorem sub_u32 (x y : UInt32) : IntKind.u32.wrap ((x.toNat : Int) - y.toNat) = ((x - y).toNat : Int) := by
  have h1 := x.toNat_lt
  have h2 := y.toNat_lt
  rw [IntKind.wrap_u32', UInt32.toNat_sub]; omega
theorem xor_u8 (x y : UInt8) : bits .xor .u8 x.toNat y.toNat = ((x ^^^ y).toNat : Int) := by
  rw [(bits_u8 _ _ x.toNat_lt y.toNat_lt).1, UInt8.toNat_xor]

def add32 (x y : UInt32) : UInt32 := x + y
def sub32 (x y : UInt32) : UInt32 := x - y
def xor32 (x y : UInt32) : UInt32 := x ^^^ y
def xor8 (x y : UInt8) : UInt8 := x ^^^ y
theorem add32_w (x y : UInt32) : IntKind.u32.wrap ((x.toNat : Int) + y.toNat) = ((add32 x y).toNat : Int) := add_u32 x y
theorem sub32_w (x y : UInt32) : IntKind.u32.wrap ((x.toNat : Int) - y.toNat) = ((sub32 x y).toNat : Int) := sub_u32 x y
theorem add32_m (x y : UInt32) : ((x.toNat : Int) + y.toNat) % 4294967296 = ((add32 x y).toNat : Int) := by rw [← add32_w, IntKind.wrap_u32']
theorem sub32_m (x y : UInt32) : ((x.toNat : Int) - y.toNat) % 4294967296 = ((sub32 x y).toNat : Int) := by rw [← sub32_w, IntKind.wrap_u32']
theorem xor32_b (x y : UInt32) : bits .xor .u32 x.toNat y.toNat = ((xor32 x y).toNat : Int) := xor_u32 x y
theorem xor8_b (x y : UInt8) : bits .xor .u8 x.toNat y.toNat = ((xor8 x y).toNat : Int) := xor_u8 x y

/-- rotate left, k < 32 -/
def rotl (x : UInt32) (k : Nat) : UInt32 := UInt32.ofNat ((x.toNat * 2 ^ k % 4294967296) ||| (x.toNat / 2 ^ (32 - k)))

theorem rotl_nat (x : UInt32) (k : Nat) : ((rotl x k).toNat : Int) = (((x.toNat * 2 ^ k % 4294967296) ||| (x.toNat / 2 ^ (32 - k)) : Nat) : Int) := by
  unfold rotl
  have h1 : x.toNat / 2 ^ (32 - k) < 2 ^ 32 := Nat.lt_of_le_of_lt (Nat.div_le_self _ _) x.toNat_lt
  have h2 : x.toNat * 2 ^ k % 4294967296 < 2 ^ 32 := Nat.mod_lt _ (by omega)
  have h3 := Nat.or_lt_two_pow h2 h1
  rw [UInt32.toNat_ofNat']
  omega
end

section
open Go Go.RowKit

theorem hid {p : Prop} (h : p) : Hid p := h

/-- block g holds just these cells, none frozen -/
def Blk (w : World) (g : Nat) (vs : List Value) (T : TypeId) : Prop := w.heap[g]? = some (.cells vs.toArray T (0, 0))

theorem Blk.lt {w : World} {g : Nat} {vs : List Value} {T : TypeId} (h : Blk w g vs T) : g < w.heap.size := by
  unfold Blk at h
  exact (Array.getElem?_eq_some_iff.1 h).1

theorem Blk.cell {w : World} {g : Nat} {vs : List Value} {T : TypeId} (h : Blk w g vs T) {i : Nat} (hi : i < vs.length) : w.cell? ⟨g, i, none⟩ = some vs[i] := by
  unfold Blk at h
  simp [World.cell?, h, hi]

theorem Blk.cell' {w : World} {g : Nat} {vs : List Value} {T : TypeId} (h : Blk w g vs T) {i : Nat} {v : Value} (hi : vs[i]? = some v) : w.cell? ⟨g, i, none⟩ = some v := by
  unfold Blk at h
  simp [World.cell?, h, hi]

theorem Blk.frozen {w : World} {g : Nat} {vs : List Value} {T : TypeId} (h : Blk w g vs T) (i : Nat) : w.frozen? ⟨g, i, none⟩ = false := by
  unfold Blk at h
  simp [World.frozen?, h]

theorem Blk.below {w w' : World} {B g : Nat} {vs : List Value} {T : TypeId} (h : Blk w g vs T) (hb : Below B w w') (hg : g < B) : Blk w' g vs T := by
  unfold Blk at *
  rw [hb.block g hg]; exact h

theorem Blk.drew {w : World} {g : Nat} {vs : List Value} {T : TypeId} (h : Blk w g vs T) : Blk w.drew g vs T := h
theorem Blk.drewN {w : World} {g n : Nat} {vs : List Value} {T : TypeId} (h : Blk w g vs T) : Blk (w.drewN n) g vs T := h

theorem Blk.alloc_new (w : World) (vs : List Value) (T : TypeId) : Blk (w.alloc (.cells vs.toArray T)) w.heap.size vs T := by
  unfold Blk
  show (w.heap.push _)[w.heap.size]? = _
  simp

theorem Blk.mk_alloc {w : World} {arr : Array Value} {vs : List Value} {T : TypeId} {n : Nat} (hn : n = w.heap.size) (ha : vs.toArray = arr) : Blk (w.alloc (.cells arr T)) n vs T := by
  subst hn; subst ha; exact Blk.alloc_new _ _ _

theorem Blk.alloc {w : World} {g : Nat} {vs : List Value} {T : TypeId} (h : Blk w g vs T) (o : Obj) : Blk (w.alloc o) g vs T := by
  have := h.lt
  unfold Blk at *
  show (w.heap.push _)[g]? = _
  rw [Array.getElem?_push, if_neg (by omega)]; exact h

theorem Blk.set {w : World} {g : Nat} {vs : List Value} {T : TypeId} (h : Blk w g vs T) (i : Nat) (v : Value) : Blk (w.setCell ⟨g, i, none⟩ v) g (vs.set i v) T := by
  unfold Blk at *
  simp only [World.setCell, Array.getElem?_modify, if_true, h, Option.map_some]
  simp

theorem Blk.set_other {w : World} {g : Nat} {vs : List Value} {T : TypeId} (h : Blk w g vs T) (a : Addr) (v : Value) (hn : g ≠ a.block) : Blk (w.setCell a v) g vs T := by
  unfold Blk at *
  rw [Below.heap_setCell _ _ _ _ hn]; exact h

/-- a type of arrays or structs, of n cells -/
def AggT (P : Program) (ty : TypeId) (n : Nat) : Prop := (∃ d, P.underlying ty = some d ∧ (match d with | .struct _ | .array _ _ => true | _ => false) = true) ∧ (P.info? ty).map (·.size) = some n

/-- the end of a function whose result lies in a block of its own -/
theorem ret_row {P : Program} {fn : Func} {R : Ending → World → Prop} {a : Act} {w : World} {p : Tmp} {ty : TypeId} {g : Nat} {vs : List Value} {T : TypeId}
    (hres : fn.results = #[.cell p ty]) (hp : a.tmps.getD p undef = .pointer (some ⟨g, 0, none⟩)) (hb : Blk w g vs T)
    {n : Nat} (ht : AggT P ty n) (hn : vs.length = n)
    (hdef : a.defers = []) (hR : R (.returned (.agg vs.toArray)) w) : bodyPost P fn R .ret a w := by
  obtain ⟨⟨d, hu, hd⟩, hi⟩ := ht
  exact bodyPost_ret (results_cell_row hres a.tmps w g T vs.toArray (0, 0) d hp hb hu (by cases d <;> simp_all) (by rw [hi, ← hn]; simp)) hdef hR

/-- nothing that was there has turned -/
abbrev Ext (W w : World) : Prop := Below W.heap.size W w
theorem Ext.refl (w : World) : Ext w w := Below.refl _ _
theorem Ext.alloc {W w : World} (h : Ext W w) (o : Obj) : Ext W (w.alloc o) := Below.alloc h h.size o
theorem Ext.set {W w : World} (h : Ext W w) {p : Addr} (v : Value) (hp : W.heap.size ≤ p.block) : Ext W (w.setCell p v) := Below.setCell h hp v
theorem Ext.drew {W w : World} (h : Ext W w) : Ext W w.drew := Below.drew h
theorem Ext.drewN {W w : World} (h : Ext W w) (n : Nat) : Ext W (w.drewN n) := ⟨h.os, h.tape, h.output, h.size, h.block⟩
theorem Ext.ext {W w w' : World} (h : Ext W w) (k : Ext w w') : Ext W w' := Below.trans h (k.mono h.size)
theorem Blk.ext {w w' : World} {g : Nat} {vs : List Value} {T : TypeId} (h : Blk w g vs T) (k : Ext w w') : Blk w' g vs T := h.below k h.lt

/-- only block g has turned, and there are no new ones -/
structure Upd (w : World) (g : Nat) (w' : World) : Prop where
  os : w'.os = w.os
  tape : w'.tape = w.tape
  output : w'.output = w.output
  size : w'.heap.size = w.heap.size
  block : ∀ k, k ≠ g → w'.heap[k]? = w.heap[k]?

theorem Upd.ext {W w w' : World} {g : Nat} (h : Ext W w) (k : Upd w g w') (hg : W.heap.size ≤ g) : Ext W w' :=
  ⟨k.os.trans h.os, k.tape.trans h.tape, k.output.trans h.output, by rw [k.size]; exact h.size, fun i hi => (k.block i (by omega)).trans (h.block i hi)⟩
theorem Blk.upd {w w' : World} {k g : Nat} {vs : List Value} {T : TypeId} (h : Blk w k vs T) (u : Upd w g w') (hn : k ≠ g) : Blk w' k vs T := by
  unfold Blk at *; rw [u.block k hn]; exact h
theorem Upd.setRow {w : World} {g : Nat} (cs : Array Value) : Upd w g (w.setRow g cs) :=
  ⟨rfl, rfl, rfl, by simp, fun k hk => setRow_other w g k cs hk⟩
theorem Upd.setCell {w : World} {g i : Nat} (v : Value) : Upd w g (w.setCell ⟨g, i, none⟩ v) :=
  ⟨rfl, rfl, rfl, by simp [World.setCell], fun k hk => Below.heap_setCell _ _ _ _ hk⟩
theorem Blk.setRow {w : World} {g : Nat} {vs : List Value} {T : TypeId} (h : Blk w g vs T) (vs' : List Value) : Blk (w.setRow g vs'.toArray) g vs' T :=
  setRow_heap w g vs.toArray vs'.toArray T (0, 0) h
theorem Upd.refl (w : World) (g : Nat) : Upd w g w := ⟨rfl, rfl, rfl, rfl, fun _ _ => rfl⟩
theorem Upd.trans {a b c : World} {g : Nat} (h : Upd a g b) (k : Upd b g c) : Upd a g c :=
  ⟨k.os.trans h.os, k.tape.trans h.tape, k.output.trans h.output, k.size.trans h.size, fun i hi => (k.block i hi).trans (h.block i hi)⟩

def splice (vs : List Value) (o : Nat) (xs : List Value) : List Value := vs.take o ++ xs ++ vs.drop (o + xs.length)

section
variable {P : Program} {ops : Array Oper} {rest : List Oper} {o : Oper} {a : Act} {w : World} {Q : Exit → Act → World → Prop}

theorem run_load_sub {g off n : Nat} {vs : List Value} {T ty : TypeId} (hb : Blk w g vs T) (ht : AggT P ty n) (hn : off + n ≤ vs.length) :
    (loadVar ty ⟨g, off, none⟩).run P w = .ok (.agg ((vs.drop off).take n).toArray) w := by
  obtain ⟨⟨d, hu, hd⟩, hi⟩ := ht
  have hlen : ((vs.drop off).take n).length = n := by simp; omega
  have hl : (loadCells ⟨g, off, none⟩ ((vs.drop off).take n).length).run P w = .ok ((vs.drop off).take n).toArray w :=
    run_loadCells_list (P := P) w ⟨g, off, none⟩ _ (fun j v hv => by
      have hj : j < n := by
        have := (List.getElem?_eq_some_iff.1 hv).1
        omega
      have hadd : (⟨g, off, none⟩ : Addr).add j = ⟨g, off + j, none⟩ := by unfold Addr.add; split <;> simp_all
      rw [hadd]
      refine hb.cell' ?_
      rw [List.getElem?_take_of_lt hj, List.getElem?_drop] at hv
      exact hv)
  rw [hlen] at hl
  cases hq : P.info? ty with
  | none => simp [hq] at hi
  | some i =>
    have hs : i.size = n := by simpa [hq] using hi
    have hagg : (isAgg ty).run P w = .ok true w := by
      unfold isAgg
      rw [Sem.run_bind, run_underlying hu w]
      cases d <;> simp_all
    simp [loadVar, Sem.run_bind, hagg, sizeOf, typeInfo, hq, hs, hl]

theorem run_store_sub {g off : Nat} {vs xs : List Value} {T ty : TypeId} (hb : Blk w g vs T) (ht : AggT P ty xs.length) (hn : off + xs.length ≤ vs.length) (h1 : ∀ v ∈ xs, v.oneCell' = true) :
    (storeVar ty ⟨g, off, none⟩ (.agg xs.toArray)).run P w = .ok () (w.setRow g (splice vs off xs).toArray) := by
  obtain ⟨_, hi⟩ := ht
  have hst := run_storeCells_at P g off T xs 0 vs.toArray w hb (by simpa using hn) h1
  cases hq : P.info? ty with
  | none => simp [hq] at hi
  | some i =>
    have hs : xs.length = i.size := by simp [hq] at hi; omega
    simp only [Nat.add_zero, List.toList_toArray] at hst
    simp [storeVar, sizeOf, typeInfo, hq, Value.cells, hs, hst, splice]

theorem wpl_load (hgd : o.guard = none) (ty : TypeId) (x : Operand) (ho : o.op = .load ty x) {g off n : Nat} {vs : List Value} {T : TypeId}
    (hx : a.eval x = .pointer (some ⟨g, off, none⟩)) (hb : Blk w g vs T) (ht : AggT P ty n) (hn : off + n ≤ vs.length)
    (h : wpList P ops Q rest (a.put o.dst (.agg ((vs.drop off).take n).toArray)) w) : wpList P ops Q (o :: rest) a w :=
  wpList_plain hgd fun K hK => by
    unfold Oper.wp execOp
    simp only [ho, hx, Instr.loadAt, Instr.sureAddr, Sem.run_bind, Sem.run_pure, Result.andThen_ok, run_load_sub hb ht hn]
    exact hK _ _ h

/-- a whole block -/
theorem wpl_loadw (hgd : o.guard = none) (ty : TypeId) (x : Operand) (ho : o.op = .load ty x) {g : Nat} {vs : List Value} {T : TypeId}
    (hx : a.eval x = .pointer (some ⟨g, 0, none⟩)) (hb : Blk w g vs T) {n : Nat} (ht : AggT P ty n) (hn : vs.length = n)
    (h : wpList P ops Q rest (a.put o.dst (.agg vs.toArray)) w) : wpList P ops Q (o :: rest) a w := by
  subst hn
  exact wpl_load hgd ty x ho hx hb ht (by omega) (by simpa using h)

theorem wpl_store (hgd : o.guard = none) (ty : TypeId) (x y : Operand) (ho : o.op = .store ty x y) {g off : Nat} {vs xs : List Value} {T : TypeId}
    (hx : a.eval x = .pointer (some ⟨g, off, none⟩)) (hy : a.eval y = .agg xs.toArray) (hb : Blk w g vs T) (ht : AggT P ty xs.length) (hn : off + xs.length ≤ vs.length)
    (h1 : ∀ v ∈ xs, v.oneCell' = true)
    (h : ∀ w', Blk w' g (splice vs off xs) T → Upd w g w' → wpList P ops Q rest (a.put o.dst undef) w') : wpList P ops Q (o :: rest) a w :=
  wpList_plain hgd fun K hK => by
    unfold Oper.wp execOp
    simp only [ho, hx, hy, Instr.storeAt, Instr.sureAddr, Sem.run_bind, Sem.run_pure, Result.andThen_ok, run_store_sub hb ht hn h1]
    exact hK _ _ (h _ (hb.setRow _) (Upd.setRow _))

theorem wpl_storew (hgd : o.guard = none) (ty : TypeId) (x y : Operand) (ho : o.op = .store ty x y) {g : Nat} {vs xs : List Value} {T : TypeId}
    (hx : a.eval x = .pointer (some ⟨g, 0, none⟩)) (hy : a.eval y = .agg xs.toArray) (hb : Blk w g vs T) {n : Nat} (ht : AggT P ty n) (hv : vs.length = n) (hn : xs.length = n)
    (h1 : ∀ v ∈ xs, v.oneCell' = true)
    (h : ∀ w', Blk w' g xs T → Upd w g w' → wpList P ops Q rest (a.put o.dst undef) w') : wpList P ops Q (o :: rest) a w :=
  wpl_store hgd ty x y ho hx hy hb (by rw [hn]; exact ht) (by omega) h1 fun w' hb' hu => h w' (by
    have : splice vs 0 xs = xs := by simp [splice, hn, hv]
    rwa [this] at hb') hu

/-- copy into a block of which all is known -/
theorem wpl_copy (hgd : o.guard = none) (dT sT : TypeId) (x y : Operand) (ho : o.op = .call { callee := .builtin .copy, args := #[x, y], argTypes := #[dT, sT] }) {g off dLen dCap sLen sCap : Nat} {sa : Addr} {vs cs : List Value} {T elem : TypeId}
    (hx : a.eval x = .slice (some ⟨g, off, none⟩) dLen dCap) (hy : a.eval y = .slice (some sa) sLen sCap) (hb : Blk w g vs T)
    (hu : P.underlying dT = some (.slice elem)) (hs : (P.info? elem).map (·.size) = some 1) (hn : cs.length = Nat.min sLen dLen)
    (hsrc : ∀ j v, cs[j]? = some v → w.cell? (sa.add j) = some v) (hfit : off + cs.length ≤ vs.length) (h1 : ∀ v ∈ cs, v.oneCell' = true)
    (h : ∀ w', Blk w' g (splice vs off cs) T → Upd w g w' → wpList P ops Q rest (a.put o.dst (.int .i64 cs.length)) w') : wpList P ops Q (o :: rest) a w :=
  wpList_plain hgd fun K hK => by
    have hr := run_copy_row (P := P) w dT sT o.type elem g off dLen dCap sa sLen sCap vs.toArray T cs hu hs hb hn hsrc (by simpa using hfit) h1
    unfold Oper.wp execOp
    simp only [ho, resolve, Sem.run_bind, Sem.run_pure, Result.andThen_ok, invoke, builtin]
    have e : (#[x, y].map a.eval) = #[.slice (some ⟨g, off, none⟩) dLen dCap, .slice (some sa) sLen sCap] := by simp [hx, hy]
    rw [e, hr]
    simp only [Result.andThen_ok, Sem.run_pure, Oper.upon]
    refine hK _ _ (h _ ?_ (Upd.setRow _))
    have := hb.setRow (splice vs off cs)
    simpa [splice] using this

theorem run_arrayAt {T e : TypeId} {n : Nat} (hu : P.underlying T = some (.array n e)) {len : Nat} (hl : n ≤ len) (x : Option Addr) (c : Nat) (w : World) :
    (Instr.arrayAt T (.slice x len c)).run P w = .ok (.pointer x) w := by
  simp [Instr.arrayAt, run_underlying hu, Nat.not_lt.2 hl]

/-- a type of one cell that is no array and no struct -/
def OneT (P : Program) (ty : TypeId) : Prop := (∃ d, P.underlying ty = some d ∧ (match d with | .struct _ | .array _ _ => true | _ => false) = false) ∧ (P.info? ty).map (·.size) = some 1

theorem run_index_arr {T e : TypeId} {n : Nat} {cs : Array Value} {v : Value} (hu : P.underlying T = some (.array n e)) (he : OneT P e) (i : Nat) (hi : i < n) (hv : cs[i]? = some v) (w : World) :
    (Instr.index T (.agg cs) (.int .i64 (i : Int))).run P w = .ok v w := by
  obtain ⟨⟨d, hd, hdd⟩, hs⟩ := he
  cases hq : P.info? e with
  | none => simp [hq] at hs
  | some inf =>
    have hs' : inf.size = 1 := by simpa [hq] using hs
    have hagg : (isAgg e).run P w = .ok false w := by
      unfold isAgg
      rw [Sem.run_bind, run_underlying hd w]
      cases d <;> simp_all
    have h0 : (0 : Int) ≤ i ∧ (i : Int) < n := by omega
    simp [Instr.index, asIntOf, run_underlying hu, part, sizeOf, typeInfo, hq, hs', hagg, hv, hi]

/-- In every world of the class the load yields the same. -/
theorem quiet_loadw {C : World → Prop} {K : Act → Prop} (ty : TypeId) (x : Operand) (ho : o.op = .load ty x) {g off n : Nat} {vs : List Value} {T : TypeId}
    (hx : a.eval x = .pointer (some ⟨g, off, none⟩)) (hb : ∀ w, C w → Blk w g vs T) (ht : AggT P ty n) (hn : off + n ≤ vs.length)
    (h : K (a.put o.dst (.agg ((vs.drop off).take n).toArray))) : o.quiet P a C K :=
  ⟨_, fun w hw => by
    unfold Oper.quietAt execOp
    simp only [ho, hx, Instr.loadAt, Instr.sureAddr, Sem.run_bind, Sem.run_pure, Result.andThen_ok, run_load_sub (hb w hw) ht hn]
    exact ⟨rfl, rfl⟩, h⟩
end

theorem below_refl (w : World) : Below w.heap.size w w := Below.refl _ _

/-- old cells and marks read as before -/
theorem bcell {B : Nat} {W w1 : World} (hb : Below B W w1) : (∀ b o, b < B → w1.cell? ⟨b, o, none⟩ = W.cell? ⟨b, o, none⟩) ∧ (∀ b o, b < B → w1.frozen? ⟨b, o, none⟩ = W.frozen? ⟨b, o, none⟩) :=
  ⟨fun b o h => hb.cell (p := ⟨b, o, none⟩) h, fun b o h => hb.frozen (p := ⟨b, o, none⟩) h⟩

theorem one_u8 (l : List UInt8) : ∀ v ∈ l.map u8v, v.oneCell' = true := by
  intro v hv; obtain ⟨x, _, rfl⟩ := List.mem_map.1 hv; rfl
theorem one_u32 (l : List UInt32) : ∀ v ∈ l.map u32v, v.oneCell' = true := by
  intro v hv; obtain ⟨x, _, rfl⟩ := List.mem_map.1 hv; rfl

theorem ret_eq {a b : Value} (h : a = b) : Ending.returned a = Ending.returned b := by rw [h]
theorem int_eq {k : IntKind} {a b : Int} (h : a = b) : Value.int k a = Value.int k b := by rw [h]

/-- a list that is being filled from the front -/
def fill {α : Type} (f : Nat → α) (d : α) (n i : Nat) : List α := (List.range n).map fun j => if j < i then f j else d
theorem fill_length {α : Type} (f : Nat → α) (d : α) (n i : Nat) : (fill f d n i).length = n := by simp [fill]
theorem fill_get {α : Type} (f : Nat → α) (d : α) (n i j : Nat) (h : j < n) : (fill f d n i)[j]? = some (if j < i then f j else d) := by
  simp [fill, h]
theorem fill_set {α : Type} (f : Nat → α) (d : α) (n i : Nat) : (fill f d n i).set i (f i) = fill f d n (i + 1) := by
  apply List.ext_getElem?
  intro j
  by_cases hj : j < n
  · rw [fill_get _ _ _ _ _ hj, List.getElem?_set]
    by_cases hij : i = j
    · subst hij; simp [fill_length, hj]
    · rw [if_neg hij, fill_get _ _ _ _ _ hj]
      by_cases h1 : j < i
      · rw [if_pos h1, if_pos (by omega)]
      · rw [if_neg h1, if_neg (by omega)]
  · have h1 : ((fill f d n i).set i (f i)).length = n := by simp [fill_length]
    rw [List.getElem?_eq_none (by omega), List.getElem?_eq_none (by rw [fill_length]; omega)]
theorem cells32 {w : World} {g : Nat} {ws : List UInt32} {T : TypeId} (h : Blk w g (ws.map u32v) T) (n : Nat) (hn : ws.length = n) : ∀ j, j < n → w.cell? ⟨g, j, none⟩ = some (u32v (ws.getD j 0)) := by
  intro j hj
  refine h.cell' ?_
  simp [hn, hj]
theorem Blk.set32 {w : World} {g : Nat} {ws : List UInt32} {T : TypeId} (h : Blk w g (ws.map u32v) T) (i : Nat) (x : UInt32) : Blk (w.setCell ⟨g, i, none⟩ (.int .u32 (x.toNat : Nat))) g ((ws.set i x).map u32v) T := by
  have := h.set i (u32v x)
  rwa [← List.map_set] at this
theorem Blk.fill32 {w : World} {g : Nat} {f : Nat → UInt32} {n i : Nat} {T : TypeId} (h : Blk w g ((fill f 0 n i).map u32v) T) : Blk (w.setCell ⟨g, i, none⟩ (.int .u32 ((f i).toNat : Nat))) g ((fill f 0 n (i + 1)).map u32v) T := by
  have := h.set i (u32v (f i))
  rwa [← List.map_set, fill_set] at this
theorem Blk.fill8 {w : World} {g : Nat} {f : Nat → UInt8} {n i : Nat} {T : TypeId} (h : Blk w g ((fill f 0 n i).map u8v) T) : Blk (w.setCell ⟨g, i, none⟩ (.int .u8 ((f i).toNat : Nat))) g ((fill f 0 n (i + 1)).map u8v) T := by
  have := h.set i (u8v (f i))
  rwa [← List.map_set, fill_set] at this
theorem fill_splice {α : Type} (f : Nat → α) (d : α) (n a m : Nat) (g : α → Value) (h : a + m ≤ n) (xs : List α) (hx : xs = (List.range m).map fun j => f (a + j)) :
    splice ((fill f d n a).map g) a (xs.map g) = (fill f d n (a + m)).map g := by
  subst hx
  unfold splice
  have hlen : (((List.range m).map fun j => f (a + j)).map g).length = m := by simp
  rw [hlen]
  apply List.ext_getElem?
  intro j
  rw [List.getElem?_append, List.getElem?_append]
  have l1 : (((fill f d n a).map g).take a).length = a := by simp [fill_length]; omega
  rw [List.length_append, l1, hlen]
  by_cases h1 : j < a + m
  · rw [if_pos h1]
    by_cases h2 : j < a
    · rw [if_pos h2, List.getElem?_take_of_lt h2, List.getElem?_map, List.getElem?_map, fill_get _ _ _ _ _ (by omega), fill_get _ _ _ _ _ (by omega), if_pos h2, if_pos h1]
    · rw [if_neg h2, List.getElem?_map, List.getElem?_map, List.getElem?_map, fill_get _ _ _ _ _ (by omega), if_pos h1]
      simp [show j - a < m by omega, show a + (j - a) = j by omega]
  · rw [if_neg h1, List.getElem?_drop, show a + m + (j - (a + m)) = j by omega, List.getElem?_map, List.getElem?_map]
    by_cases h3 : j < n
    · rw [fill_get _ _ _ _ _ h3, fill_get _ _ _ _ _ h3, if_neg (by omega), if_neg h1]
    · rw [List.getElem?_eq_none (by rw [fill_length]; omega), List.getElem?_eq_none (by rw [fill_length]; omega)]
theorem fill_zero {α : Type} (f : Nat → α) (d : α) (n : Nat) : fill f d n 0 = List.replicate n d := by
  apply List.ext_getElem <;> simp [fill]
theorem fill_all {α : Type} (f : Nat → α) (d : α) (n i : Nat) (h : n ≤ i) : fill f d n i = (List.range n).map f := by
  unfold fill
  apply List.map_congr_left
  intro j hj
  have := List.mem_range.1 hj
  rw [if_pos (by omega)]

/-- the cells behind a slice's address -/
def Cells (w : World) (a : Option Addr) (xs : List Value) : Prop := xs = [] ∨ ∃ b off, a = some ⟨b, off, none⟩ ∧ ∀ i u, xs[i]? = some u → w.cell? ⟨b, off + i, none⟩ = some u

theorem Cells.ext {w w' : World} {a : Option Addr} {xs : List Value} (h : Cells w a xs) (k : Ext w w') : Cells w' a xs := by
  rcases h with h | ⟨b, off, ha, h⟩
  · exact .inl h
  · refine .inr ⟨b, off, ha, fun i u hu => ?_⟩
    have h1 := h i u hu
    have hb := block_lt_of_cell h1
    have := k.cell (p := ⟨b, off + i, none⟩) hb
    rw [this]; exact h1
theorem Cells.nil (w : World) (a : Option Addr) : Cells w a [] := .inl rfl
theorem Cells.of_blk {w : World} {g : Nat} {vs : List Value} {T : TypeId} (h : Blk w g vs T) (o n : Nat) : Cells w (some ⟨g, o, none⟩) ((vs.drop o).take n) := by
  refine .inr ⟨g, o, rfl, fun i u hu => h.cell' ?_⟩
  have hi : i < n := by
    have := (List.getElem?_eq_some_iff.1 hu).1
    simp at this; omega
  rw [List.getElem?_take_of_lt hi, List.getElem?_drop] at hu
  exact hu
theorem Cells.of_blk0 {w : World} {g : Nat} {vs : List Value} {T : TypeId} (h : Blk w g vs T) : Cells w (some ⟨g, 0, none⟩) vs := by
  refine .inr ⟨g, 0, rfl, fun i u hu => h.cell' (by simpa using hu)⟩
theorem Cells.part {w : World} {b o : Nat} {xs : List Value} (h : Cells w (some ⟨b, o, none⟩) xs) (k n : Nat) : Cells w (some ⟨b, o + k, none⟩) ((xs.drop k).take n) := by
  rcases h with rfl | ⟨b', o', hb, h⟩
  · left; simp
  · cases hb
    refine .inr ⟨b, o + k, rfl, fun i u hu => ?_⟩
    have hi : i < n := by
      have := (List.getElem?_eq_some_iff.1 hu).1
      simp at this; omega
    rw [List.getElem?_take_of_lt hi, List.getElem?_drop] at hu
    have := h (k + i) u hu
    rwa [← Nat.add_assoc] at this
theorem Cells.some_of {w : World} {a : Option Addr} {xs : List Value} (h : Cells w a xs) (hn : 0 < xs.length) : ∃ b off, a = some ⟨b, off, none⟩ ∧ ∀ i u, xs[i]? = some u → w.cell? ⟨b, off + i, none⟩ = some u := by
  rcases h with rfl | h
  · simp at hn
  · exact h
/-- the address of a slice's part from p on: Go's own does not point behind the array's end -/
def shift (a : Option Addr) (c p : Nat) : Option Addr := if c = p then a else a.map (·.add p)
theorem Cells.shift {w : World} {a : Option Addr} {xs : List Value} (h : Cells w a xs) (c p m : Nat) (hp : p + m ≤ c) : Cells w (shift a c p) ((xs.drop p).take m) := by
  unfold Go.Proofs.YthfddfgncolnbaaGreat.shift
  by_cases hcp : c = p
  · left
    obtain rfl : m = 0 := by omega
    simp
  · rw [if_neg hcp]
    rcases h with rfl | ⟨b, off, rfl, h⟩
    · left; simp
    · have hadd : (⟨b, off, none⟩ : Addr).add p = ⟨b, off + p, none⟩ := by unfold Addr.add; split <;> simp_all
      rw [Option.map_some, hadd]
      exact Cells.part (.inr ⟨b, off, rfl, h⟩) p m
theorem Cells.take {w : World} {a : Option Addr} {xs : List Value} (h : Cells w a xs) (n : Nat) : Cells w a (xs.take n) := by
  rcases h with rfl | ⟨b, off, ha, h⟩
  · left; simp
  · refine .inr ⟨b, off, ha, fun i u hu => h i u ?_⟩
    have hi : i < n := by
      have := (List.getElem?_eq_some_iff.1 hu).1
      simp at this; omega
    rwa [List.getElem?_take_of_lt hi] at hu

section
variable {P : Program} {ops : Array Oper} {rest : List Oper} {o : Oper} {a : Act} {w : World} {Q : Exit → Act → World → Prop}

/-- append within the capacity, as one step of a region that draws -/
theorem step_append_fits {K : Act → World → Prop} {E : Prop}
    (hg : o.guard = none) (s x : Operand) (t : TypeId) (hop : o.op = Op.call { callee := Callee.builtin Builtin.append, args := #[s, x], argTypes := #[t, t] })
    (base : Nat) (e : TypeId) (i : TypeInfo) (size : Nat) (h1 : P.underlying t = some (.slice e)) (h2 : P.info? e = some i) (h4 : i.size = size)
    (g k cap : Nat) (xs : List Value) (hs : a.eval s = .slice (some ⟨g, 0, none⟩) k cap) (hown : w.ownsRow base e size (.slice (some ⟨g, 0, none⟩) k cap) k xs) (ad : Addr) (m c : Nat) (news : List Value) (hx : a.eval x = .slice (some ad) m c) (hn : news.length = m * size)
    (hc : ∀ j u, news[j]? = some u → w.cell? (ad.add j) = some u) (h1c : ∀ u ∈ news, u.oneCell' = true) (b1 : k + m ≤ cap)
    (hK : ∀ w', w'.ownsRow base e size (.slice (some ⟨g, 0, none⟩) (k + m) cap) (k + m) (xs ++ news) → w.grownBy w' (some g) → K (a.put o.dst (.slice (some ⟨g, 0, none⟩) (k + m) cap)) w') :
    if Region.wanted o (yielded ops a.tmps) = true then Oper.wp P o a w K Q else E := by
  have hw : Region.wanted o (yielded ops a.tmps) = true := by simp [Region.wanted, hg]
  rw [if_pos hw]
  obtain ⟨w', hrun, r1, r2⟩ := run_append_fits (P := P) w base t o.type e i size h1 h2 h4 g k cap xs hown ad m c news hn hc h1c b1
  unfold Oper.wp
  simp [execOp, hop, resolve, invoke, builtin, hs, hx, hrun, Result.andThen]
  exact hK _ r1 r2

/-- append, as one step of a region that draws -/
theorem step_append_own {K : Act → World → Prop} {E : Prop} (hgd : o.guard = none) (s x : Operand) (t : TypeId)
    (ho : o.op = .call { callee := .builtin .append, args := #[s, x], argTypes := #[t, t] })
    (base : Nat) (e : TypeId) (i : TypeInfo) (z : Value) (size bytes : Nat) (ht : P.underlying t = some (.slice e)) (hi : P.info? e = some i) (hz : i.zero = some z)
    (hsize : i.size = size) (hby : i.bytes = bytes) (hzs : z.cells.size = size) (hsz : 0 < size)
    (v : Value) (n : Nat) (xs : List Value) (hs : a.eval s = v) (hown : w.ownsRow base e size v n xs)
    (ad : Addr) (m c : Nat) (news : List Value) (hx : a.eval x = .slice (some ad) m c) (hl : news.length = m * size) (hnews : ∀ j u, news[j]? = some u → w.cell? (ad.add j) = some u) (h1 : ∀ u ∈ news, u.oneCell' = true)
    (h63 : n + m ≤ maxLen) (hbytes : (n + m) * bytes ≤ 140737488355328) (hbase : base ≤ w.heap.size)
    (h : ∀ v' w', w'.ownsRow base e size v' (n + m) (xs ++ news) → w.grownBy w' v.ownBlock → (v' = .slice none 0 0 ↔ v = .slice none 0 0 ∧ m = 0) → K (a.put o.dst v') w') :
    if Region.wanted o (yielded ops a.tmps) = true then Oper.wp P o a w K Q else E := by
  have hw : Region.wanted o (yielded ops a.tmps) = true := by simp [Region.wanted, hgd]
  rw [if_pos hw]
  exact wp_append_own w s x t ho base e i z size bytes ht hi hz hsize hby hzs hsz v n xs hs hown ad m c news hx hl hnews h1 h63 hbytes hbase h
end

theorem news_blk {w : World} {g : Nat} {vs : List Value} {T : TypeId} (h : Blk w g vs T) : ∀ j u, vs[j]? = some u → w.cell? ((⟨g, 0, none⟩ : Addr).add j) = some u := by
  intro j u hu
  have hadd : (⟨g, 0, none⟩ : Addr).add j = ⟨g, j, none⟩ := by unfold Addr.add; split <;> simp_all
  rw [hadd]; exact h.cell' hu
theorem news_cells {w : World} {x : Addr} {xs : List Value} (h : Cells w (some x) xs) : ∀ j u, xs[j]? = some u → w.cell? (x.add j) = some u := by
  intro j u hu
  rcases h with rfl | ⟨b, off, hx, h⟩
  · simp at hu
  · cases hx
    have hadd : (⟨b, off, none⟩ : Addr).add j = ⟨b, off + j, none⟩ := by unfold Addr.add; split <;> simp_all
    rw [hadd]; exact h j u hu

theorem Ext.grown {W w w' : World} {row : Option Nat} (h : Ext W w) (k : w.grownBy w' row) (hr : ∀ g, row = some g → W.heap.size ≤ g) : Ext W w' := Below.grown h k h.size hr
theorem Blk.grown {w w' : World} {row : Option Nat} {g : Nat} {vs : List Value} {T : TypeId} (h : Blk w g vs T) (k : w.grownBy w' row) (hn : some g ≠ row) : Blk w' g vs T := by
  have := h.lt
  unfold Blk at *
  rw [k.block g this hn]; exact h
theorem ownsRow_ext {w w' : World} {base : Nat} {e : TypeId} {size : Nat} {v : Value} {n : Nat} {xs : List Value} (h : w.ownsRow base e size v n xs) (k : Ext w w') : w'.ownsRow base e size v n xs := by
  refine h.kept (row := none) ⟨k.os, k.tape, k.output, k.size, fun i hi _ => k.block i hi⟩ ?_
  cases hv : v.ownBlock with
  | none => exact .inl rfl
  | some g => exact .inr (by simp)
end

section
open Go Go.RowKit

section
variable {P : Program} {ops : Array Oper} {Q : Exit → Act → World → Prop} {C : World → Prop}

def uponE (P : Program) (C : World → Prop) (w : World) (v : Value) : Result Next → Prop
  | .ok (.value u) w' => w' = w ∧ u = v
  | .ok .skip w' => w' = w ∧ v = undef
  | .ok (.enter f args) w' => w' = w ∧ Calls P f args w (fun e w'' => e = .returned v ∧ C w'' ∧ Ext w w'')
  | _ => False

/-- in every world of the class the operation yields v, and nothing that was there turns -/
def yieldsE (P : Program) (C : World → Prop) (o : Oper) (a : Act) (v : Value) : Prop := ∀ w, C w → uponE P C w v ((execOp a.eval o).run P w)

def isAl (al : List (Nat × List Value × TypeId)) (k : Nat) : Bool := al.any fun x => x.1 == k

def wpQE (P : Program) (ops : Array Oper) (C : World → Prop) (al : List (Nat × List Value × TypeId)) (R : Act → Prop) : List Oper → Nat → Act → Prop
  | [], _, a => R a
  | o :: rest, k, a =>
    if isAl al k then wpQE P ops C al R rest (k + 1) (a.put o.dst undef)
    else if Region.wanted o (yielded ops a.tmps) then ∃ v, yieldsE P C o a v ∧ wpQE P ops C al R rest (k + 1) (a.put o.dst v)
    else wpQE P ops C al R rest (k + 1) (a.put o.dst undef)

theorem wpQE_nil {al : List (Nat × List Value × TypeId)} {R : Act → Prop} {k : Nat} {a : Act} (h : R a) : wpQE P ops C al R [] k a := h
theorem wpQE_al {al : List (Nat × List Value × TypeId)} {R : Act → Prop} {k : Nat} {a : Act} {o : Oper} {rest : List Oper} (hk : isAl al k = true) (h : wpQE P ops C al R rest (k + 1) (a.put o.dst undef)) :
    wpQE P ops C al R (o :: rest) k a := by simp only [wpQE, hk, if_true]; exact h
theorem wpQE_do {al : List (Nat × List Value × TypeId)} {R : Act → Prop} {k : Nat} {a : Act} {o : Oper} {rest : List Oper} (hk : isAl al k = false) (hw : Region.wanted o (yielded ops a.tmps) = true) (v : Value)
    (hv : yieldsE P C o a v) (h : wpQE P ops C al R rest (k + 1) (a.put o.dst v)) : wpQE P ops C al R (o :: rest) k a := by
  simp only [wpQE, hk, Bool.false_eq_true, if_false, hw, if_true]; exact ⟨v, hv, h⟩
theorem wpQE_no {al : List (Nat × List Value × TypeId)} {R : Act → Prop} {k : Nat} {a : Act} {o : Oper} {rest : List Oper} (hk : isAl al k = false) (hw : Region.wanted o (yielded ops a.tmps) = false)
    (h : wpQE P ops C al R rest (k + 1) (a.put o.dst undef)) : wpQE P ops C al R (o :: rest) k a := by
  simp only [wpQE, hk, Bool.false_eq_true, if_false, hw]; exact h

/-- what the lexical walk says of one operation -/
def stepE (P : Program) (ops : Array Oper) (C : World → Prop) (al : List (Nat × List Value × TypeId)) (o : Oper) (k : Nat) (a : Act) (v : Value) : Prop :=
  isAl al k = true ∨ (Region.wanted o (yielded ops a.tmps) = true ∧ yieldsE P C o a v) ∨ (Region.wanted o (yielded ops a.tmps) = false ∧ v = undef)

theorem lex_valsE {al : List (Nat × List Value × TypeId)} {R : Act → Prop} : ∀ (l : List Oper) (k : Nat) (a : Act), (∀ j, j < l.length → ops[k + j]? = l[j]?) → wpQE P ops C al R l k a →
    ∃ (vs : Nat → Value) (st : Nat → Act), st k = a ∧ (∀ j, k ≤ j → j < k + l.length → st (j + 1) = (st j).put (dstOf ops j) (vs j) ∧ ∃ o, ops[j]? = some o ∧ stepE P ops C al o j (st j) (vs j)) ∧ R (st (k + l.length))
  | [], k, a, _, h => ⟨fun _ => undef, fun _ => a, rfl, fun j h1 h2 => by simp at h2; omega, h⟩
  | o :: l, k, a, hl, h => by
    have h0 : ops[k]? = some o := by simpa using hl 0 (by simp)
    have hv : ∃ v, stepE P ops C al o k a v ∧ wpQE P ops C al R l (k + 1) (a.put o.dst v) := by
      simp only [wpQE] at h
      by_cases h1 : isAl al k = true
      · rw [if_pos h1] at h; exact ⟨undef, .inl h1, h⟩
      · rw [if_neg h1] at h
        by_cases h2 : Region.wanted o (yielded ops a.tmps) = true
        · rw [if_pos h2] at h
          obtain ⟨v, hv, h⟩ := h
          exact ⟨v, .inr (.inl ⟨h2, hv⟩), h⟩
        · rw [if_neg h2] at h
          exact ⟨undef, .inr (.inr ⟨by simpa using h2, rfl⟩), h⟩
    obtain ⟨v, hy, hK⟩ := hv
    obtain ⟨vs, st, h1, h2, h3⟩ := lex_valsE l (k + 1) _ (fun j hj => by
      have := hl (j + 1) (by simpa using hj)
      simpa [Nat.add_assoc, Nat.add_comm 1 j] using this) hK
    refine ⟨fun j => if j = k then v else vs j, fun j => if j = k then a else st j, by simp, fun j hj hj' => ?_, ?_⟩
    · by_cases hjk : j = k
      · subst hjk
        simp only [if_true, if_neg (show j + 1 ≠ j by omega)]
        refine ⟨by rw [h1]; simp [dstOf, h0], o, h0, hy⟩
      · simp only [if_neg hjk, if_neg (show j + 1 ≠ k by omega)]
        exact h2 j (by omega) (by simp only [List.length_cons] at hj'; omega)
    · simp only [List.length_cons, if_neg (show k + (l.length + 1) ≠ k by omega)]
      have e : k + (l.length + 1) = k + 1 + l.length := by omega
      rw [e]; exact h3

theorem Agree.same2 {n : Nat} {vs vs' : Nat → Value} {a0 a a' : Act} {S S' : Nat → Bool} (h : Agree ops n vs a0 S a) (h' : Agree ops n vs' a0 S' a') {t : Nat}
    (hSS : ∀ j, j < n → dstOf ops j = some t → S j = S' j ∧ vs j = vs' j) : a.tmps[t]? = a'.tmps[t]? := by
  by_cases ht : t < a0.tmps.size
  · by_cases he : ∃ i, i < n ∧ S i = true ∧ dstOf ops i = some t
    · obtain ⟨i, hi, hSi, hdi⟩ := he
      rw [h.yes t ht i hi hSi hdi, h'.yes t ht i hi (by rw [← (hSS i hi hdi).1]; exact hSi) hdi, (hSS i hi hdi).2]
    · have hn : ∀ i, i < n → S i = true → dstOf ops i ≠ some t := fun i hi hs hd => he ⟨i, hi, hs, hd⟩
      rw [h.no t ht hn, h'.no t ht fun i hi hs hd => hn i hi (by rw [(hSS i hi hd).1]; exact hs) hd]
  · have h1 : ¬ t < a.tmps.size := by rw [h.sz]; exact ht
    have h2 : ¬ t < a'.tmps.size := by rw [h'.sz]; exact ht
    simp [h1, h2]

theorem Agree.eval2 {n : Nat} {vs vs' : Nat → Value} {a0 a a' : Act} {S S' : Nat → Bool} (h : Agree ops n vs a0 S a) (h' : Agree ops n vs' a0 S' a') {o : Oper}
    (hs : noSel o = true) (hSS : ∀ j, j < n → ∀ t, dstOf ops j = some t → t ∈ o.looksAt ops → S j = S' j ∧ vs j = vs' j) :
    execOp a.eval o = execOp a'.eval o ∧ Region.wanted o (yielded ops a.tmps) = Region.wanted o (yielded ops a'.tmps) := by
  have ht : ∀ t, t ∈ o.looksAt ops → a.tmps[t]? = a'.tmps[t]? := fun t htm => h.same2 h' fun j hj hd => hSS j hj t hd htm
  constructor
  · refine execOp_congr o (fun cs b e => by simp [noSel, e] at hs) fun x hx => ?_
    cases x with
    | tmp t =>
      have := ht t (List.mem_append_left _ (List.mem_filterMap.2 ⟨.tmp t, by simpa using hx, rfl⟩))
      simp [Act.eval, this]
    | _ => rfl
  · unfold Region.wanted
    cases hg : o.guard with
    | none => rfl
    | some g =>
      obtain ⟨j, want⟩ := g
      simp only [yielded]
      cases hd : (ops[j]?).bind (·.dst) with
      | none => simp
      | some t =>
        have := ht t (List.mem_append_right _ (by simp [hg, hd]))
        simp [this]

theorem Agree.cong {n : Nat} {vs vs' : Nat → Value} {a0 a : Act} {S : Nat → Bool} (h : Agree ops n vs a0 S a) (hv : ∀ j, j < n → S j = true → vs j = vs' j) : Agree ops n vs' a0 S a :=
  ⟨h.dfs, h.sz, fun t ht i hi hS hd => by rw [h.yes t ht i hi hS hd, hv i hi hS], h.no⟩

theorem Agree.reput {n : Nat} {vs : Nat → Value} {a0 a : Act} {S : Nat → Bool} (h : Agree ops n vs a0 S a) {i : Nat} (hin : i < n) (hS : S i = true) (v : Value)
    (hd : ∀ j, j < n → j ≠ i → ∀ t, dstOf ops i = some t → dstOf ops j ≠ some t) : Agree ops n (fun j => if j = i then v else vs j) a0 S (a.put (dstOf ops i) v) := by
  cases hdi : dstOf ops i with
  | none =>
    refine ⟨h.dfs, h.sz, fun t ht j hj hSj hdj => ?_, h.no⟩
    have hji : j ≠ i := fun e => by subst e; rw [hdi] at hdj; cases hdj
    rw [if_neg hji]; exact h.yes t ht j hj hSj hdj
  | some d =>
    refine ⟨h.dfs, by simp [Act.put, h.sz], fun t ht j hj hSj hdj => ?_, fun t ht hno => ?_⟩
    · by_cases hji : j = i
      · subst hji
        rw [hdi] at hdj
        cases hdj
        have : d < a.tmps.size := by rw [h.sz]; exact ht
        simp [Act.put, this]
      · have hne : d ≠ t := fun e => hd j hj hji d hdi (by rw [hdj, e])
        simp only [Act.put]
        rw [Array.getElem?_setIfInBounds_ne hne, if_neg hji]
        exact h.yes t ht j hj hSj hdj
    · have hne : d ≠ t := fun e => hno i hin hS (by rw [hdi, e])
      simp only [Act.put]
      rw [Array.getElem?_setIfInBounds_ne hne]
      exact h.no t ht hno

def ptrOf (g : Nat) : Value := .pointer (some ⟨g, 0, none⟩)

/-- the variables that the region makes are put in -/
def putAl (ops : Array Oper) (gs : Nat → Nat) : List (Nat × List Value × TypeId) → Act → Act
  | [], a => a
  | x :: r, a => putAl ops gs r (a.put (dstOf ops x.1) (ptrOf (gs x.1)))

def alOk (ops : Array Oper) (n : Nat) (al : List (Nat × List Value × TypeId)) : Bool :=
  al.all fun x => decide (x.1 < n) && ((List.range n).all fun i => isAl al i || (ops[i]?).all fun o => (dstOf ops x.1).all fun t => !(o.looksAt ops).contains t)

theorem putAl_agree {n : Nat} {a0 : Act} {S : Nat → Bool} {gs : Nat → Nat} (hd : ∀ i, i < n → ∀ j, j < n → j ≠ i → ∀ t, dstOf ops i = some t → dstOf ops j ≠ some t) :
    ∀ (al : List (Nat × List Value × TypeId)) (vs : Nat → Value) (a : Act), (∀ x ∈ al, x.1 < n ∧ S x.1 = true) → Agree ops n vs a0 S a →
      Agree ops n (fun j => if isAl al j then ptrOf (gs j) else vs j) a0 S (putAl ops gs al a)
  | [], vs, a, _, h => by simpa [isAl, putAl] using h
  | x :: r, vs, a, hx, h => by
    obtain ⟨h1, h2⟩ := hx x (by simp)
    have := putAl_agree (gs := gs) hd r _ _ (fun y hy => hx y (by simp [hy])) (h.reput h1 h2 (ptrOf (gs x.1)) (hd x.1 h1))
    refine Agree.cong this fun j hj hS => ?_
    have hcons : isAl (x :: r) j = (x.1 == j || isAl r j) := rfl
    show (if isAl r j = true then ptrOf (gs j) else if j = x.1 then ptrOf (gs x.1) else vs j) = if isAl (x :: r) j = true then ptrOf (gs j) else vs j
    by_cases hr : isAl r j = true
    · rw [if_pos hr, if_pos (by rw [hcons, hr, Bool.or_true])]
    · rw [if_neg hr]
      by_cases hjx : j = x.1
      · subst hjx
        rw [if_pos rfl, if_pos (by rw [hcons]; simp)]
      · rw [if_neg hjx, if_neg]
        rw [hcons]
        simp only [Bool.or_eq_true, beq_iff_eq, not_or]
        exact ⟨fun e => hjx e.symm, hr⟩

/-- A region whose order is drawn: the first n operations read and call quietly in every world of the class C, or make variables (al: their numbers, what they hold, their types); the others come behind them, one by one. -/
theorem wp_region_al {id : Nat} {a : Act} {w : World} {l : List Oper} (n : Nat) (al : List (Nat × List Value × TypeId)) (B : Nat) (hm : P.follows .mixedOrders = true) (hB : clsOk l.toArray n = true)
    (hA : alOk l.toArray n al = true) (hC : C w.drew) (hCa : ∀ w o, C w → C (w.alloc o)) (hCB : ∀ w, C w → B ≤ w.heap.size)
    (hal : ∀ x ∈ al, ∃ o, l[x.1]? = some o ∧ o.guard = none ∧ ∀ ρ w, (execOp ρ o).run P w = .ok (.value (ptrOf w.heap.size)) (w.alloc (.cells x.2.1.toArray x.2.2)))
    (h : wpQE P l.toArray C al (fun a' => ∀ gs w', C w' → (∀ x ∈ al, Blk w' (gs x.1) x.2.1 x.2.2 ∧ B ≤ gs x.1) → (∀ x ∈ al, ∀ y ∈ al, x.1 ≠ y.1 → gs x.1 ≠ gs y.1) →
      wpList P l.toArray Q (l.drop n) (putAl l.toArray gs al a') w') (l.take n) 0 a) : (Code.region id l.toArray true).wp P Q a w := by
  obtain ⟨b1, b2, ⟨b3, b5⟩, b4⟩ := clsOk_spec hB
  have hA' : ∀ x ∈ al, x.1 < n ∧ ∀ i, i < n → isAl al i = false → ∀ o, l.toArray[i]? = some o → ∀ t, dstOf l.toArray x.1 = some t → t ∉ o.looksAt l.toArray := by
    intro x hx
    have := List.all_eq_true.1 hA x hx
    simp only [Bool.and_eq_true, decide_eq_true_eq, List.all_eq_true, List.mem_range, Bool.or_eq_true, Option.all_eq_true, Bool.not_eq_true'] at this
    refine ⟨this.1, fun i hi hal o ho t ht hmem => ?_⟩
    rcases this.2 i hi with h1 | h1
    · rw [hal] at h1; cases h1
    · have := h1 o ho t ht
      rw [List.contains_iff_mem.2 hmem] at this; cases this
  have hnl : n ≤ l.length := by simpa using b4
  have htl : (l.take n).length = n := by simp [hnl]
  have hdd : ∀ i, i < n → ∀ j, j < n → j ≠ i → ∀ t, dstOf l.toArray i = some t → dstOf l.toArray j ≠ some t := by
    intro i hi j hj hji t hd hd'
    have ho : l.toArray[i]? = some l[i] := by simp <;> omega
    have := ((b2 i _ hi ho).2 j t hj hd').1 (Ne.symm hji)
    simp only [dstOf, ho] at hd
    exact this hd
  obtain ⟨vs, st, hst0, hst, hK⟩ := lex_valsE (l.take n) 0 a (fun j hj => by
    have hj' : j < n := by rw [htl] at hj; exact hj
    simp [hj']) h
  rw [htl] at hst hK
  simp only [Nat.zero_add] at hst hK
  have hag : ∀ i, i ≤ n → Agree l.toArray n vs a (fun j => decide (j < i)) (st i) := by
    intro i
    induction i with
    | zero =>
      intro _
      rw [hst0]
      exact ⟨rfl, rfl, fun _ _ _ _ h => by simp at h, fun _ _ _ => rfl⟩
    | succ i ih =>
      intro hi
      obtain ⟨h1, o, ho, _⟩ := hst i (Nat.zero_le _) (by omega)
      rw [h1]
      refine (ih (by omega)).put (by omega) (by simp) (by simp) (fun j hj => ?_) (fun j hj hji t hd => hdd i (by omega) j hj hji t hd)
      simp; omega
  refine wp_region_inv (I := fun listed a' w' =>
    ((∀ t, n ≤ t → listed.getD t false = false) ∧ (∀ i, listed.getD i false = true → ∀ o, l.toArray[i]? = some o → ∀ e ∈ o.after, Region.binds .any e = true → listed.getD e.on false = true) ∧ C w' ∧
      ∃ gs : Nat → Nat, Agree l.toArray n (fun j => if isAl al j then ptrOf (gs j) else vs j) a (fun j => listed.getD j false) a' ∧
        (∀ x ∈ al, listed.getD x.1 false = true → Blk w' (gs x.1) x.2.1 x.2.2 ∧ B ≤ gs x.1) ∧ (∀ x ∈ al, ∀ y ∈ al, listed.getD x.1 false = true → listed.getD y.1 false = true → x.1 ≠ y.1 → gs x.1 ≠ gs y.1)) ∨
    (∃ m, n ≤ m ∧ m ≤ l.length ∧ (∀ j, j < l.length → listed.getD j false = decide (j < m)) ∧ wpList P l.toArray Q (l.drop m) a' w')) hm ?_ ?_ ?_
  · have hf : ∀ t, (Array.replicate l.toArray.size false).getD t false = false := fun t => by
      simp [Array.getElem?_replicate]
      split <;> rfl
    refine .inl ⟨fun t _ => hf t, fun i hi => (by rw [hf] at hi; cases hi), hC, fun _ => 0, ⟨rfl, rfl, fun _ _ i _ h => (by rw [hf] at h; cases h), fun _ _ _ => rfl⟩, fun x _ h => (by rw [hf] at h; cases h), fun x _ y _ h => (by rw [hf] at h; cases h)⟩
  · intro listed a' w' i hsz hI hi
    obtain ⟨hun, o, ho, hall⟩ := mem_ready.1 hi
    have hil : i < l.length := by simpa using (Array.getElem?_eq_some_iff.1 ho).1
    have hun' : listed.getD i false = false := by rw [← getD_ft (by rw [hsz]; simpa using hil)]; exact hun
    have hw8 : ∀ j, waits l.toArray i j = true → listed.getD j false = true := fun j hj => by
      obtain ⟨o', ho', e, he, hb, hon⟩ := waits_spec hj
      have : o' = o := Option.some.inj (ho'.symm.trans ho)
      subst this
      rw [← hon]; exact hall e he hb
    have hsi : (listed.setIfInBounds i true).getD i false = true := by
      have : i < listed.size := by rw [hsz]; simpa using hil
      simp [this]
    have hsn : ∀ j, j ≠ i → (listed.setIfInBounds i true).getD j false = listed.getD j false := fun j hj => by
      simp only [Array.getD_eq_getD_getElem?]
      rw [Array.getElem?_setIfInBounds_ne (Ne.symm hj)]
    have two : ∀ m, n ≤ m → m ≤ l.length → (∀ j, j < l.length → listed.getD j false = decide (j < m)) → wpList P l.toArray Q (l.drop m) a' w' →
        wpOp P l.toArray Q i (fun a'' w'' => (∃ m, n ≤ m ∧ m ≤ l.length ∧ (∀ j, j < l.length → (listed.setIfInBounds i true).getD j false = decide (j < m)) ∧ wpList P l.toArray Q (l.drop m) a'' w'')) a' w' := by
      intro m hnm hml hlist hw
      have him : i = m := by
        have h1 : ¬ i < m := fun hlt => by have := hlist i hil; rw [hun'] at this; simp at this; omega
        rcases Nat.lt_or_ge m i with h2 | h2
        · have h3 := hw8 (i - 1) (b5 i (by omega) (by simpa using hil))
          have h4 := hlist (i - 1) (by omega)
          rw [h3] at h4; simp at h4; omega
        · omega
      subst him
      have hd : l.drop i = o :: l.drop (i + 1) := by
        have ho' : l[i] = o := by
          have := (Array.getElem?_eq_some_iff.1 ho).2
          simpa using this
        rw [← ho']; exact List.drop_eq_getElem_cons hil
      rw [hd] at hw
      have hw' : wpOp P l.toArray Q i (wpList P l.toArray Q (l.drop (i + 1))) a' w' := by
        unfold wpOp; simp only [ho]; exact hw
      refine wpOp_mono (fun a'' w'' h'' => ⟨i + 1, by omega, by omega, fun j hj => ?_, h''⟩) hw'
      by_cases hji : j = i
      · subst hji; rw [hsi]; simp
      · rw [hsn j hji, hlist j hj]
        by_cases hjl : j < i
        · simp [hjl]; omega
        · simp [hjl]; omega
    rcases hI with ⟨hno, hdc, hCw, gs, hAg, hbl, hdis⟩ | ⟨m, hnm, hml, hlist, hw⟩
    · have hdc' : ∀ k, (listed.setIfInBounds i true).getD k false = true → ∀ ok, l.toArray[k]? = some ok → ∀ e ∈ ok.after, Region.binds .any e = true → (listed.setIfInBounds i true).getD e.on false = true := by
        intro k hk ok hok e he hb
        have hset : ∀ j, listed.getD j false = true → (listed.setIfInBounds i true).getD j false = true := fun j hj => by
          by_cases hji : j = i
          · subst hji; exact hsi
          · rw [hsn j hji]; exact hj
        by_cases hki : k = i
        · subst hki
          have : ok = o := Option.some.inj (hok.symm.trans ho)
          subst this
          exact hset _ (hall e he hb)
        · rw [hsn k hki] at hk
          exact hset _ (hdc k hk ok hok e he hb)
      by_cases hin : i < n
      · have hno' : ∀ t, n ≤ t → (listed.setIfInBounds i true).getD t false = false := fun t ht => by rw [hsn t (by omega)]; exact hno t ht
        have hdo : o.dst = dstOf l.toArray i := by simp [dstOf, ho]
        obtain ⟨_, o', ho', hy⟩ := hst i (Nat.zero_le _) hin
        have : o' = o := Option.some.inj (ho'.symm.trans ho)
        subst this
        by_cases hali : isAl al i = true
        · -- a variable is made
          obtain ⟨x, hx, hxi⟩ := List.any_eq_true.1 hali
          have hxi' : x.1 = i := by simpa using hxi
          obtain ⟨ox, hox, hg, hrun⟩ := hal x hx
          have hoo : ox = o' := by
            have : l.toArray[i]? = some ox := by rw [← hxi']; simpa using hox
            exact Option.some.inj (this.symm.trans ho)
          subst hoo
          unfold wpOp
          simp only [ho]
          rw [if_pos (by simp [Region.wanted, hg])]
          refine .inl ?_
          unfold Oper.wp
          rw [hrun]
          simp only [Oper.upon]
          refine .inl ⟨hno', hdc', hCa _ _ hCw, fun j => if j = i then w'.heap.size else gs j, ?_, fun y hy hly => ?_, fun y hy z hz hly hlz hne => ?_⟩
          · rw [hdo]
            have h5 : Agree l.toArray n (fun j => if isAl al j then ptrOf (if j = i then w'.heap.size else gs j) else vs j) a (fun j => listed.getD j false) a' :=
              hAg.cong fun j hj hS => by
                by_cases hji : j = i
                · subst hji; rw [hun'] at hS; cases hS
                · rw [if_neg hji]
            have h6 := h5.put (S' := fun j => (listed.setIfInBounds i true).getD j false) hin hun' hsi (fun j hj => hsn j hj) (fun j hj hji t hd => hdd i hin j hj hji t hd)
            simpa [hali] using h6
          · show Blk _ (if y.1 = i then w'.heap.size else gs y.1) _ _ ∧ B ≤ (if y.1 = i then w'.heap.size else gs y.1)
            by_cases hyi : y.1 = i
            · rw [if_pos hyi]
              have : ox = ox := rfl
              obtain ⟨oy, hoy, _, hruny⟩ := hal y hy
              have hoo2 : oy = ox := by
                have : l.toArray[i]? = some oy := by rw [← hyi]; simpa using hoy
                exact Option.some.inj (this.symm.trans ho)
              subst hoo2
              have e1 := hrun a'.eval w'
              rw [hruny] at e1
              have e2 : w'.alloc (.cells y.2.1.toArray y.2.2) = w'.alloc (.cells x.2.1.toArray x.2.2) := by injection e1
              refine ⟨?_, hCB _ hCw⟩
              have := Blk.alloc_new w' y.2.1 y.2.2
              rw [e2] at this
              exact this
            · rw [if_neg hyi]
              rw [hsn y.1 hyi] at hly
              exact ⟨(hbl y hy hly).1.alloc _, (hbl y hy hly).2⟩
          · show (if y.1 = i then w'.heap.size else gs y.1) ≠ (if z.1 = i then w'.heap.size else gs z.1)
            by_cases hyi : y.1 = i
            · rw [if_pos hyi, if_neg (by omega)]
              rw [hsn z.1 (by omega)] at hlz
              have := (hbl z hz hlz).1.lt
              omega
            · rw [if_neg hyi]
              rw [hsn y.1 hyi] at hly
              by_cases hzi : z.1 = i
              · rw [if_pos hzi]
                have := (hbl y hy hly).1.lt
                omega
              · rw [if_neg hzi]
                rw [hsn z.1 hzi] at hlz
                exact hdis y hy z hz hly hlz hne
        · have hali' : isAl al i = false := by simpa using hali
          obtain ⟨b21, b22⟩ := b2 i o' hin ho
          have hev := hAg.eval2 (hag i (by omega)) (o := o') b21 (fun j hj t hd ht => by
            have hjal : isAl al j = false := by
              cases hj2 : isAl al j with
              | false => rfl
              | true =>
                obtain ⟨x, hx, hxj⟩ := List.any_eq_true.1 hj2
                have hxj' : x.1 = j := by simpa using hxj
                exact absurd ht ((hA' x hx).2 i hin hali' o' ho t (by rw [hxj']; exact hd))
            refine ⟨?_, by simp [hjal]⟩
            obtain ⟨_, c2⟩ := b22 j t hj hd
            obtain ⟨c3, c4⟩ := c2 ht
            rcases Nat.lt_trichotomy j i with h1 | h1 | h1
            · simp only [h1, decide_true]; exact hw8 j (c3 h1)
            · subst h1; simp only [Nat.lt_irrefl, decide_false]; exact hun'
            · have : ¬ j < i := by omega
              simp only [this, decide_false]
              cases hl : listed.getD j false with
              | false => rfl
              | true =>
                obtain ⟨oj, hoj, e, he, hb, hon⟩ := waits_spec (c4 h1)
                have := hdc j hl oj hoj e he hb
                rw [hon, hun'] at this; cases this)
          have hput : ∀ gs' : Nat → Nat, (∀ j, listed.getD j false = true → gs' j = gs j) → Agree l.toArray n (fun j => if isAl al j then ptrOf (gs' j) else vs j) a (fun j => (listed.setIfInBounds i true).getD j false) (a'.put o'.dst (vs i)) := by
            intro gs' hgs
            rw [hdo]
            have h5 : Agree l.toArray n (fun j => if isAl al j then ptrOf (gs' j) else vs j) a (fun j => listed.getD j false) a' :=
              hAg.cong fun j hj hS => by rw [hgs j hS]
            have h6 := h5.put (S' := fun j => (listed.setIfInBounds i true).getD j false) hin hun' hsi (fun j hj => hsn j hj) (fun j hj hji t hd => hdd i hin j hj hji t hd)
            simpa [hali'] using h6
          have done : ∀ w'', C w'' → Ext w' w'' → (fun a'' w'' => ((∀ t, n ≤ t → (listed.setIfInBounds i true).getD t false = false) ∧ (∀ k, (listed.setIfInBounds i true).getD k false = true → ∀ o, l.toArray[k]? = some o → ∀ e ∈ o.after, Region.binds .any e = true → (listed.setIfInBounds i true).getD e.on false = true) ∧ C w'' ∧
              ∃ gs : Nat → Nat, Agree l.toArray n (fun j => if isAl al j then ptrOf (gs j) else vs j) a (fun j => (listed.setIfInBounds i true).getD j false) a'' ∧
                (∀ x ∈ al, (listed.setIfInBounds i true).getD x.1 false = true → Blk w'' (gs x.1) x.2.1 x.2.2 ∧ B ≤ gs x.1) ∧ (∀ x ∈ al, ∀ y ∈ al, (listed.setIfInBounds i true).getD x.1 false = true → (listed.setIfInBounds i true).getD y.1 false = true → x.1 ≠ y.1 → gs x.1 ≠ gs y.1)) ∨
            (∃ m, n ≤ m ∧ m ≤ l.length ∧ (∀ j, j < l.length → (listed.setIfInBounds i true).getD j false = decide (j < m)) ∧ wpList P l.toArray Q (l.drop m) a'' w'')) (a'.put o'.dst (vs i)) w'' := by
            intro w'' hC'' hE
            have hne : ∀ x ∈ al, x.1 ≠ i := fun x hx e => by
              have : isAl al i = true := List.any_eq_true.2 ⟨x, hx, by simp [e]⟩
              rw [hali'] at this; cases this
            refine .inl ⟨hno', hdc', hC'', gs, hput gs (fun _ _ => rfl), fun x hx hlx => ?_, fun x hx y hy hlx hly => ?_⟩
            · rw [hsn x.1 (hne x hx)] at hlx
              exact ⟨(hbl x hx hlx).1.ext hE, (hbl x hx hlx).2⟩
            · rw [hsn x.1 (hne x hx)] at hlx
              rw [hsn y.1 (hne y hy)] at hly
              exact hdis x hx y hy hlx hly
          unfold wpOp
          simp only [ho]
          rcases hy with hy | ⟨hw, hy⟩ | ⟨hw, hy⟩
          · rw [hali'] at hy; cases hy
          · rw [if_pos (by rw [hev.2]; exact hw)]
            refine .inl ?_
            have h3 := hy w' hCw
            rw [← hev.1] at h3
            unfold Oper.wp
            generalize (execOp a'.eval o').run P w' = r at h3 ⊢
            cases r with
            | ok nx w'' =>
              cases nx <;> simp only [uponE] at h3 <;> simp only [Oper.upon]
              case value u =>
                obtain ⟨e1, e2⟩ := h3
                rw [e1, e2]
                exact done _ hCw (Ext.refl _)
              case skip =>
                obtain ⟨e1, e2⟩ := h3
                rw [e1, ← e2]
                exact done _ hCw (Ext.refl _)
              case enter f args =>
                obtain ⟨e1, hc⟩ := h3
                rw [e1]
                exact hc.mono fun e w3 ⟨he, h1, h2⟩ => by subst he; exact done _ h1 h2
            | halt x w'' => simp only [uponE] at h3
          · rw [if_neg (by rw [hev.2, hw]; simp), ← hy]
            exact done _ hCw (Ext.refl _)
      · have hin2 : i = n := by
          rcases Nat.lt_or_ge n i with h1 | h1
          · have h2 := hw8 (i - 1) (b5 i h1 (by simpa using hil))
            rw [hno (i - 1) (by omega)] at h2; cases h2
          · omega
        have hall2 : ∀ j, j < i → listed.getD j false = true := by
          have key : ∀ d j, i - j = d → j < i → listed.getD j false = true := by
            intro d
            induction d using Nat.strongRecOn with
            | _ d ih =>
              intro j hd hj
              obtain ⟨k, hjk, hkn, hw⟩ := b3 (by simpa [hin2] using hil) j (by omega)
              by_cases hki : k = i
              · subst hki; exact hw8 j hw
              · have hk := ih (i - k) (by omega) k rfl (by omega)
                obtain ⟨ok, hok, e, he, hb, hon⟩ := waits_spec hw
                rw [← hon]; exact hdc k hk ok hok e he hb
          exact fun j hj => key _ j rfl hj
        have hfin := putAl_agree (gs := gs) (S := fun j => decide (j < n)) hdd al vs (st n) (fun x hx => ⟨(hA' x hx).1, by simpa using (hA' x hx).1⟩) (hag n (Nat.le_refl _))
        have hae : a' = putAl l.toArray gs al (st n) := hAg.eq hfin fun j hj => by
          rw [hall2 j (by omega)]; simp [hj]
        refine wpOp_mono (fun a'' w'' h'' => .inr h'') (two n (Nat.le_refl _) (by omega) (fun j hj => ?_) ?_)
        · by_cases hjn : j < n
          · rw [hall2 j (by omega)]; simp [hjn]
          · rw [hno j (by omega)]; simp [hjn]
        · rw [hae]
          have hlx : ∀ x ∈ al, listed.getD x.1 false = true := fun x hx => hall2 _ (by have := (hA' x hx).1; omega)
          exact hK gs w' hCw (fun x hx => hbl x hx (hlx x hx)) (fun x hx y hy => hdis x hx y hy (hlx x hx) (hlx y hy))
    · exact wpOp_mono (fun a'' w'' h'' => .inr h'') (two m hnm hml hlist hw)
  · intro listed a' w' hsz hI hr
    have hsz' : listed.size = l.length := by rw [hsz]; simp
    rcases hI with ⟨hno, hdc, hCw, gs, hAg, hbl, hdis⟩ | ⟨m, hnm, hml, hlist, hw⟩
    · have hall : ∀ i, i < l.length → listed.getD i false = true := by
        intro i
        induction i using Nat.strongRecOn with
        | _ i ih =>
          intro hi
          cases hl : listed.getD i false with
          | true => rfl
          | false =>
            have := mem_ready_of (ops := l.toArray) hsz (by simpa using hi) hl (fun j hj => ih j hj (by omega)) (fun o ho e he hb => b1 i o ho e he hb)
            rw [hr] at this; cases this
      have hn : n = l.length := by
        rcases Nat.lt_or_ge n l.length with h1 | h1
        · have := hall n h1
          rw [hno n (Nat.le_refl _)] at this; cases this
        · omega
      have hfin := putAl_agree (gs := gs) (S := fun j => decide (j < n)) hdd al vs (st n) (fun x hx => ⟨(hA' x hx).1, by simpa using (hA' x hx).1⟩) (hag n (Nat.le_refl _))
      have hae : a' = putAl l.toArray gs al (st n) := hAg.eq hfin fun j hj => by
        rw [hall j (by omega)]; simp [hj]
      have hlx : ∀ x ∈ al, listed.getD x.1 false = true := fun x hx => hall _ (by have := (hA' x hx).1; omega)
      have := hK gs w' hCw (fun x hx => hbl x hx (hlx x hx)) (fun x hx y hy => hdis x hx y hy (hlx x hx) (hlx y hy))
      rw [hae]
      rw [hn, List.drop_length] at this
      rw [hn]
      exact this
    · have hml' : m = l.length := by
        rcases Nat.lt_or_ge m l.length with h1 | h1
        · have := mem_ready_of (ops := l.toArray) hsz (by simpa using h1) (by rw [hlist m h1]; simp) (fun j hj => by rw [hlist j (by omega)]; simp [hj]) (fun o ho e he hb => b1 m o ho e he hb)
          rw [hr] at this; cases this
        · omega
      rw [hml', List.drop_length] at hw
      exact hw
end

section
variable {P : Program} {C : World → Prop} {o : Oper} {a : Act}
theorem yieldsE_loadw (ty : TypeId) (x : Operand) (ho : o.op = .load ty x) {g : Nat} {vs : List Value} {T : TypeId} {n : Nat}
    (hx : a.eval x = .pointer (some ⟨g, 0, none⟩)) (hb : ∀ w, C w → Blk w g vs T) (ht : AggT P ty n) (hn : vs.length = n) : yieldsE P C o a (.agg vs.toArray) := by
  intro w hw
  have h1 := run_load_sub (P := P) (off := 0) (hb w hw) ht (by omega)
  have h2 : (vs.drop 0).take n = vs := by simp [← hn]
  rw [h2] at h1
  unfold execOp
  simp only [ho, hx, Instr.loadAt, Instr.sureAddr, Sem.run_bind, Sem.run_pure, Result.andThen_ok, h1]
  exact ⟨rfl, rfl⟩
/-- a comparison of which the run is known -/
theorem yieldsE_cmp (op : BinOp) (t u : TypeId) (x y : Operand) (ho : o.op = .binOp op t x y u) {xs ys : Array Value} {b : Value} (hx : a.eval x = .agg xs) (hy : a.eval y = .agg ys)
    (hg : P.eqGuardType P.depth t = false) (hr : ∀ w, (binOp op t (.agg xs) (.agg ys)).run P w = .ok b w) : yieldsE P C o a b := by
  intro w _
  unfold execOp
  simp only [ho, hx, hy, Sem.run_bind, run_eqGuard_agg w op t x y xs ys hg, Result.andThen_ok, hr, Sem.run_pure]
  exact ⟨rfl, rfl⟩
theorem yieldsE_call {f : FuncId} {xs : Array Operand} {ts : Array TypeId} {args : Array Value} {v : Value} (ho : o.op = .call { callee := .value (.func f), args := xs, argTypes := ts })
    (hf : ∀ args w, (callFunc f args).run P w = .ok (.enter f args) w) (ha : xs.map a.eval = args)
    (hc : ∀ w, C w → Calls P f args w (fun e w' => e = .returned v ∧ Ext w w')) (hC : ∀ w w', C w → Ext w w' → C w') : yieldsE P C o a v := by
  intro w hw
  have hr : (execOp a.eval o).run P w = .ok (.enter f args) w := by
    unfold execOp
    simp only [ho, resolve, Act.eval, Deferred.ofValue, Sem.run_bind, Sem.run_pure, Result.andThen_ok, invoke]
    have : (#[] ++ xs.map a.eval ++ #[] : Array Value) = args := by simp [ha]
    simpa [ha] using hf args w
  rw [hr]
  exact ⟨rfl, (hc w hw).mono fun e w' ⟨h1, h2⟩ => ⟨h1, hC w w' hw h2, h2⟩⟩
end
attribute [go_sem] uponE
end

section
open Go Go.RowKit

section
variable {P : Program} {ops : Array Oper} {Q : Exit → Act → World → Prop} {C : World → Prop}

/-- the operation yields a value of which G tells -/
def uponU (P : Program) (C : World → Prop) (w : World) (G : Value → World → Prop) : Result Next → Prop
  | .ok (.value u) w' => C w' ∧ Ext w w' ∧ G u w'
  | .ok (.enter f args) w' => w' = w ∧ Calls P f args w (fun e w'' => ∃ v, e = .returned v ∧ G v w'' ∧ C w'' ∧ Ext w w'')
  | _ => False
def yieldsU (P : Program) (C : World → Prop) (o : Oper) (a : Act) (G : Value → World → Prop) : Prop := ∀ w, C w → uponU P C w G ((execOp a.eval o).run P w)

def wpQU (P : Program) (ops : Array Oper) (C : World → Prop) (un : List Nat) (G : Nat → Value → World → Prop) (R : Act → Prop) : List Oper → Nat → Act → Prop
  | [], _, a => R a
  | o :: rest, k, a =>
    if un.contains k then o.guard = none ∧ yieldsU P C o a (G k) ∧ wpQU P ops C un G R rest (k + 1) (a.put o.dst undef)
    else if Region.wanted o (yielded ops a.tmps) then ∃ v, yieldsE P C o a v ∧ wpQU P ops C un G R rest (k + 1) (a.put o.dst v)
    else wpQU P ops C un G R rest (k + 1) (a.put o.dst undef)
theorem wpQU_nil {un : List Nat} {G : Nat → Value → World → Prop} {R : Act → Prop} {k : Nat} {a : Act} (h : R a) : wpQU P ops C un G R [] k a := h
theorem wpQU_un {un : List Nat} {G : Nat → Value → World → Prop} {R : Act → Prop} {k : Nat} {a : Act} {o : Oper} {rest : List Oper} (hk : un.contains k = true) (hg : o.guard = none) (hy : yieldsU P C o a (G k))
    (h : wpQU P ops C un G R rest (k + 1) (a.put o.dst undef)) : wpQU P ops C un G R (o :: rest) k a := by
  simp only [wpQU, hk, if_true]; exact ⟨hg, hy, h⟩
theorem wpQU_do {un : List Nat} {G : Nat → Value → World → Prop} {R : Act → Prop} {k : Nat} {a : Act} {o : Oper} {rest : List Oper} (hk : un.contains k = false) (hw : Region.wanted o (yielded ops a.tmps) = true) (v : Value)
    (hv : yieldsE P C o a v) (h : wpQU P ops C un G R rest (k + 1) (a.put o.dst v)) : wpQU P ops C un G R (o :: rest) k a := by
  simp only [wpQU, hk, Bool.false_eq_true, if_false, hw, if_true]; exact ⟨v, hv, h⟩
theorem wpQU_no {un : List Nat} {G : Nat → Value → World → Prop} {R : Act → Prop} {k : Nat} {a : Act} {o : Oper} {rest : List Oper} (hk : un.contains k = false) (hw : Region.wanted o (yielded ops a.tmps) = false)
    (h : wpQU P ops C un G R rest (k + 1) (a.put o.dst undef)) : wpQU P ops C un G R (o :: rest) k a := by
  simp only [wpQU, hk, Bool.false_eq_true, if_false, hw]; exact h

def stepU (P : Program) (ops : Array Oper) (C : World → Prop) (un : List Nat) (G : Nat → Value → World → Prop) (o : Oper) (k : Nat) (a : Act) (v : Value) : Prop :=
  (un.contains k = true ∧ o.guard = none ∧ yieldsU P C o a (G k)) ∨ (un.contains k = false ∧ Region.wanted o (yielded ops a.tmps) = true ∧ yieldsE P C o a v) ∨ (un.contains k = false ∧ Region.wanted o (yielded ops a.tmps) = false ∧ v = undef)

theorem lex_valsU {un : List Nat} {G : Nat → Value → World → Prop} {R : Act → Prop} : ∀ (l : List Oper) (k : Nat) (a : Act), (∀ j, j < l.length → ops[k + j]? = l[j]?) → wpQU P ops C un G R l k a →
    ∃ (vs : Nat → Value) (st : Nat → Act), st k = a ∧ (∀ j, k ≤ j → j < k + l.length → st (j + 1) = (st j).put (dstOf ops j) (vs j) ∧ ∃ o, ops[j]? = some o ∧ stepU P ops C un G o j (st j) (vs j)) ∧ R (st (k + l.length))
  | [], k, a, _, h => ⟨fun _ => undef, fun _ => a, rfl, fun j h1 h2 => by simp at h2; omega, h⟩
  | o :: l, k, a, hl, h => by
    have h0 : ops[k]? = some o := by simpa using hl 0 (by simp)
    have hv : ∃ v, stepU P ops C un G o k a v ∧ wpQU P ops C un G R l (k + 1) (a.put o.dst v) := by
      simp only [wpQU] at h
      by_cases h1 : un.contains k = true
      · rw [if_pos h1] at h; exact ⟨undef, .inl ⟨h1, h.1, h.2.1⟩, h.2.2⟩
      · rw [if_neg h1] at h
        have h1' : un.contains k = false := by simpa using h1
        by_cases h2 : Region.wanted o (yielded ops a.tmps) = true
        · rw [if_pos h2] at h
          obtain ⟨v, hv, h⟩ := h
          exact ⟨v, .inr (.inl ⟨h1', h2, hv⟩), h⟩
        · rw [if_neg h2] at h
          exact ⟨undef, .inr (.inr ⟨h1', by simpa using h2, rfl⟩), h⟩
    obtain ⟨v, hy, hK⟩ := hv
    obtain ⟨vs, st, h1, h2, h3⟩ := lex_valsU l (k + 1) _ (fun j hj => by
      have := hl (j + 1) (by simpa using hj)
      simpa [Nat.add_assoc, Nat.add_comm 1 j] using this) hK
    refine ⟨fun j => if j = k then v else vs j, fun j => if j = k then a else st j, by simp, fun j hj hj' => ?_, ?_⟩
    · by_cases hjk : j = k
      · subst hjk
        simp only [if_true, if_neg (show j + 1 ≠ j by omega)]
        refine ⟨by rw [h1]; simp [dstOf, h0], o, h0, hy⟩
      · simp only [if_neg hjk, if_neg (show j + 1 ≠ k by omega)]
        exact h2 j (by omega) (by simp only [List.length_cons] at hj'; omega)
    · simp only [List.length_cons, if_neg (show k + (l.length + 1) ≠ k by omega)]
      have e : k + (l.length + 1) = k + 1 + l.length := by omega
      rw [e]; exact h3

/-- the values that were not known are put in -/
def putUn (ops : Array Oper) (us : Nat → Value) : List Nat → Act → Act
  | [], a => a
  | x :: r, a => putUn ops us r (a.put (dstOf ops x) (us x))

def unOk (ops : Array Oper) (n : Nat) (un : List Nat) : Bool :=
  un.all fun x => decide (x < n) && ((List.range n).all fun i => (ops[i]?).all fun o => (dstOf ops x).all fun t => !(o.looksAt ops).contains t)

theorem putUn_agree {n : Nat} {a0 : Act} {S : Nat → Bool} {us : Nat → Value} (hd : ∀ i, i < n → ∀ j, j < n → j ≠ i → ∀ t, dstOf ops i = some t → dstOf ops j ≠ some t) :
    ∀ (un : List Nat) (vs : Nat → Value) (a : Act), (∀ x ∈ un, x < n ∧ S x = true) → Agree ops n vs a0 S a →
      Agree ops n (fun j => if un.contains j then us j else vs j) a0 S (putUn ops us un a)
  | [], vs, a, _, h => by simpa [putUn] using h
  | x :: r, vs, a, hx, h => by
    obtain ⟨h1, h2⟩ := hx x (by simp)
    have := putUn_agree (us := us) hd r _ _ (fun y hy => hx y (by simp [hy])) (h.reput h1 h2 (us x) (hd x h1))
    refine Agree.cong this fun j hj hS => ?_
    have hcons : (x :: r).contains j = (j == x || r.contains j) := rfl
    show (if r.contains j = true then us j else if j = x then us x else vs j) = if (x :: r).contains j = true then us j else vs j
    by_cases hr : r.contains j = true
    · rw [if_pos hr, if_pos (by rw [hcons, hr, Bool.or_true])]
    · rw [if_neg hr]
      by_cases hjx : j = x
      · subst hjx
        rw [if_pos rfl, if_pos (by rw [hcons]; simp)]
      · rw [if_neg hjx, if_neg]
        rw [hcons]
        simp only [Bool.or_eq_true, beq_iff_eq, not_or]
        exact ⟨hjx, hr⟩

/-- A region whose order is drawn: the first n operations read and call quietly in every world of the class C, or yield (un: their numbers) values of which G tells; the others come behind them, one by one. -/
theorem wp_region_un {id : Nat} {a : Act} {w : World} {l : List Oper} (n : Nat) (un : List Nat) (G : Nat → Value → World → Prop) (hm : P.follows .mixedOrders = true) (hB : clsOk l.toArray n = true)
    (hA : unOk l.toArray n un = true) (hC : C w.drew) (hG : ∀ k v w w', G k v w → Ext w w' → G k v w')
    (h : wpQU P l.toArray C un G (fun a' => ∀ us w', C w' → (∀ x ∈ un, G x (us x) w') →
      wpList P l.toArray Q (l.drop n) (putUn l.toArray us un a') w') (l.take n) 0 a) : (Code.region id l.toArray true).wp P Q a w := by
  obtain ⟨b1, b2, ⟨b3, b5⟩, b4⟩ := clsOk_spec hB
  have hA' : ∀ x ∈ un, x < n ∧ ∀ i, i < n → ∀ o, l.toArray[i]? = some o → ∀ t, dstOf l.toArray x = some t → t ∉ o.looksAt l.toArray := by
    intro x hx
    have := List.all_eq_true.1 hA x hx
    simp only [Bool.and_eq_true, decide_eq_true_eq, List.all_eq_true, List.mem_range, Option.all_eq_true, Bool.not_eq_true'] at this
    refine ⟨this.1, fun i hi o ho t ht hmem => ?_⟩
    have := this.2 i hi o ho t ht
    rw [List.contains_iff_mem.2 hmem] at this; cases this
  have hnl : n ≤ l.length := by simpa using b4
  have htl : (l.take n).length = n := by simp [hnl]
  have hdd : ∀ i, i < n → ∀ j, j < n → j ≠ i → ∀ t, dstOf l.toArray i = some t → dstOf l.toArray j ≠ some t := by
    intro i hi j hj hji t hd hd'
    have ho : l.toArray[i]? = some l[i] := by simp <;> omega
    have := ((b2 i _ hi ho).2 j t hj hd').1 (Ne.symm hji)
    simp only [dstOf, ho] at hd
    exact this hd
  obtain ⟨vs, st, hst0, hst, hK⟩ := lex_valsU (l.take n) 0 a (fun j hj => by
    have hj' : j < n := by rw [htl] at hj; exact hj
    simp [hj']) h
  rw [htl] at hst hK
  simp only [Nat.zero_add] at hst hK
  have hag : ∀ i, i ≤ n → Agree l.toArray n vs a (fun j => decide (j < i)) (st i) := by
    intro i
    induction i with
    | zero =>
      intro _
      rw [hst0]
      exact ⟨rfl, rfl, fun _ _ _ _ h => by simp at h, fun _ _ _ => rfl⟩
    | succ i ih =>
      intro hi
      obtain ⟨h1, o, ho, _⟩ := hst i (Nat.zero_le _) (by omega)
      rw [h1]
      refine (ih (by omega)).put (by omega) (by simp) (by simp) (fun j hj => ?_) (fun j hj hji t hd => hdd i (by omega) j hj hji t hd)
      simp; omega
  refine wp_region_inv (I := fun listed a' w' =>
    ((∀ t, n ≤ t → listed.getD t false = false) ∧ (∀ i, listed.getD i false = true → ∀ o, l.toArray[i]? = some o → ∀ e ∈ o.after, Region.binds .any e = true → listed.getD e.on false = true) ∧ C w' ∧
      ∃ us : Nat → Value, Agree l.toArray n (fun j => if un.contains j then us j else vs j) a (fun j => listed.getD j false) a' ∧
        (∀ x ∈ un, listed.getD x false = true → G x (us x) w')) ∨
    (∃ m, n ≤ m ∧ m ≤ l.length ∧ (∀ j, j < l.length → listed.getD j false = decide (j < m)) ∧ wpList P l.toArray Q (l.drop m) a' w')) hm ?_ ?_ ?_
  · have hf : ∀ t, (Array.replicate l.toArray.size false).getD t false = false := fun t => by
      simp [Array.getElem?_replicate]
      split <;> rfl
    refine .inl ⟨fun t _ => hf t, fun i hi => (by rw [hf] at hi; cases hi), hC, fun _ => undef, ⟨rfl, rfl, fun _ _ i _ h => (by rw [hf] at h; cases h), fun _ _ _ => rfl⟩, fun x _ h => (by rw [hf] at h; cases h)⟩
  · intro listed a' w' i hsz hI hi
    obtain ⟨hun, o, ho, hall⟩ := mem_ready.1 hi
    have hil : i < l.length := by simpa using (Array.getElem?_eq_some_iff.1 ho).1
    have hun' : listed.getD i false = false := by rw [← getD_ft (by rw [hsz]; simpa using hil)]; exact hun
    have hw8 : ∀ j, waits l.toArray i j = true → listed.getD j false = true := fun j hj => by
      obtain ⟨o', ho', e, he, hb, hon⟩ := waits_spec hj
      have : o' = o := Option.some.inj (ho'.symm.trans ho)
      subst this
      rw [← hon]; exact hall e he hb
    have hsi : (listed.setIfInBounds i true).getD i false = true := by
      have : i < listed.size := by rw [hsz]; simpa using hil
      simp [this]
    have hsn : ∀ j, j ≠ i → (listed.setIfInBounds i true).getD j false = listed.getD j false := fun j hj => by
      simp only [Array.getD_eq_getD_getElem?]
      rw [Array.getElem?_setIfInBounds_ne (Ne.symm hj)]
    have two : ∀ m, n ≤ m → m ≤ l.length → (∀ j, j < l.length → listed.getD j false = decide (j < m)) → wpList P l.toArray Q (l.drop m) a' w' →
        wpOp P l.toArray Q i (fun a'' w'' => (∃ m, n ≤ m ∧ m ≤ l.length ∧ (∀ j, j < l.length → (listed.setIfInBounds i true).getD j false = decide (j < m)) ∧ wpList P l.toArray Q (l.drop m) a'' w'')) a' w' := by
      intro m hnm hml hlist hw
      have him : i = m := by
        have h1 : ¬ i < m := fun hlt => by have := hlist i hil; rw [hun'] at this; simp at this; omega
        rcases Nat.lt_or_ge m i with h2 | h2
        · have h3 := hw8 (i - 1) (b5 i (by omega) (by simpa using hil))
          have h4 := hlist (i - 1) (by omega)
          rw [h3] at h4; simp at h4; omega
        · omega
      subst him
      have hd : l.drop i = o :: l.drop (i + 1) := by
        have ho' : l[i] = o := by
          have := (Array.getElem?_eq_some_iff.1 ho).2
          simpa using this
        rw [← ho']; exact List.drop_eq_getElem_cons hil
      rw [hd] at hw
      have hw' : wpOp P l.toArray Q i (wpList P l.toArray Q (l.drop (i + 1))) a' w' := by
        unfold wpOp; simp only [ho]; exact hw
      refine wpOp_mono (fun a'' w'' h'' => ⟨i + 1, by omega, by omega, fun j hj => ?_, h''⟩) hw'
      by_cases hji : j = i
      · subst hji; rw [hsi]; simp
      · rw [hsn j hji, hlist j hj]
        by_cases hjl : j < i
        · simp [hjl]; omega
        · simp [hjl]; omega
    rcases hI with ⟨hno, hdc, hCw, us, hAg, hbl⟩ | ⟨m, hnm, hml, hlist, hw⟩
    · have hdc' : ∀ k, (listed.setIfInBounds i true).getD k false = true → ∀ ok, l.toArray[k]? = some ok → ∀ e ∈ ok.after, Region.binds .any e = true → (listed.setIfInBounds i true).getD e.on false = true := by
        intro k hk ok hok e he hb
        have hset : ∀ j, listed.getD j false = true → (listed.setIfInBounds i true).getD j false = true := fun j hj => by
          by_cases hji : j = i
          · subst hji; exact hsi
          · rw [hsn j hji]; exact hj
        by_cases hki : k = i
        · subst hki
          have : ok = o := Option.some.inj (hok.symm.trans ho)
          subst this
          exact hset _ (hall e he hb)
        · rw [hsn k hki] at hk
          exact hset _ (hdc k hk ok hok e he hb)
      by_cases hin : i < n
      · have hno' : ∀ t, n ≤ t → (listed.setIfInBounds i true).getD t false = false := fun t ht => by rw [hsn t (by omega)]; exact hno t ht
        have hdo : o.dst = dstOf l.toArray i := by simp [dstOf, ho]
        obtain ⟨_, o', ho', hy⟩ := hst i (Nat.zero_le _) hin
        have : o' = o := Option.some.inj (ho'.symm.trans ho)
        subst this
        obtain ⟨b21, b22⟩ := b2 i o' hin ho
        have hev := hAg.eval2 (hag i (by omega)) (o := o') b21 (fun j hj t hd ht => by
          have hjal : un.contains j = false := by
            cases hj2 : un.contains j with
            | false => rfl
            | true => exact absurd ht ((hA' j (List.contains_iff_mem.1 hj2)).2 i hin o' ho t hd)
          refine ⟨?_, by simp only [hjal, Bool.false_eq_true, if_false]⟩
          obtain ⟨_, c2⟩ := b22 j t hj hd
          obtain ⟨c3, c4⟩ := c2 ht
          rcases Nat.lt_trichotomy j i with h1 | h1 | h1
          · simp only [h1, decide_true]; exact hw8 j (c3 h1)
          · subst h1; simp only [Nat.lt_irrefl, decide_false]; exact hun'
          · have : ¬ j < i := by omega
            simp only [this, decide_false]
            cases hl : listed.getD j false with
            | false => rfl
            | true =>
              obtain ⟨oj, hoj, e, he, hb, hon⟩ := waits_spec (c4 h1)
              have := hdc j hl oj hoj e he hb
              rw [hon, hun'] at this; cases this)
        have done : ∀ w'' u, C w'' → Ext w' w'' → (un.contains i = true → G i u w'') → (un.contains i = false → u = vs i) → (fun a'' w'' => ((∀ t, n ≤ t → (listed.setIfInBounds i true).getD t false = false) ∧ (∀ k, (listed.setIfInBounds i true).getD k false = true → ∀ o, l.toArray[k]? = some o → ∀ e ∈ o.after, Region.binds .any e = true → (listed.setIfInBounds i true).getD e.on false = true) ∧ C w'' ∧
            ∃ us : Nat → Value, Agree l.toArray n (fun j => if un.contains j then us j else vs j) a (fun j => (listed.setIfInBounds i true).getD j false) a'' ∧
              (∀ x ∈ un, (listed.setIfInBounds i true).getD x false = true → G x (us x) w'')) ∨
          (∃ m, n ≤ m ∧ m ≤ l.length ∧ (∀ j, j < l.length → (listed.setIfInBounds i true).getD j false = decide (j < m)) ∧ wpList P l.toArray Q (l.drop m) a'' w'')) (a'.put o'.dst u) w'' := by
          intro w'' u hC'' hE hGu hku
          refine .inl ⟨hno', hdc', hC'', fun j => if j = i then u else us j, ?_, fun x hx hlx => ?_⟩
          · rw [hdo]
            have h5 : Agree l.toArray n (fun j => if un.contains j then (if j = i then u else us j) else vs j) a (fun j => listed.getD j false) a' :=
              hAg.cong fun j hj hS => by
                by_cases hji : j = i
                · subst hji; rw [hun'] at hS; cases hS
                · simp only [if_neg hji]
            have h6 := h5.put (S' := fun j => (listed.setIfInBounds i true).getD j false) hin hun' hsi (fun j hj => hsn j hj) (fun j hj hji t hd => hdd i hin j hj hji t hd)
            have h9 : (if un.contains i = true then (if i = i then u else us i) else vs i) = u := by
              cases hui : un.contains i with
              | true => simp
              | false => rw [if_neg (by simp)]; exact (hku hui).symm
            have h8 : Agree l.toArray n (fun j => if un.contains j then (if j = i then u else us j) else vs j) a (fun j => (listed.setIfInBounds i true).getD j false) (a'.put (dstOf l.toArray i) (if un.contains i = true then (if i = i then u else us i) else vs i)) := h6
            rw [h9] at h8
            exact h8
          · show G x (if x = i then u else us x) w''
            by_cases hxi : x = i
            · subst hxi; rw [if_pos rfl]; exact hGu (List.contains_iff_mem.2 hx)
            · rw [if_neg hxi]
              rw [hsn x hxi] at hlx
              exact hG _ _ _ _ (hbl x hx hlx) hE
        unfold wpOp
        simp only [ho]
        rcases hy with ⟨hui, hgn, hy⟩ | ⟨hui, hw, hy⟩ | ⟨hui, hw, hy⟩
        · rw [if_pos (by simp [Region.wanted, hgn])]
          refine .inl ?_
          have h3 := hy w' hCw
          rw [← hev.1] at h3
          unfold Oper.wp
          generalize (execOp a'.eval o').run P w' = r at h3 ⊢
          have hno2 : un.contains i = false → ∀ u : Value, u = vs i := fun h => by rw [hui] at h; cases h
          cases r with
          | ok nx w'' =>
            cases nx <;> simp only [uponU] at h3 <;> simp only [Oper.upon]
            case value u => exact done _ u h3.1 h3.2.1 (fun _ => h3.2.2) (fun h => hno2 h u)
            case enter f args =>
              obtain ⟨e1, hc⟩ := h3
              rw [e1]
              exact hc.mono fun e w3 ⟨v, he, h0, h1, h2⟩ => by subst he; exact done _ v h1 h2 (fun _ => h0) (fun h => hno2 h v)
          | halt x w'' => simp only [uponU] at h3
        · rw [if_pos (by rw [hev.2]; exact hw)]
          refine .inl ?_
          have h3 := hy w' hCw
          rw [← hev.1] at h3
          unfold Oper.wp
          generalize (execOp a'.eval o').run P w' = r at h3 ⊢
          have hno2 : ∀ v w, un.contains i = true → G i v w := fun v w h => by rw [hui] at h; cases h
          cases r with
          | ok nx w'' =>
            cases nx <;> simp only [uponE] at h3 <;> simp only [Oper.upon]
            case value u =>
              obtain ⟨e1, e2⟩ := h3
              rw [e1, e2]
              exact done _ _ hCw (Ext.refl _) (hno2 _ _) (fun _ => rfl)
            case skip =>
              obtain ⟨e1, e2⟩ := h3
              rw [e1]
              exact done _ _ hCw (Ext.refl _) (hno2 _ _) (fun _ => e2.symm)
            case enter f args =>
              obtain ⟨e1, hc⟩ := h3
              rw [e1]
              exact hc.mono fun e w3 ⟨he, h1, h2⟩ => by subst he; exact done _ _ h1 h2 (hno2 _ _) (fun _ => rfl)
          | halt x w'' => simp only [uponE] at h3
        · rw [if_neg (by rw [hev.2, hw]; simp)]
          exact done _ _ hCw (Ext.refl _) (fun h => by rw [hui] at h; cases h) (fun _ => hy.symm)
      · have hin2 : i = n := by
          rcases Nat.lt_or_ge n i with h1 | h1
          · have h2 := hw8 (i - 1) (b5 i h1 (by simpa using hil))
            rw [hno (i - 1) (by omega)] at h2; cases h2
          · omega
        have hall2 : ∀ j, j < i → listed.getD j false = true := by
          have key : ∀ d j, i - j = d → j < i → listed.getD j false = true := by
            intro d
            induction d using Nat.strongRecOn with
            | _ d ih =>
              intro j hd hj
              obtain ⟨k, hjk, hkn, hw⟩ := b3 (by simpa [hin2] using hil) j (by omega)
              by_cases hki : k = i
              · subst hki; exact hw8 j hw
              · have hk := ih (i - k) (by omega) k rfl (by omega)
                obtain ⟨ok, hok, e, he, hb, hon⟩ := waits_spec hw
                rw [← hon]; exact hdc k hk ok hok e he hb
          exact fun j hj => key _ j rfl hj
        have hfin := putUn_agree (us := us) (S := fun j => decide (j < n)) hdd un vs (st n) (fun x hx => ⟨(hA' x hx).1, by simpa using (hA' x hx).1⟩) (hag n (Nat.le_refl _))
        have hae : a' = putUn l.toArray us un (st n) := hAg.eq hfin fun j hj => by
          rw [hall2 j (by omega)]; simp [hj]
        refine wpOp_mono (fun a'' w'' h'' => .inr h'') (two n (Nat.le_refl _) (by omega) (fun j hj => ?_) ?_)
        · by_cases hjn : j < n
          · rw [hall2 j (by omega)]; simp [hjn]
          · rw [hno j (by omega)]; simp [hjn]
        · rw [hae]
          have hlx : ∀ x ∈ un, listed.getD x false = true := fun x hx => hall2 _ (by have := (hA' x hx).1; omega)
          exact hK us w' hCw (fun x hx => hbl x hx (hlx x hx))
    · exact wpOp_mono (fun a'' w'' h'' => .inr h'') (two m hnm hml hlist hw)
  · intro listed a' w' hsz hI hr
    have hsz' : listed.size = l.length := by rw [hsz]; simp
    rcases hI with ⟨hno, hdc, hCw, us, hAg, hbl⟩ | ⟨m, hnm, hml, hlist, hw⟩
    · have hall : ∀ i, i < l.length → listed.getD i false = true := by
        intro i
        induction i using Nat.strongRecOn with
        | _ i ih =>
          intro hi
          cases hl : listed.getD i false with
          | true => rfl
          | false =>
            have := mem_ready_of (ops := l.toArray) hsz (by simpa using hi) hl (fun j hj => ih j hj (by omega)) (fun o ho e he hb => b1 i o ho e he hb)
            rw [hr] at this; cases this
      have hn : n = l.length := by
        rcases Nat.lt_or_ge n l.length with h1 | h1
        · have := hall n h1
          rw [hno n (Nat.le_refl _)] at this; cases this
        · omega
      have hfin := putUn_agree (us := us) (S := fun j => decide (j < n)) hdd un vs (st n) (fun x hx => ⟨(hA' x hx).1, by simpa using (hA' x hx).1⟩) (hag n (Nat.le_refl _))
      have hae : a' = putUn l.toArray us un (st n) := hAg.eq hfin fun j hj => by
        rw [hall j (by omega)]; simp [hj]
      have hlx : ∀ x ∈ un, listed.getD x false = true := fun x hx => hall _ (by have := (hA' x hx).1; omega)
      have := hK us w' hCw (fun x hx => hbl x hx (hlx x hx))
      rw [hae]
      rw [hn, List.drop_length] at this
      rw [hn]
      exact this
    · have hml' : m = l.length := by
        rcases Nat.lt_or_ge m l.length with h1 | h1
        · have := mem_ready_of (ops := l.toArray) hsz (by simpa using h1) (by rw [hlist m h1]; simp) (fun j hj => by rw [hlist j (by omega)]; simp [hj]) (fun o ho e he hb => b1 m o ho e he hb)
          rw [hr] at this; cases this
        · omega
      rw [hml', List.drop_length] at hw
      exact hw

theorem yieldsU_call {o : Oper} {a : Act} {f : FuncId} {xs : Array Operand} {ts : Array TypeId} {args : Array Value} {G : Value → World → Prop} (ho : o.op = .call { callee := .value (.func f), args := xs, argTypes := ts })
    (hf : ∀ args w, (callFunc f args).run P w = .ok (.enter f args) w) (ha : xs.map a.eval = args)
    (hc : ∀ w, C w → Calls P f args w (fun e w' => ∃ v, e = .returned v ∧ G v w' ∧ Ext w w')) (hC : ∀ w w', C w → Ext w w' → C w') : yieldsU P C o a G := by
  intro w hw
  have hr : (execOp a.eval o).run P w = .ok (.enter f args) w := by
    unfold execOp
    simp only [ho, resolve, Act.eval, Deferred.ofValue, Sem.run_bind, Sem.run_pure, Result.andThen_ok, invoke]
    have : (#[] ++ xs.map a.eval ++ #[] : Array Value) = args := by simp [ha]
    simpa [ha] using hf args w
  rw [hr]
  exact ⟨rfl, (hc w hw).mono fun e w' ⟨v, h1, h2, h3⟩ => ⟨v, h1, h2, hC _ _ hw h3, h3⟩⟩
end
end

section
open Go Go.RowKit Go.Maps Go.MapKept Go.WideShapes
set_option linter.unusedSectionVars false

/-- values that stand for keys of type k -/
structure KeyV {K : Type} (P : Program) (k : TypeId) (kv : K → Value) (good : K → Prop) : Prop where
  keyed : Keyed P k
  key : ∀ x, good x → ∃ l, keyOf P k (kv x) = some l
  inj : ∀ x y, kv x = kv y → x = y

section plain
variable {K V : Type} [DecidableEq K]
structure EntsG (good : K → Prop) (hs : List (K × V)) : Prop where
  good : ∀ p ∈ hs, good p.1
  nodup : (hs.map Prod.fst).Nodup
theorem EntsG.nil {good : K → Prop} : EntsG good ([] : List (K × V)) := ⟨by simp, by simp⟩
def ixG (k : K) (hs : List (K × V)) : Option Nat := hs.findIdx? (fun p => decide (p.1 = k))
def getG (hs : List (K × V)) (k : K) : Option V := match ixG k hs with | some i => hs[i]?.map Prod.snd | none => none
def setG (hs : List (K × V)) (k : K) (v : V) : List (K × V) := match ixG k hs with | some i => hs.set i (k, v) | none => hs ++ [(k, v)]
def delG (hs : List (K × V)) (k : K) : List (K × V) := match ixG k hs with | some i => hs.eraseIdx i | none => hs

theorem ixG_none {k : K} {hs : List (K × V)} : ixG k hs = none ↔ ∀ p ∈ hs, p.1 ≠ k := by
  unfold ixG
  rw [List.findIdx?_eq_none_iff]
  simp
theorem ixG_lt {k : K} {hs : List (K × V)} {i : Nat} (h : ixG k hs = some i) : i < hs.length := by
  unfold ixG at h
  exact (List.findIdx?_eq_some_iff_getElem.1 h).1
theorem ixG_at {k : K} {hs : List (K × V)} {i : Nat} (h : ixG k hs = some i) : ∃ v, hs[i]? = some (k, v) := by
  have hl := ixG_lt h
  unfold ixG at h
  obtain ⟨_, h2, _⟩ := List.findIdx?_eq_some_iff_getElem.1 h
  have h3 : hs[i].1 = k := of_decide_eq_true h2
  exact ⟨hs[i].2, by rw [List.getElem?_eq_getElem hl, ← h3]⟩
theorem nodup_ixG {hs : List (K × V)} (h : (hs.map Prod.fst).Nodup) {i j : Nat} {k : K} {v u : V} (hi : hs[i]? = some (k, v)) (hj : hs[j]? = some (k, u)) : i = j := by
  have h1 : (hs.map Prod.fst)[i]? = some k := by rw [List.getElem?_map, hi]; rfl
  have h2 : (hs.map Prod.fst)[j]? = some k := by rw [List.getElem?_map, hj]; rfl
  have hil : i < (hs.map Prod.fst).length := (List.getElem?_eq_some_iff.1 h1).1
  exact (List.getElem?_inj hil h).1 (h1.trans h2.symm)
theorem ixG_of {hs : List (K × V)} (h : (hs.map Prod.fst).Nodup) {j : Nat} {k : K} {v : V} (hj : hs[j]? = some (k, v)) : ixG k hs = some j := by
  cases hx : ixG k hs with
  | none => exact absurd rfl (ixG_none.1 hx _ (List.mem_of_getElem? hj))
  | some i =>
    obtain ⟨u, hu⟩ := ixG_at hx
    rw [nodup_ixG h hu hj]
theorem map_set_selfG {α β : Type} {f : α → β} {l : List α} {i : Nat} {x y : α} (hx : l[i]? = some x) (h : f x = f y) : (l.set i y).map f = l.map f := by
  rw [List.map_set, ← h]
  apply List.ext_getElem?
  intro j
  rw [List.getElem?_set]
  split
  · rename_i e
    subst e
    split
    · rw [List.getElem?_map, hx]; rfl
    · rename_i h2
      rw [List.getElem?_eq_none (by omega)]
  · rfl
theorem map_eraseG {α β : Type} (f : α → β) (l : List α) (i : Nat) : (l.eraseIdx i).map f = (l.map f).eraseIdx i := by
  rw [List.eraseIdx_eq_take_drop_succ, List.eraseIdx_eq_take_drop_succ, List.map_append, List.map_take, List.map_drop]
theorem getG_of {hs : List (K × V)} (h : (hs.map Prod.fst).Nodup) {k : K} {v : V} (hm : (k, v) ∈ hs) : getG hs k = some v := by
  obtain ⟨j, hj⟩ := List.getElem?_of_mem hm
  unfold getG
  rw [ixG_of h hj]
  simp [hj]
theorem getG_mem {hs : List (K × V)} {k : K} {v : V} (h : getG hs k = some v) : (k, v) ∈ hs := by
  unfold getG at h
  cases hx : ixG k hs with
  | none => rw [hx] at h; cases h
  | some i =>
    obtain ⟨u, hu⟩ := ixG_at hx
    rw [hx] at h
    simp only [hu, Option.map_some, Option.some.injEq] at h
    subst h
    exact List.mem_of_getElem? hu
theorem getG_none {hs : List (K × V)} {k : K} : getG hs k = none ↔ ∀ p ∈ hs, p.1 ≠ k := by
  unfold getG
  cases hx : ixG k hs with
  | none => simp only [true_iff]; exact ixG_none.1 hx
  | some i =>
    obtain ⟨u, hu⟩ := ixG_at hx
    simp only [hu, Option.map_some, reduceCtorEq, false_iff]
    intro h
    exact h _ (List.mem_of_getElem? hu) rfl
theorem getG_isSome {hs : List (K × V)} {k : K} : (getG hs k).isSome = (ixG k hs).isSome := by
  unfold getG
  cases hx : ixG k hs with
  | none => rfl
  | some i =>
    obtain ⟨u, hu⟩ := ixG_at hx
    simp [hu]
theorem EntsG.set {good : K → Prop} {hs : List (K × V)} (h : EntsG good hs) {k : K} (v : V) (hk : good k) : EntsG good (setG hs k v) := by
  unfold setG
  cases hx : ixG k hs with
  | none =>
    refine ⟨fun p hp => ?_, ?_⟩
    · rcases List.mem_append.1 hp with h1 | h1
      · exact h.good p h1
      · simp at h1; subst h1; exact hk
    · simp only [List.map_append, List.map_cons, List.map_nil]
      rw [List.nodup_append]
      refine ⟨h.nodup, by simp, fun a ha b hb => ?_⟩
      simp at hb
      subst hb
      obtain ⟨p, hp, rfl⟩ := List.mem_map.1 ha
      exact ixG_none.1 hx p hp
  | some i =>
    obtain ⟨u, hu⟩ := ixG_at hx
    refine ⟨fun p hp => ?_, ?_⟩
    · rcases List.mem_or_eq_of_mem_set hp with h1 | h1
      · exact h.good p h1
      · subst h1; exact hk
    · have : (hs.set i (k, v)).map Prod.fst = hs.map Prod.fst := map_set_selfG hu rfl
      show ((hs.set i (k, v)).map Prod.fst).Nodup
      rw [this]; exact h.nodup
theorem EntsG.sub {good : K → Prop} {hs hs' : List (K × V)} (h : EntsG good hs) (hl : hs'.Sublist hs) : EntsG good hs' :=
  ⟨fun p hp => h.good p (hl.mem hp), h.nodup.sublist (hl.map _)⟩
theorem delG_sub (hs : List (K × V)) (k : K) : (delG hs k).Sublist hs := by
  unfold delG
  cases ixG k hs with
  | none => exact List.Sublist.refl _
  | some i => exact List.eraseIdx_sublist hs i
theorem EntsG.del {good : K → Prop} {hs : List (K × V)} (h : EntsG good hs) (k : K) : EntsG good (delG hs k) := h.sub (delG_sub hs k)
theorem mem_setG {hs : List (K × V)} (h : (hs.map Prod.fst).Nodup) {k : K} {v : V} {p : K × V} : p ∈ setG hs k v ↔ p = (k, v) ∨ (p ∈ hs ∧ p.1 ≠ k) := by
  unfold setG
  cases hx : ixG k hs with
  | none =>
    simp only [List.mem_append, List.mem_singleton]
    constructor
    · rintro (h1 | h1)
      · exact .inr ⟨h1, ixG_none.1 hx p h1⟩
      · exact .inl h1
    · rintro (h1 | h1)
      · exact .inr h1
      · exact .inl h1.1
  | some i =>
    obtain ⟨u, hu⟩ := ixG_at hx
    have hil := (List.getElem?_eq_some_iff.1 hu).1
    constructor
    · intro hp
      obtain ⟨j, hj⟩ := List.getElem?_of_mem hp
      simp only [List.getElem?_set] at hj
      split at hj
      · first
          | exact .inl (Option.some.inj hj).symm
          | (split at hj
             · exact .inl (Option.some.inj hj).symm
             · cases hj)
      · rename_i hne
        refine .inr ⟨List.mem_of_getElem? hj, fun e => hne ?_⟩
        obtain ⟨p1, p2⟩ := p
        simp only at e
        subst e
        exact nodup_ixG h hu hj
    · rintro (h1 | ⟨h1, h2⟩)
      · subst h1
        exact List.mem_of_getElem? (i := i) (by simp [hil])
      · obtain ⟨j, hj⟩ := List.getElem?_of_mem h1
        refine List.mem_of_getElem? (i := j) ?_
        simp only [List.getElem?_set]
        rw [if_neg, hj]
        rintro rfl
        rw [hu] at hj
        exact h2 (by rw [← Option.some.inj hj])
theorem mem_delG {hs : List (K × V)} (h : (hs.map Prod.fst).Nodup) {k : K} {p : K × V} : p ∈ delG hs k ↔ p ∈ hs ∧ p.1 ≠ k := by
  unfold delG
  cases hx : ixG k hs with
  | none => exact ⟨fun h1 => ⟨h1, ixG_none.1 hx p h1⟩, fun h1 => h1.1⟩
  | some i =>
    obtain ⟨u, hu⟩ := ixG_at hx
    rw [List.mem_eraseIdx_iff_getElem?]
    constructor
    · rintro ⟨j, hne, hj⟩
      refine ⟨List.mem_of_getElem? hj, fun e => hne ?_⟩
      obtain ⟨p1, p2⟩ := p
      simp only at e
      subst e
      exact nodup_ixG h hj hu
    · rintro ⟨h1, h2⟩
      obtain ⟨j, hj⟩ := List.getElem?_of_mem h1
      refine ⟨j, fun e => ?_, hj⟩
      subst e
      rw [hu] at hj
      exact h2 (by rw [← Option.some.inj hj])
theorem getG_setG {good : K → Prop} {hs : List (K × V)} (h : EntsG good hs) {k k' : K} (v : V) (hk : good k) : getG (setG hs k v) k' = if k' = k then some v else getG hs k' := by
  have hn := (h.set v hk).nodup
  by_cases e : k' = k
  · subst e
    rw [if_pos rfl]
    exact getG_of hn ((mem_setG h.nodup).2 (.inl rfl))
  · rw [if_neg e]
    cases hg : getG hs k' with
    | none =>
      rw [getG_none] at hg ⊢
      intro p hp
      rcases (mem_setG h.nodup).1 hp with h1 | h1
      · subst h1; exact fun e2 => e e2.symm
      · exact hg p h1.1
    | some u => exact getG_of hn ((mem_setG h.nodup).2 (.inr ⟨getG_mem hg, e⟩))
theorem getG_delG {good : K → Prop} {hs : List (K × V)} (h : EntsG good hs) {k k' : K} : getG (delG hs k) k' = if k' = k then none else getG hs k' := by
  have hn := (h.del k).nodup
  by_cases e : k' = k
  · subst e
    rw [if_pos rfl, getG_none]
    intro p hp
    exact ((mem_delG h.nodup).1 hp).2
  · rw [if_neg e]
    cases hg : getG hs k' with
    | none =>
      rw [getG_none] at hg ⊢
      intro p hp
      exact hg p ((mem_delG h.nodup).1 hp).1
    | some u => exact getG_of hn ((mem_delG h.nodup).2 ⟨getG_mem hg, e⟩)
end plain

section
variable {P : Program} {K V : Type} [DecidableEq K] {kv : K → Value} {vv : V → Value} {good : K → Prop}
/-- block g is the map of these pairs, in this order of their coming -/
def MapG (kv : K → Value) (vv : V → Value) (w : World) (g : Nat) (hs : List (K × V)) : Prop :=
  ∃ es clock, w.heap[g]? = some (.map es clock) ∧ es.toList.map (fun e => (e.key, e.val)) = hs.map (fun p => (kv p.1, vv p.2)) ∧ Stamped es clock
theorem MapG.lt {w : World} {g : Nat} {hs : List (K × V)} (h : MapG kv vv w g hs) : g < w.heap.size := by
  obtain ⟨es, c, hb, _⟩ := h
  exact (Array.getElem?_eq_some_iff.1 hb).1
theorem MapG.keep {w w' : World} {g : Nat} {hs : List (K × V)} (h : MapG kv vv w g hs) (e : w'.heap[g]? = w.heap[g]?) : MapG kv vv w' g hs := by
  obtain ⟨es, c, hb, h1, h2⟩ := h
  exact ⟨es, c, e.trans hb, h1, h2⟩
theorem MapG.ext {w w' : World} {g : Nat} {hs : List (K × V)} (h : MapG kv vv w g hs) (e : Ext w w') : MapG kv vv w' g hs := h.keep (e.block g h.lt)
theorem MapG.upd {w w' : World} {g q : Nat} {hs : List (K × V)} (h : MapG kv vv w g hs) (u : Upd w q w') (hq : g ≠ q) : MapG kv vv w' g hs := h.keep (u.block g hq)
theorem MapG.grown {w w' : World} {g : Nat} {hs : List (K × V)} {r : Option Nat} (h : MapG kv vv w g hs) (k : w.grownBy w' r) (hr : some g ≠ r) : MapG kv vv w' g hs := h.keep (k.block g h.lt hr)
theorem MapG.new (w : World) : MapG kv vv (w.alloc (.map #[] 0)) w.heap.size [] := ⟨#[], 0, by show (w.heap.push _)[w.heap.size]? = _; simp, rfl, stamped_empty 0⟩

theorem entG_at {es : Array MapEntry} {hs : List (K × V)} (h : es.toList.map (fun e => (e.key, e.val)) = hs.map (fun p => (kv p.1, vv p.2))) {j : Nat} {e : MapEntry} (he : es.toList[j]? = some e) : ∃ k v, hs[j]? = some (k, v) ∧ e.key = kv k ∧ e.val = vv v := by
  have h1 : (hs.map (fun p => (kv p.1, vv p.2)))[j]? = some (e.key, e.val) := by rw [← h, List.getElem?_map, he]; rfl
  rw [List.getElem?_map] at h1
  cases hj : hs[j]? with
  | none => rw [hj] at h1; simp at h1
  | some p =>
    rw [hj] at h1
    simp only [Option.map_some, Option.some.injEq, Prod.mk.injEq] at h1
    exact ⟨p.1, p.2, rfl, h1.1.symm, h1.2.symm⟩
variable {k : TypeId} (KV : KeyV P k kv good)
include KV
theorem entG_keys {es : Array MapEntry} {hs : List (K × V)} (hE : EntsG good hs) (h : es.toList.map (fun e => (e.key, e.val)) = hs.map (fun p => (kv p.1, vv p.2))) : ∀ e ∈ es.toList, ∃ l, keyOf P k e.key = some l := fun e he => by
  obtain ⟨j, hj⟩ := List.getElem?_of_mem he
  obtain ⟨x, v, hp, hk, _⟩ := entG_at h hj
  rw [hk]
  exact KV.key x (hE.good _ (List.mem_of_getElem? hp))
theorem findG {es : Array MapEntry} {hs : List (K × V)} (w : World) (hE : EntsG good hs) (h : es.toList.map (fun e => (e.key, e.val)) = hs.map (fun p => (kv p.1, vv p.2))) {x : K} (hk : good x) :
    (ixG x hs = none ∧ (Instr.findKey k (kv x) es.toList).run P w = .ok none w ∧ ∀ e ∈ es.toList, e.key ≠ kv x) ∨
    ∃ j e v, ixG x hs = some j ∧ hs[j]? = some (x, v) ∧ es.toList[j]? = some e ∧ e.key = kv x ∧ e.val = vv v ∧ (Instr.findKey k (kv x) es.toList).run P w = .ok (some (j, vv v)) w := by
  obtain ⟨kl, hkl⟩ := KV.key x hk
  rcases KV.keyed.find w (x := kv x) hkl es.toList (entG_keys KV hE h) with ⟨h1, h2⟩ | ⟨j, e, h1, h2, h3⟩
  · refine .inl ⟨ixG_none.2 fun p hp hpk => ?_, h1, h2⟩
    obtain ⟨j, hj⟩ := List.getElem?_of_mem hp
    have h4 : (es.toList.map (fun e => (e.key, e.val)))[j]? = some (kv p.1, vv p.2) := by rw [h, List.getElem?_map, hj]; rfl
    rw [List.getElem?_map] at h4
    cases he : es.toList[j]? with
    | none => rw [he] at h4; simp at h4
    | some e =>
      rw [he] at h4
      simp only [Option.map_some, Option.some.injEq, Prod.mk.injEq] at h4
      exact h2 e (List.mem_of_getElem? he) (by rw [h4.1, hpk])
  · obtain ⟨k', v, hp, hk', hv⟩ := entG_at h h2
    obtain rfl : k' = x := KV.inj _ _ (hk'.symm.trans h3)
    exact .inr ⟨j, e, v, ixG_of hE.nodup hp, hp, h2, h3, hv, by rw [h1, hv]⟩
theorem checkG (w : World) (em : Bool) {x : K} (hk : good x) : (Instr.checkKey em 10000 k (kv x)).run P w = .ok () w := by
  obtain ⟨kl, hkl⟩ := KV.key x hk
  exact KV.keyed.check w em hkl
variable {t e : TypeId} (ht : P.underlying t = some (.map k e)) {w : World} {g : Nat} {hs : List (K × V)} {x : K}
include ht
/-- what a look-up hands back -/
def lookV (vv : V → Value) (z : Value) (o : Option V) : Value := match o with | some v => vv v | none => z
omit KV ht in
theorem lookV_some (z : Value) (v : V) : lookV vv z (some v) = vv v := rfl
theorem run_getG {z : Value} (hz : (zeroValue e).run P w = .ok z w) (h : MapG kv vv w g hs) (hE : EntsG good hs) (hk : good x) (c : Bool) :
    (Instr.lookup t (.map (some g)) (kv x) c).run P w = .ok (if c then .tuple #[lookV vv z (getG hs x), .bool (getG hs x).isSome] else lookV vv z (getG hs x)) w := by
  obtain ⟨es, clock, hb, hp, hst⟩ := h
  rcases findG KV w hE hp hk with ⟨h1, h2, _⟩ | ⟨j, e0, v, h1, h2, _, _, _, h3⟩
  · have hg : getG hs x = none := by unfold getG; rw [h1]
    rw [hg]
    simp [Instr.lookup, run_underlying ht, MapKept.run_getObj_map hb, checkG KV w _ hk, h2, hz, Result.andThen, lookV]
    all_goals (cases c <;> rfl)
  · have hg : getG hs x = some v := by unfold getG; rw [h1]; simp [h2]
    rw [hg]
    simp [Instr.lookup, run_underlying ht, MapKept.run_getObj_map hb, checkG KV w _ hk, h3, Result.andThen, lookV]
    all_goals (cases c <;> rfl)
omit KV in
theorem run_lenG {ty : TypeId} (h : MapG kv vv w g hs) : (Builtin.len_ #[t] ty #[.map (some g)]).run P w = .ok (.int .i64 (hs.length : Int)) w := by
  obtain ⟨es, c, hb, hp, hv⟩ := h
  have hl : es.size = hs.length := by have := congrArg List.length hp; simpa using this
  simp [Builtin.len_, run_underlying ht, MapKept.run_getObj_map hb, hl, goInt]
omit KV ht in
theorem upd_objG (w : World) (g : Nat) (o : Obj) : Upd w g { w with heap := w.heap.setIfInBounds g o } := ⟨rfl, rfl, rfl, by simp, fun j hj => by
    show (w.heap.setIfInBounds g o)[j]? = _
    rw [Array.getElem?_setIfInBounds_ne (Ne.symm hj)]⟩
omit KV ht in
theorem obj_setG {w : World} {g : Nat} (hg : g < w.heap.size) (o : Obj) : ({ w with heap := w.heap.setIfInBounds g o } : World).heap[g]? = some o := by
  show (w.heap.setIfInBounds g o)[g]? = _
  rw [Array.getElem?_setIfInBounds_self_of_lt hg]
theorem run_setG {v : V} (h : MapG kv vv w g hs) (hE : EntsG good hs) (hk : good x) :
    ∃ w', (Instr.mapUpdate t (.map (some g)) (kv x) (vv v)).run P w = .ok () w' ∧ Upd w g w' ∧ MapG kv vv w' g (setG hs x v) := by
  have hg := h.lt
  obtain ⟨es, clock, hb, hp, hst⟩ := h
  obtain ⟨kl, hkl⟩ := KV.key x hk
  rcases findG KV w hE hp hk with ⟨h1, h2, h4⟩ | ⟨j, e0, u, h1, h2, h5, h6, h7, h3⟩
  · refine ⟨_, by simp [Instr.mapUpdate, run_underlying ht, MapKept.run_getObj_map hb, checkG KV w _ hk, h2, MapKept.run_setObj_map _ hb, Result.andThen]; rfl, upd_objG _ _ _, ⟨_, _, obj_setG hg _, ?_, stamped_push hst h4⟩⟩
    unfold setG
    rw [h1]
    simp [hp]
  · have hj : es[j]? = some e0 := by simpa using h5
    refine ⟨_, by simp [Instr.mapUpdate, run_underlying ht, MapKept.run_getObj_map hb, checkG KV w _ hk, h3, hj, h6, KV.keyed.stays w (v := kv x) hkl, MapKept.run_setObj_map _ hb, Result.andThen]; rfl, upd_objG _ _ _, ⟨_, _, obj_setG hg _, ?_, ?_⟩⟩
    · unfold setG
      rw [h1, Array.toList_modify, ChangeMaps.modify_eq_set _ _ _ _ h5, List.map_set, hp, List.map_set]
    · obtain ⟨s1, s2, s3⟩ := hst
      refine ⟨fun y hy => ?_, ?_, ?_⟩
      · rw [Array.toList_modify, ChangeMaps.modify_eq_set _ _ _ _ h5] at hy
        rcases List.mem_or_eq_of_mem_set hy with hy | rfl
        · exact s1 y hy
        · exact s1 e0 (List.mem_of_getElem? h5)
      · rw [Array.toList_modify, ChangeMaps.modify_eq_set _ _ _ _ h5]
        have hh : (es.toList.set j { e0 with key := kv x, val := vv v }).map (·.born) = es.toList.map (·.born) := map_set_selfG h5 rfl
        exact hh ▸ s2
      · rw [Array.toList_modify, ChangeMaps.modify_eq_set _ _ _ _ h5]
        have hh : (es.toList.set j { e0 with key := kv x, val := vv v }).map (·.key) = es.toList.map (·.key) := map_set_selfG h5 h6
        exact hh ▸ s3
theorem run_delG {ty : TypeId} (h : MapG kv vv w g hs) (hE : EntsG good hs) (hk : good x) :
    ∃ w', (Builtin.delete_ #[t, k] ty #[.map (some g), kv x]).run P w = .ok (.tuple #[]) w' ∧ Upd w g w' ∧ MapG kv vv w' g (delG hs x) := by
  have hg := h.lt
  obtain ⟨es, clock, hb, hp, hst⟩ := h
  rcases findG KV w hE hp hk with ⟨h1, h2, h4⟩ | ⟨j, e0, u, h1, h2, h5, h6, h7, h3⟩
  · refine ⟨_, by simp [Builtin.delete_, run_underlying ht, MapKept.run_getObj_map hb, checkG KV w _ hk, h2, MapKept.run_setObj_map _ hb, Result.andThen], upd_objG _ _ _, ⟨_, _, obj_setG hg _, ?_, hst⟩⟩
    unfold delG
    rw [h1]
    exact hp
  · refine ⟨_, by simp [Builtin.delete_, run_underlying ht, MapKept.run_getObj_map hb, checkG KV w _ hk, h3, MapKept.run_setObj_map _ hb, Result.andThen]; rfl, upd_objG _ _ _, ⟨_, _, obj_setG hg _, ?_, ?_⟩⟩
    · unfold delG
      rw [h1]
      simp only [Array.eraseIdxIfInBounds, dif_pos (show j < es.size by have := (List.getElem?_eq_some_iff.1 h5).1; simpa using this), Array.toList_eraseIdx, map_eraseG, hp]
    · obtain ⟨s1, s2, s3⟩ := hst
      have hl : (es.eraseIdxIfInBounds j).toList.Sublist es.toList := by
        simp only [Array.eraseIdxIfInBounds, dif_pos (show j < es.size by have := (List.getElem?_eq_some_iff.1 h5).1; simpa using this), Array.toList_eraseIdx]
        exact List.eraseIdx_sublist _ _
      exact ⟨fun y hy => s1 y (hl.mem hy), s2.sublist (hl.map _), s3.sublist (hl.map _)⟩
end
end

section
open Go Go.RowKit Go.Maps Go.MapKept Go.WideShapes
set_option linter.unusedSectionVars false
open Go.ChangeMaps (setBlock)

section
variable {P : Program} {K V : Type} [DecidableEq K] {kv : K → Value} {vv : V → Value} {good : K → Prop}
/-- a range over block g, its iterator in block r; lf are the keys that are still to come -/
def RngG (kv : K → Value) (vv : V → Value) (w : World) (g r : Nat) (hs : List (K × V)) (lf : List K) : Prop :=
  ∃ es clock since seen c0, w.heap[g]? = some (.map es clock) ∧ es.toList.map (fun e => (e.key, e.val)) = hs.map (fun p => (kv p.1, vv p.2)) ∧ Stamped es clock ∧
    w.heap[r]? = some (.mapIter (some g) since seen c0) ∧ (∀ x ∈ es.toList, x.born < since) ∧ since ≤ c0 ∧ since ≤ clock ∧ (leftOf es seen).toList.map (·.key) = lf.map kv
theorem RngG.map {w : World} {g r : Nat} {hs : List (K × V)} {lf : List K} (h : RngG kv vv w g r hs lf) : MapG kv vv w g hs := by
  obtain ⟨es, clock, since, seen, c0, hb, hp, hst, _⟩ := h
  exact ⟨es, clock, hb, hp, hst⟩
theorem RngG.lt {w : World} {g r : Nat} {hs : List (K × V)} {lf : List K} (h : RngG kv vv w g r hs lf) : r < w.heap.size := by
  obtain ⟨es, clock, since, seen, c0, hb, hp, hst, hr, _⟩ := h
  exact (Array.getElem?_eq_some_iff.1 hr).1
theorem RngG.ne {w : World} {g r : Nat} {hs : List (K × V)} {lf : List K} (h : RngG kv vv w g r hs lf) : r ≠ g := by
  obtain ⟨es, clock, since, seen, c0, hb, hp, hst, hr, _⟩ := h
  intro he
  rw [he, hb] at hr
  cases hr
theorem RngG.keep {w w' : World} {g r : Nat} {hs : List (K × V)} {lf : List K} (h : RngG kv vv w g r hs lf) (h1 : w'.heap[g]? = w.heap[g]?) (h2 : w'.heap[r]? = w.heap[r]?) : RngG kv vv w' g r hs lf := by
  obtain ⟨es, clock, since, seen, c0, hb, hp, hst, hr, hrest⟩ := h
  exact ⟨es, clock, since, seen, c0, h1.trans hb, hp, hst, h2.trans hr, hrest⟩
theorem RngG.ext {w w' : World} {g r : Nat} {hs : List (K × V)} {lf : List K} (h : RngG kv vv w g r hs lf) (e : Ext w w') : RngG kv vv w' g r hs lf := h.keep (e.block g h.map.lt) (e.block r h.lt)
theorem RngG.upd {w w' : World} {g r q : Nat} {hs : List (K × V)} {lf : List K} (h : RngG kv vv w g r hs lf) (u : Upd w q w') (h1 : g ≠ q) (h2 : r ≠ q) : RngG kv vv w' g r hs lf := h.keep (u.block g h1) (u.block r h2)
theorem RngG.grown {w w' : World} {g r : Nat} {hs : List (K × V)} {lf : List K} {q : Option Nat} (h : RngG kv vv w g r hs lf) (k : w.grownBy w' q) (h1 : some g ≠ q) (h2 : some r ≠ q) : RngG kv vv w' g r hs lf := h.keep (k.block g h.map.lt h1) (k.block r h.lt h2)
end

section
theorem left_pushG {es : Array MapEntry} {seen : Array Nat} {e : MapEntry} (hn : (es.toList.map (·.born)).Nodup) (he : e ∈ (leftOf es seen).toList) :
    ∃ A B, (leftOf es seen).toList = A ++ e :: B ∧ (leftOf es (seen.push e.born)).toList = A ++ B := by
  obtain ⟨A, B, hAB⟩ := List.append_of_mem he
  have h1 : (leftOf es (seen.push e.born)).toList = (leftOf es seen).toList.filter (fun x => x.born != e.born) := by
    unfold leftOf
    rw [Array.toList_filter, Array.toList_filter, List.filter_filter]
    apply List.filter_congr
    intro x _
    rw [contains_push]
    cases seen.contains x.born <;> cases hx : (x.born == e.born) <;> simp_all
  have hsub : ((leftOf es seen).toList.map (·.born)).Nodup := by
    unfold leftOf
    rw [Array.toList_filter]
    exact hn.sublist ((List.filter_sublist).map _)
  rw [hAB] at hsub h1
  rw [List.map_append, List.map_cons, List.nodup_append] at hsub
  obtain ⟨n1, n2, n3⟩ := hsub
  have hA : ∀ x ∈ A, (x.born != e.born) = true := fun x hx => by
    have := n3 x.born (List.mem_map.2 ⟨x, hx, rfl⟩) e.born (by simp)
    simpa using this
  have hB : ∀ x ∈ B, (x.born != e.born) = true := fun x hx => by
    rw [List.nodup_cons] at n2
    have : x.born ≠ e.born := fun hh => n2.1 (hh ▸ List.mem_map.2 ⟨x, hx, rfl⟩)
    simpa using this
  refine ⟨A, B, hAB, ?_⟩
  rw [h1, List.filter_append, List.filter_cons, List.filter_eq_self.2 hA, List.filter_eq_self.2 hB]
  simp

end
section
variable {P : Program} {K V : Type} [DecidableEq K] {kv : K → Value} {vv : V → Value} {good : K → Prop}
variable {ops : Array Oper} {rest : List Oper} {o : Oper} {a : Act} {w : World} {Q : Exit → Act → World → Prop}
theorem wpl_rangeG (hgd : o.guard = none) (t k e : TypeId) (ht : P.underlying t = some (.map k e)) (m : Operand) (hop : o.op = .range t m) {g : Nat} {hs : List (K × V)} (hm : a.eval m = .map (some g)) (h : MapG kv vv w g hs)
    (hK : ∀ w', RngG kv vv w' g w.heap.size hs (hs.map Prod.fst) → Ext w w' → w'.heap.size = w.heap.size + 1 → wpList P ops Q rest (a.put o.dst (.pointer (some ⟨w.heap.size, 0, none⟩))) w') : wpList P ops Q (o :: rest) a w := by
  have hlt := h.lt
  obtain ⟨es, clock, hb, hp, hst⟩ := h
  have hrun := run_range_map (P := P) w t k e g es clock ht hb
  refine wpList_plain hgd fun K' hK' => ?_
  unfold Oper.wp
  simp [execOp, hop, hm, hrun, Result.andThen]
  refine hK' _ _ (hK _ ⟨es, clock, clock, #[], clock, ((MapKept.heap_alloc w _).2 g hlt).trans hb, hp, hst, (MapKept.heap_alloc w _).1, hst.1, Nat.le_refl _, Nat.le_refl _, ?_⟩ ((Ext.refl w).alloc _) (by simp))
  have h0 : (leftOf es #[]).toList = es.toList := by
    unfold leftOf
    rw [Array.toList_filter]
    exact List.filter_eq_self.2 (fun _ _ => by simp)
  rw [h0]
  have h2 : (es.toList.map (fun e => (e.key, e.val))).map Prod.fst = (hs.map (fun p => (kv p.1, vv p.2))).map Prod.fst := by rw [hp]
  simpa [Function.comp_def] using h2

theorem wpl_nextG (hgd : o.guard = none) (hinj : ∀ x y, kv x = kv y → x = y) (it : Operand) (hop : o.op = .next it false) {g r : Nat} {hs : List (K × V)} {lf : List K} (hit : a.eval it = .pointer (some ⟨r, 0, none⟩)) (h : RngG kv vv w g r hs lf)
    (hDone : lf = [] → wpList P ops Q rest (a.put o.dst (.tuple #[.bool false])) w)
    (hMore : ∀ (x : K) (v : V) (w' : World) (lf' : List K), (x, v) ∈ hs → lf.Perm (x :: lf') → lf.length = lf'.length + 1 → RngG kv vv w' g r hs lf' → Upd w r w' → (Instr.entry (.pointer (some ⟨r, 0, none⟩))).run P w' = .ok (.tuple #[kv x, vv v]) w' →
      wpList P ops Q rest (a.put o.dst (.tuple #[.bool true, kv x, vv v])) w') : wpList P ops Q (o :: rest) a w := by
  have hne := h.ne
  obtain ⟨es, clock, since, seen, c0, hb, hp, hst, hr, hold, hsc, hsk, hl⟩ := h
  refine wpList_plain hgd fun K' hK' => ?_
  unfold Oper.wp
  rcases run_next_at (P := P) w o.type r g since c0 seen es clock hr hb hold hsc with ⟨h0, hrun⟩ | ⟨e, he, w1, hal, hrun⟩
  · have hlf : lf = [] := by
      have h1 : (leftOf es seen).toList = [] := by simpa using h0
      rw [h1] at hl
      simpa using hl.symm
    simp [execOp, hop, hit, hrun, Result.andThen]
    exact hK' _ _ (hDone hlf)
  · obtain ⟨hem, hes⟩ := mem_left he
    obtain ⟨j, hj⟩ := List.getElem?_of_mem hem
    obtain ⟨x, v, hpx, hkx, hvx⟩ := entG_at hp hj
    obtain ⟨A, B, hAB, hAB2⟩ := left_pushG hst.2.1 he
    have hr1 : w1.heap[r]? = some (.mapIter (some g) since seen c0) := by rcases hal with rfl | rfl <;> exact hr
    have hb1 : w1.heap[g]? = some (.map es clock) := by rcases hal with rfl | rfl <;> exact hb
    have hset := heap_set (o' := .mapIter (some g) since (seen.push e.born) clock) hr1
    have hb' : (setBlock w1 r (.mapIter (some g) since (seen.push e.born) clock)).heap[g]? = some (.map es clock) := (hset.2 g (fun e1 => hne e1.symm)).trans hb1
    have hsplit : ∃ l1 l2, lf = l1 ++ x :: l2 ∧ A.map (·.key) = l1.map kv ∧ B.map (·.key) = l2.map kv := by
      rw [hAB, List.map_append, List.map_cons] at hl
      obtain ⟨l1, l2, rfl, h1, h2⟩ := List.map_eq_append_iff.1 hl.symm
      obtain ⟨y, l3, rfl, h3, h4⟩ := List.map_eq_cons_iff.1 h2
      obtain rfl : y = x := hinj _ _ (h3.trans hkx)
      exact ⟨l1, l3, rfl, h1.symm, h4.symm⟩
    obtain ⟨l1, l2, rfl, h1, h2⟩ := hsplit
    rw [hkx, hvx] at hrun
    simp [execOp, hop, hit, hrun, Result.andThen]
    refine hK' _ _ (hMore x v _ (l1 ++ l2) (List.mem_of_getElem? hpx) List.perm_middle (by simp only [List.length_append, List.length_cons]; omega) ⟨es, clock, since, seen.push e.born, clock, hb', hp, hst, hset.1, hold, hsk, hsk, by rw [hAB2, List.map_append, h1, h2, List.map_append]⟩ ?_ ?_)
    · rcases hal with rfl | rfl <;> exact ⟨rfl, rfl, rfl, by simp [setBlock], fun i hi => hset.2 i hi⟩
    · have := run_entry_at (P := P) _ r g since seen es clock e hset.1 hb' hem hst.2.1
      rw [hkx, hvx] at this
      exact this
end
section
variable {P : Program} {K V : Type} [DecidableEq K] {kv : K → Value} {vv : V → Value} {good : K → Prop}
variable {k : TypeId} (KV : KeyV P k kv good) {t e : TypeId} (ht : P.underlying t = some (.map k e)) {w : World} {g r : Nat} {hs : List (K × V)} {lf : List K} {x : K}
include KV ht
/-- a key that the range has seen goes -/
theorem run_delR {ty : TypeId} (h : RngG kv vv w g r hs lf) (hE : EntsG good hs) (hk : good x) (hx : x ∉ lf) :
    ∃ w', (Builtin.delete_ #[t, k] ty #[.map (some g), kv x]).run P w = .ok (.tuple #[]) w' ∧ Upd w g w' ∧ RngG kv vv w' g r (delG hs x) lf := by
  have hne := h.ne
  have hg := h.map.lt
  obtain ⟨es, clock, since, seen, c0, hb, hp, hst, hr, hold, hsc, hsk, hl⟩ := h
  rcases findG KV w hE hp hk with ⟨h1, h2, h4⟩ | ⟨j, e0, u, h1, h2, h5, h6, h7, h3⟩
  · refine ⟨_, by simp [Builtin.delete_, run_underlying ht, MapKept.run_getObj_map hb, checkG KV w _ hk, h2, MapKept.run_setObj_map _ hb, Result.andThen], upd_objG _ _ _, ⟨_, _, _, _, _, obj_setG hg _, ?_, hst, ((upd_objG w g _).block r hne).trans hr, hold, hsc, hsk, hl⟩⟩
    unfold delG
    rw [h1]
    exact hp
  · have hjs : j < es.size := by have := (List.getElem?_eq_some_iff.1 h5).1; simpa using this
    have hlist : (es.eraseIdxIfInBounds j).toList = es.toList.eraseIdx j := by
      simp only [Array.eraseIdxIfInBounds, dif_pos hjs, Array.toList_eraseIdx]
    have hsub : (es.eraseIdxIfInBounds j).toList.Sublist es.toList := by rw [hlist]; exact List.eraseIdx_sublist _ _
    refine ⟨_, by simp [Builtin.delete_, run_underlying ht, MapKept.run_getObj_map hb, checkG KV w _ hk, h3, MapKept.run_setObj_map _ hb, Result.andThen], upd_objG _ _ _, ⟨_, _, _, _, _, obj_setG hg _, ?_, ?_, ((upd_objG w g _).block r hne).trans hr, fun y hy => hold y (hsub.mem hy), hsc, hsk, ?_⟩⟩
    · unfold delG
      rw [h1]
      simp only [hlist, map_eraseG, hp]
    · obtain ⟨s1, s2, s3⟩ := hst
      exact ⟨fun y hy => s1 y (hsub.mem hy), s2.sublist (hsub.map _), s3.sublist (hsub.map _)⟩
    · rw [← hl]
      unfold leftOf
      rw [Array.toList_filter, Array.toList_filter, hlist]
      have hseen : seen.contains e0.born = true := by
        cases hs : seen.contains e0.born with
        | true => rfl
        | false =>
          exfalso
          have hm : e0 ∈ (leftOf es seen).toList := by
            unfold leftOf
            rw [Array.toList_filter, List.mem_filter]
            refine ⟨List.mem_of_getElem? h5, ?_⟩
            simpa using hs
          have hk2 : kv x ∈ lf.map kv := by rw [← hl, ← h6]; exact List.mem_map.2 ⟨e0, hm, rfl⟩
          obtain ⟨y, hy, hyx⟩ := List.mem_map.1 hk2
          exact hx (KV.inj _ _ hyx ▸ hy)
      congr 1
      have hspl : es.toList = es.toList.take j ++ e0 :: es.toList.drop (j + 1) := by
        obtain ⟨hj, he⟩ := List.getElem?_eq_some_iff.1 h5
        have h9 := (List.take_append_drop j es.toList).symm
        rw [List.drop_eq_getElem_cons hj, he] at h9
        exact h9
      rw [List.eraseIdx_eq_take_drop_succ]
      conv => rhs; rw [hspl]
      rw [List.filter_append, List.filter_append, List.filter_cons]
      have : (!seen.contains e0.born) = false := by rw [hseen]; rfl
      simp only [this, Bool.false_eq_true, if_false]
end
end

section
open Go Go.RowKit

/-- slices of t's make: elements of type e, of z cells and y octets -/
structure ElemT (P : Program) (t e : TypeId) (z y : Nat) : Prop where
  hu : P.underlying t = some (.slice e)
  info : ∃ i0 z0, P.info? e = some i0 ∧ i0.zero = some z0 ∧ i0.size = z ∧ i0.bytes = y ∧ z0.cells.size = z
  pos : 0 < z

theorem ok_blockA {P : Program} {f : Sem Value} {w w' w2 : World} {v v' : Value} {b : Option Nat} (h1 : f.run P w = .ok v w2) (h2 : f.run P w = .ok v' w') (h3 : v.ownBlock = b) : v'.ownBlock = b := by
  rw [h1] at h2
  injection h2 with h4 h5
  rw [← h4]; exact h3



section
variable {P : Program} {t e : TypeId} {z y : Nat}
theorem append_any (T : ElemT P t e z y) (ty : TypeId) (w : World) (B : Nat) {v : Value} {n m c : Nat} {xs news : List Value} {ad : Addr} (hown : w.ownsRow B e z v n xs) (hl : news.length = m * z) (hc : ∀ j u, news[j]? = some u → w.cell? (ad.add j) = some u) (h1 : ∀ u ∈ news, u.oneCell' = true)
    (h63 : n + m ≤ 140737488355328) (hb : (n + m) * y ≤ 140737488355328) (hbase : B ≤ w.heap.size) :
    ∃ v' w', (Builtin.append_ #[t, t] ty #[v, .slice (some ad) m c]).run P w = .ok v' w' ∧ w'.ownsRow B e z v' (n + m) (xs ++ news) ∧ w.grownBy w' v.ownBlock ∧
      (v'.ownBlock = v.ownBlock ∨ v'.ownBlock = some w.heap.size) := by
  obtain ⟨i0, z0, hi, hz, hsz, hb1, hzs⟩ := T.info
  obtain ⟨v', w', hr, h1', h2, h3⟩ := run_append_own (P := P) w B t ty e i0 z0 z y T.hu hi hz hsz hb1 hzs T.pos v n xs hown ad m c news hl hc h1 (by unfold maxLen; omega) hb hbase
  refine ⟨v', w', hr, h1', h2, ?_⟩
  rcases hown.2 with ⟨rfl, rfl⟩ | ⟨g, cap, cur, rfl, hbg, hg, hnc, hcm, hcs, htake⟩
  · by_cases hm0 : m = 0
    · left
      rw [h3.2 ⟨rfl, hm0⟩]
    · right
      have hl' : news.length = m * i0.size := by rw [hsz]; exact hl
      have hr2 := run_append_nil (P := P) w t ty e i0 z0 T.hu hi hz ad m c news hl' hc (by omega) (by omega) (by rw [hb1]; rw [Nat.zero_add] at hb; omega)
      exact ok_blockA hr2 hr rfl
  · by_cases hroom : n + m ≤ cap
    · left
      obtain ⟨w2, hr2, _⟩ := run_append_fits (P := P) w B t ty e i0 z T.hu hi hsz g n cap xs hown ad m c news hl hc h1 hroom
      exact ok_blockA hr2 hr rfl
    · right
      have hl' : news.length = m * i0.size := by rw [hsz]; exact hl
      have hr2 := run_append_grow (P := P) w t ty e i0 z0 T.hu hi hz ⟨g, 0, none⟩ n cap xs (by rw [hsz]; exact hown.1) (hown.cells (g := g) rfl) ad m c news hl' hc (by omega) (by omega) (growslice_fits (by omega) (by rw [hb1]; omega))
      exact ok_blockA hr2 hr rfl
theorem append_none (T : ElemT P t e z y) (ty : TypeId) (w : World) (B : Nat) {v : Value} {n : Nat} {xs : List Value} (hown : w.ownsRow B e z v n xs) :
    (Builtin.append_ #[t, t] ty #[v, .slice none 0 0]).run P w = .ok v w := by
  obtain ⟨i0, z0, hi, hz, hsz, hb1, hzs⟩ := T.info
  exact run_append_owned_none (P := P) (w := w) B t ty e i0 z T.hu hi v n xs hown
/-- append of what stands behind any slice, a nil one too -/
theorem append_cells (T : ElemT P t e z y) (ty : TypeId) (w : World) (B : Nat) {v : Value} {n m c : Nat} {xs news : List Value} {ad : Option Addr} (hown : w.ownsRow B e z v n xs) (hl : news.length = m * z) (hmc : m ≤ c) (h0 : ad = none → c = 0) (hc : Cells w ad news) (h1 : ∀ u ∈ news, u.oneCell' = true)
    (h63 : n + m ≤ 140737488355328) (hb : (n + m) * y ≤ 140737488355328) (hbase : B ≤ w.heap.size) :
    ∃ v' w', (Builtin.append_ #[t, t] ty #[v, .slice ad m c]).run P w = .ok v' w' ∧ w'.ownsRow B e z v' (n + m) (xs ++ news) ∧ w.grownBy w' v.ownBlock ∧
      (v'.ownBlock = v.ownBlock ∨ v'.ownBlock = some w.heap.size) := by
  cases ad with
  | some ad => exact append_any T ty w B hown hl (news_cells hc) h1 h63 hb hbase
  | none =>
    obtain rfl : c = 0 := h0 rfl
    obtain rfl : m = 0 := by omega
    have hn : news = [] := by
      have : news.length = 0 := by rw [hl]; omega
      exact List.length_eq_zero_iff.1 this
    subst hn
    refine ⟨v, w, append_none T ty w B hown, by simpa using hown, ⟨rfl, rfl, rfl, Nat.le_refl _, fun _ _ _ => rfl⟩, .inl rfl⟩
variable {ops : Array Oper} {rest : List Oper} {o : Oper} {a : Act} {w : World} {Q : Exit → Act → World → Prop}
theorem wpl_appendA (T : ElemT P t e z y) (hgd : o.guard = none) (s x : Operand) (ho : o.op = .call { callee := .builtin .append, args := #[s, x], argTypes := #[t, t] }) (B : Nat) {v : Value} {n m c : Nat} {xs news : List Value} {ad : Option Addr}
    (hs : a.eval s = v) (hx : a.eval x = .slice ad m c) (hown : w.ownsRow B e z v n xs) (hl : news.length = m * z) (hmc : m ≤ c) (h0 : ad = none → c = 0) (hc : Cells w ad news) (h1 : ∀ u ∈ news, u.oneCell' = true)
    (h63 : n + m ≤ 140737488355328) (hb : (n + m) * y ≤ 140737488355328) (hbase : B ≤ w.heap.size)
    (h : ∀ v' w', w'.ownsRow B e z v' (n + m) (xs ++ news) → w.grownBy w' v.ownBlock → (v'.ownBlock = v.ownBlock ∨ v'.ownBlock = some w.heap.size) → wpList P ops Q rest (a.put o.dst v') w') : wpList P ops Q (o :: rest) a w := by
  obtain ⟨v', w', hr, h1', h2, h3⟩ := append_cells T o.type w B hown hl hmc h0 hc h1 h63 hb hbase
  exact wpList_plain hgd fun K hK => Lib.wp_append_run w s x _ _ ho v _ hs hx v' w' hr (hK _ _ (h v' w' h1' h2 h3))
end

section
variable {w w' : World} {B B2 : Nat} {e e2 : TypeId} {z z2 n n2 : Nat} {v v' v2 : Value} {xs xs2 : List Value} {r : Option Nat}
/-- a row stays where another block grows -/
theorem own_beside (h : w.ownsRow B e z v n xs) (k : w.grownBy w' r) (hne : ∀ g, v.ownBlock = some g → r ≠ some g) : w'.ownsRow B e z v n xs := by
  refine h.kept k ?_
  cases hv : v.ownBlock with
  | none => exact .inl rfl
  | some g => exact .inr (fun e => hne g hv e.symm)
theorem own_ltA (h : w.ownsRow B e z v n xs) {g : Nat} (hg : v.ownBlock = some g) : B ≤ g ∧ g < w.heap.size := h.lt g hg
/-- two rows in two blocks -/
def Apart (v v2 : Value) : Prop := ∀ g, v.ownBlock = some g → v2.ownBlock ≠ some g
theorem Apart.symm (h : Apart v v2) : Apart v2 v := fun g h1 h2 => h g h2 h1
theorem Apart.nil (c : Nat) : Apart (.slice none 0 c) v2 := fun g h => by cases h
theorem Apart.of_ty (h : w.ownsRow B e z v n xs) (h2 : w.ownsRow B2 e2 z2 v2 n2 xs2) (hne : e ≠ e2) : Apart v v2 := by
  intro g h3 h4
  rcases h.2 with ⟨rfl, _⟩ | ⟨g1, c1, cur1, rfl, _, hg1, _⟩
  · cases h3
  rcases h2.2 with ⟨rfl, _⟩ | ⟨g2, c2, cur2, rfl, _, hg2, _⟩
  · cases h4
  simp only [Value.ownBlock, Option.some.injEq] at h3 h4
  subst h3
  subst h4
  rw [hg1] at hg2
  simp only [Option.some.injEq, Obj.cells.injEq] at hg2
  exact hne hg2.2.1
/-- behind an append the row lies apart of another one still -/
theorem Apart.append (h : Apart v v2) (h2 : w.ownsRow B2 e2 z2 v2 n2 xs2) (hb : v'.ownBlock = v.ownBlock ∨ v'.ownBlock = some w.heap.size) : Apart v' v2 := by
  intro g h3 h4
  rcases hb with hb | hb
  · exact h g (hb ▸ h3) h4
  · rw [hb] at h3
    injection h3 with h3
    have := (h2.lt g h4).2
    omega
theorem Apart.keep (h : Apart v v2) (h2 : w.ownsRow B2 e2 z2 v2 n2 xs2) (k : w.grownBy w' v.ownBlock) : w'.ownsRow B2 e2 z2 v2 n2 xs2 :=
  own_beside h2 k fun g h3 h4 => h g h4 h3
theorem own_blk_ne {g : Nat} {vs : List Value} {T : TypeId} (h : w.ownsRow B e z v n xs) (hb : Blk w g vs T) (hne : e ≠ T) : v.ownBlock ≠ some g := by
  intro hg
  rcases h.2 with ⟨rfl, _⟩ | ⟨g1, c1, cur1, rfl, _, hg1, _⟩
  · cases hg
  simp only [Value.ownBlock, Option.some.injEq] at hg
  subst hg
  unfold Blk at hb
  rw [hg1] at hb
  simp only [Option.some.injEq, Obj.cells.injEq] at hb
  exact hne hb.2.1
/-- a block of another type stays where a row grows -/
theorem Blk.besides {g : Nat} {vs : List Value} {T : TypeId} (hb : Blk w g vs T) (h : w.ownsRow B e z v n xs) (k : w.grownBy w' v.ownBlock) (hne : e ≠ T) : Blk w' g vs T := hb.grown k (fun e2 => own_blk_ne h hb hne e2.symm)
theorem upd_grownA {g : Nat} (u : Upd w g w') : w.grownBy w' (some g) := ⟨u.os, u.tape, u.output, by rw [u.size]; exact Nat.le_refl _, fun i _ hne => u.block i (fun e => hne (by rw [e]))⟩
theorem own_updA {g : Nat} {vs : List Value} {T : TypeId} (h : w.ownsRow B e z v n xs) (u : Upd w g w') (hb : Blk w g vs T) (hne : e ≠ T) : w'.ownsRow B e z v n xs :=
  own_beside h (upd_grownA u) fun g' hg he => own_blk_ne h hb hne (by cases he; exact hg)
/-- what the row's cells are -/
theorem own_cellsA (h : w.ownsRow B e z v n xs) : ∃ ad c, v = .slice ad n c ∧ n ≤ c ∧ (ad = none → c = 0) ∧ Cells w ad xs := by
  have hl := h.1
  rcases h.2 with ⟨rfl, rfl⟩ | ⟨g, cap, cur, rfl, _, hg, hnc, _⟩
  · have : xs = [] := List.length_eq_zero_iff.1 (by rw [hl]; omega)
    subst this
    exact ⟨none, 0, rfl, Nat.le_refl _, fun _ => rfl, .inl rfl⟩
  · refine ⟨some ⟨g, 0, none⟩, cap, rfl, hnc, (fun h => by cases h), Or.inr ⟨g, 0, rfl, fun i u hu => ?_⟩⟩
    have := h.cells (g := g) rfl i u hu
    have hadd : (⟨g, 0, none⟩ : Addr).add i = ⟨g, i, none⟩ := by unfold Addr.add; split <;> simp_all
    rw [hadd] at this
    simpa using this
end
end

section
open Go Go.RowKit Go.Maps Go.MapKept Go.WideShapes
set_option linter.unusedSectionVars false
open Go.ChangeMaps (setBlock)

section
variable {F : Fence} {n : Nat} {P : Program} {ops : Array Oper} {rest : List Oper} {o : Oper} {a : Act} {w : World} {Q : Exit → Act → World → Prop}
theorem wplIn_go {v : Value} {w' : World} (hgd : o.guard = none) (hab : o.about P w a.eval = none) (hpl : ∀ c, o.op ≠ .defer c) (hr : (execOp a.eval o).run P w = .ok (.value v) w') (h : wpListIn F n P ops Q rest (a.put o.dst v) w') : wpListIn F n P ops Q (o :: rest) a w := by
  refine wpListIn_plain hgd fun K hK => ?_
  unfold Oper.wpIn
  refine ⟨fun f hf => (by rw [hab] at hf; cases hf), ?_⟩
  rw [Oper.semAt_plain F _ _ hpl, hr, Oper.uponIn_value]
  exact hK _ _ h
theorem exec_appendA {s x : Operand} {t : TypeId} (ho : o.op = .call { callee := .builtin .append, args := #[s, x], argTypes := #[t, t] }) {v u v' : Value} {w' : World} (hs : a.eval s = v) (hx : a.eval x = u)
    (hr : (Builtin.append_ #[t, t] o.type #[v, u]).run P w = .ok v' w') : (execOp a.eval o).run P w = .ok (.value v') w' := by
  unfold execOp
  simp only [ho, resolve, invoke, builtin, Sem.run_bind, Sem.run_pure, Result.andThen_ok, List.map_toArray, List.map_cons, List.map_nil, hs, hx, hr]
theorem wplIn_appendA {t e : TypeId} {z y : Nat} (T : ElemT P t e z y) (hgd : o.guard = none) (s x : Operand) (ho : o.op = .call { callee := .builtin .append, args := #[s, x], argTypes := #[t, t] }) (B : Nat) {v : Value} {k m c : Nat} {xs news : List Value} {ad : Option Addr}
    (hab : o.about P w a.eval = none) (hs : a.eval s = v) (hx : a.eval x = .slice ad m c) (hown : w.ownsRow B e z v k xs) (hl : news.length = m * z) (hmc : m ≤ c) (h0 : ad = none → c = 0) (hc : Cells w ad news) (h1 : ∀ u ∈ news, u.oneCell' = true)
    (h63 : k + m ≤ 140737488355328) (hb : (k + m) * y ≤ 140737488355328) (hbase : B ≤ w.heap.size)
    (h : ∀ v' w', w'.ownsRow B e z v' (k + m) (xs ++ news) → w.grownBy w' v.ownBlock → (v'.ownBlock = v.ownBlock ∨ v'.ownBlock = some w.heap.size) → wpListIn F n P ops Q rest (a.put o.dst v') w') : wpListIn F n P ops Q (o :: rest) a w := by
  obtain ⟨v', w', hr, h1', h2, h3⟩ := append_cells T o.type w B hown hl hmc h0 hc h1 h63 hb hbase
  exact wplIn_go hgd hab (by rw [ho]; intro c hc; cases hc) (exec_appendA ho hs hx hr) (h v' w' h1' h2 h3)
variable {K V : Type} [DecidableEq K] {kv : K → Value} {vv : V → Value}
theorem wplIn_rangeG (hgd : o.guard = none) (t k e : TypeId) (ht : P.underlying t = some (.map k e)) (m : Operand) (hop : o.op = .range t m) {g : Nat} {hs : List (K × V)} (hm : a.eval m = .map (some g)) (h : MapG kv vv w g hs)
    (hK : ∀ w', RngG kv vv w' g w.heap.size hs (hs.map Prod.fst) → Ext w w' → w'.heap.size = w.heap.size + 1 → wpListIn F n P ops Q rest (a.put o.dst (.pointer (some ⟨w.heap.size, 0, none⟩))) w') : wpListIn F n P ops Q (o :: rest) a w := by
  have hlt := h.lt
  obtain ⟨es, clock, hb, hp, hst⟩ := h
  have hrun := run_range_map (P := P) w t k e g es clock ht hb
  have hex : (execOp a.eval o).run P w = .ok (.value (.pointer (some ⟨w.heap.size, 0, none⟩))) (w.alloc (.mapIter (some g) clock #[] clock)) := by
    simp [execOp, hop, hm, hrun, Result.andThen]
  refine wplIn_go hgd (by unfold Oper.about; rw [hop]) (by rw [hop]; intro c hc; cases hc) hex ?_
  refine hK _ ⟨es, clock, clock, #[], clock, ((MapKept.heap_alloc w _).2 g hlt).trans hb, hp, hst, (MapKept.heap_alloc w _).1, hst.1, Nat.le_refl _, Nat.le_refl _, ?_⟩ ((Ext.refl w).alloc _) (by simp)
  have h0 : (leftOf es #[]).toList = es.toList := by
    unfold leftOf
    rw [Array.toList_filter]
    exact List.filter_eq_self.2 (fun _ _ => by simp)
  rw [h0]
  have h2 : (es.toList.map (fun e => (e.key, e.val))).map Prod.fst = (hs.map (fun p => (kv p.1, vv p.2))).map Prod.fst := by rw [hp]
  simpa [Function.comp_def] using h2
theorem wplIn_nextG (hgd : o.guard = none) (hinj : ∀ x y, kv x = kv y → x = y) (it : Operand) (hop : o.op = .next it false) {g r : Nat} {hs : List (K × V)} {lf : List K} (hit : a.eval it = .pointer (some ⟨r, 0, none⟩)) (h : RngG kv vv w g r hs lf)
    (hDone : lf = [] → wpListIn F n P ops Q rest (a.put o.dst (.tuple #[.bool false])) w)
    (hMore : ∀ (x : K) (v : V) (w' : World) (lf' : List K), (x, v) ∈ hs → lf.Perm (x :: lf') → lf.length = lf'.length + 1 → RngG kv vv w' g r hs lf' → Upd w r w' → (Instr.entry (.pointer (some ⟨r, 0, none⟩))).run P w' = .ok (.tuple #[kv x, vv v]) w' →
      wpListIn F n P ops Q rest (a.put o.dst (.tuple #[.bool true, kv x, vv v])) w') : wpListIn F n P ops Q (o :: rest) a w := by
  have hne := h.ne
  obtain ⟨es, clock, since, seen, c0, hb, hp, hst, hr, hold, hsc, hsk, hl⟩ := h
  rcases run_next_at (P := P) w o.type r g since c0 seen es clock hr hb hold hsc with ⟨h0, hrun⟩ | ⟨e, he, w1, hal, hrun⟩
  · have hlf : lf = [] := by
      have h1 : (leftOf es seen).toList = [] := by simpa using h0
      rw [h1] at hl
      simpa using hl.symm
    refine wplIn_go hgd (by unfold Oper.about; rw [hop]) (by rw [hop]; intro c hc; cases hc) (by simp [execOp, hop, hit, hrun, Result.andThen]) (hDone hlf)
  · obtain ⟨hem, hes⟩ := mem_left he
    obtain ⟨j, hj⟩ := List.getElem?_of_mem hem
    obtain ⟨x, v, hpx, hkx, hvx⟩ := entG_at hp hj
    obtain ⟨A, B, hAB, hAB2⟩ := left_pushG hst.2.1 he
    have hr1 : w1.heap[r]? = some (.mapIter (some g) since seen c0) := by rcases hal with rfl | rfl <;> exact hr
    have hb1 : w1.heap[g]? = some (.map es clock) := by rcases hal with rfl | rfl <;> exact hb
    have hset := heap_set (o' := .mapIter (some g) since (seen.push e.born) clock) hr1
    have hb' : (setBlock w1 r (.mapIter (some g) since (seen.push e.born) clock)).heap[g]? = some (.map es clock) := (hset.2 g (fun e1 => hne e1.symm)).trans hb1
    have hsplit : ∃ l1 l2, lf = l1 ++ x :: l2 ∧ A.map (·.key) = l1.map kv ∧ B.map (·.key) = l2.map kv := by
      rw [hAB, List.map_append, List.map_cons] at hl
      obtain ⟨l1, l2, rfl, h1, h2⟩ := List.map_eq_append_iff.1 hl.symm
      obtain ⟨y, l3, rfl, h3, h4⟩ := List.map_eq_cons_iff.1 h2
      obtain rfl : y = x := hinj _ _ (h3.trans hkx)
      exact ⟨l1, l3, rfl, h1.symm, h4.symm⟩
    obtain ⟨l1, l2, rfl, h1, h2⟩ := hsplit
    rw [hkx, hvx] at hrun
    refine wplIn_go hgd (by unfold Oper.about; rw [hop]) (by rw [hop]; intro c hc; cases hc) (by simp [execOp, hop, hit, hrun, Result.andThen])
      (hMore x v _ (l1 ++ l2) (List.mem_of_getElem? hpx) List.perm_middle (by simp only [List.length_append, List.length_cons]; omega) ⟨es, clock, since, seen.push e.born, clock, hb', hp, hst, hset.1, hold, hsk, hsk, by rw [hAB2, List.map_append, h1, h2, List.map_append]⟩ ?_ ?_)
    · rcases hal with rfl | rfl <;> exact ⟨rfl, rfl, rfl, by simp [setBlock], fun i hi => hset.2 i hi⟩
    · have := run_entry_at (P := P) _ r g since seen es clock e hset.1 hb' hem hst.2.1
      rw [hkx, hvx] at this
      exact this
theorem RngG.leftG {w : World} {g r : Nat} {hs : List (K × V)} {lf : List K} (h : RngG kv vv w g r hs lf) : w.rangeLeft g r = lf.length := by
  obtain ⟨es, clock, since, seen, c0, hb, hp, hst, hr, h1, h2, h3, hl⟩ := h
  have := congrArg List.length hl
  simp only [List.length_map, Array.length_toList] at this
  simp [World.rangeLeft, hb, hr, this]
theorem own_noncells {w w' : World} {B : Nat} {e : TypeId} {z n : Nat} {v : Value} {xs : List Value} {row : Option Nat} (h : w.ownsRow B e z v n xs) (k : w.grownBy w' row) (hr : ∀ r, row = some r → ∃ o : Obj, w.heap[r]? = some o ∧ o.isCells = false) : w'.ownsRow B e z v n xs := by
  refine own_beside h k fun g hg hrow => ?_
  obtain ⟨o, ho, hc⟩ := hr g hrow
  rcases h.2 with ⟨rfl, _⟩ | ⟨g1, c1, cur1, rfl, _, hg1, _⟩
  · cases hg
  simp only [Value.ownBlock, Option.some.injEq] at hg
  subst hg
  rw [hg1] at ho
  cases ho
  cases hc
theorem Blk.noncells {w w' : World} {g : Nat} {vs : List Value} {T : TypeId} {row : Option Nat} (h : Blk w g vs T) (k : w.grownBy w' row) (hr : ∀ r, row = some r → ∃ o : Obj, w.heap[r]? = some o ∧ o.isCells = false) : Blk w' g vs T := by
  refine h.grown k fun e => ?_
  obtain ⟨o, ho, hc⟩ := hr g e.symm
  unfold Blk at h
  rw [h] at ho
  cases ho
  cases hc
theorem keeps_own {w w' : World} {B : Nat} {e : TypeId} {z n : Nat} {v : Value} {xs : List Value} (h : w.ownsRow B e z v n xs) (k : w.grownBy w' v.ownBlock) : KeepsOthers w w' := by
  refine KeepsOthers.of_grownBy k fun j o hj ho => ?_
  rcases h.2 with ⟨rfl, _⟩ | ⟨g1, c1, cur1, rfl, _, hg1, _⟩
  · cases hj
  simp only [Value.ownBlock, Option.some.injEq] at hj
  subst hj
  rw [hg1] at ho
  cases ho
  rfl
theorem keeps_updB {w w' : World} {g : Nat} {vs : List Value} {T : TypeId} (h : Blk w g vs T) (u : Upd w g w') : KeepsOthers w w' := by
  refine ⟨by rw [u.size]; exact Nat.le_refl _, fun k o hk ho => ?_⟩
  by_cases e : k = g
  · subst e
    unfold Blk at h
    rw [h] at hk
    cases hk
    cases ho
  · exact (u.block k e).trans hk
theorem keeps_ext {w w' : World} (h : Ext w w') : KeepsOthers w w' := ⟨h.size, fun k o hk _ => (h.block k (Array.getElem?_eq_some_iff.1 hk).1).trans hk⟩
/-- a range under way abides what leaves maps and iterators alone -/
theorem RngG.walks {w w' : World} {g r : Nat} {hs : List (K × V)} {lf : List K} (h : RngG kv vv w g r hs lf) (k : KeepsWalks w w') : RngG kv vv w' g r hs lf := by
  obtain ⟨es, clock, since, seen, c0, hb, hp, hst, hr, hrest⟩ := h
  exact ⟨es, clock, since, seen, c0, k.same g _ hb rfl, hp, hst, k.same r _ hr rfl, hrest⟩
theorem RngG.walk {w : World} {g r : Nat} {hs : List (K × V)} {lf : List K} (h : RngG kv vv w g r hs lf) : ∃ o : Obj, w.heap[r]? = some o ∧ o.isWalk = true := by
  obtain ⟨es, clock, since, seen, c0, hb, hp, hst, hr, hrest⟩ := h
  exact ⟨_, hr, rfl⟩
end
end

section
open Go Go.RowKit

theorem and31_u64 (k : Nat) (h : k < 32) : bits .and .u64 (k : Int) 31 = (k : Int) := by
  have ea : (BitVec.ofInt 64 (k : Int)).toNat = k := by simp; omega
  have eb : (BitVec.ofInt 64 (31 : Int)).toNat = 31 := by simp
  change IntKind.u64.wrap ((BitVec.ofInt 64 (k : Int) &&& BitVec.ofInt 64 31).toNat : Int) = _
  rw [BitVec.toNat_and, ea, eb, Nat.and_two_pow_sub_one_eq_mod k 5, IntKind.wrap_u64]; omega

theorem rot_int (x : UInt32) (k : Nat) : bits .or .u32 ((x.toNat : Int) * 2 ^ k % 4294967296) ((x.toNat : Int) / 2 ^ (32 - k)) = ((rotl x k).toNat : Int) := by
  have e1 : (x.toNat : Int) * 2 ^ k % 4294967296 = ((x.toNat * 2 ^ k % 4294967296 : Nat) : Int) := by
    rw [Int.natCast_emod, Int.natCast_mul, Int.natCast_pow]; rfl
  have e2 : (x.toNat : Int) / 2 ^ (32 - k) = ((x.toNat / 2 ^ (32 - k) : Nat) : Int) := by
    rw [Int.natCast_ediv, Int.natCast_pow]; rfl
  rw [e1, e2, (bits_u32 _ _ (Nat.mod_lt _ (by omega)) (Nat.lt_of_le_of_lt (Nat.div_le_self _ _) x.toNat_lt)).2.1, rotl_nat]

/-- what is added to a word -/
def turnW (ws : List UInt32) (r i : Nat) : UInt32 := rotl (ws.getD ((i + 1 + r) % 16) 0) (5 + i) ^^^ UInt32.ofNat (2654435769 * (16 * r + i + 1))

theorem mulc_int (m : Nat) : (2654435769 * (m : Int) % 4294967296) = ((UInt32.ofNat (2654435769 * m)).toNat : Int) := by
  rw [UInt32.toNat_ofNat']; omega
theorem turn_int (ws : List UInt32) (r i : Nat) : bits .xor .u32 ((rotl (ws[(i + 1 + r) % 16]?.getD 0) (5 + i)).toNat : Int) (2654435769 * (16 * (r : Int) + i + 1) % 4294967296) = ((turnW ws r i).toNat : Int) := by
  have e : (16 * (r : Int) + i + 1) = ((16 * r + i + 1 : Nat) : Int) := by omega
  rw [e, mulc_int, xor_u32]; simp [turnW]
end

section
open Go Go.RowKit

def wordOf (a b c d : UInt8) : UInt32 := UInt32.ofNat (a.toNat * 16777216 + b.toNat * 65536 + c.toNat * 256 + d.toNat)

theorem or_add (a b k : Nat) (h : b < 2 ^ k) : (a * 2 ^ k ||| b) = a * 2 ^ k + b := by
  rw [Nat.mul_comm, ← Nat.two_pow_add_eq_or_of_lt h]

theorem word_int (a b c d : UInt8) : bits .or .u32 (bits .or .u32 (bits .or .u32 ((a.toNat : Int) * 16777216) ((b.toNat : Int) * 65536)) ((c.toNat : Int) * 256)) (d.toNat : Int) = ((wordOf a b c d).toNat : Int) := by
  have ha := a.toNat_lt
  have hb := b.toNat_lt
  have hc := c.toNat_lt
  have hd := d.toNat_lt
  have e1 : (a.toNat : Int) * 16777216 = ((a.toNat * 16777216 : Nat) : Int) := by omega
  have e2 : (b.toNat : Int) * 65536 = ((b.toNat * 65536 : Nat) : Int) := by omega
  have e3 : (c.toNat : Int) * 256 = ((c.toNat * 256 : Nat) : Int) := by omega
  rw [e1, e2, e3, (bits_u32 _ _ (by omega) (by omega)).2.1]
  have f1 : (a.toNat * 16777216 ||| b.toNat * 65536) = a.toNat * 16777216 + b.toNat * 65536 := or_add a.toNat (b.toNat * 65536) 24 (by omega)
  rw [f1, (bits_u32 _ _ (by omega) (by omega)).2.1]
  have f2 : (a.toNat * 16777216 + b.toNat * 65536 ||| c.toNat * 256) = a.toNat * 16777216 + b.toNat * 65536 + c.toNat * 256 := by
    have := or_add (a.toNat * 256 + b.toNat) (c.toNat * 256) 16 (by omega)
    have e : (a.toNat * 256 + b.toNat) * 2 ^ 16 = a.toNat * 16777216 + b.toNat * 65536 := by omega
    rwa [e] at this
  rw [f2, (bits_u32 _ _ (by omega) (by omega)).2.1]
  have f3 : (a.toNat * 16777216 + b.toNat * 65536 + c.toNat * 256 ||| d.toNat) = a.toNat * 16777216 + b.toNat * 65536 + c.toNat * 256 + d.toNat := by
    have := or_add (a.toNat * 65536 + b.toNat * 256 + c.toNat) d.toNat 8 (by omega)
    have e : (a.toNat * 65536 + b.toNat * 256 + c.toNat) * 2 ^ 8 = a.toNat * 16777216 + b.toNat * 65536 + c.toNat * 256 := by omega
    rwa [e] at this
  rw [f3]
  unfold wordOf
  rw [UInt32.toNat_ofNat']; omega

/-- the four octets of a word -/
def octL (n : UInt32) : List UInt8 := [UInt8.ofNat (n.toNat / 16777216), UInt8.ofNat (n.toNat / 65536), UInt8.ofNat (n.toNat / 256), UInt8.ofNat n.toNat]

theorem u8_ofNat (m : Nat) : ((UInt8.ofNat m).toNat : Int) = (m : Int) % 256 := by
  rw [UInt8.toNat_ofNat']; omega

theorem octL_vals (n : UInt32) : (octL n).map u8v = [.int .u8 ((n.toNat : Int) / 16777216 % 256), .int .u8 ((n.toNat : Int) / 65536 % 256), .int .u8 ((n.toNat : Int) / 256 % 256), .int .u8 ((n.toNat : Int) % 256)] := by
  simp only [octL, List.map_cons, List.map_nil, u8v, u8_ofNat, Int.natCast_ediv, Int.cast_ofNat_Int]

def longL (n : UInt64) : List UInt8 := octL (UInt32.ofNat (n.toNat / 4294967296)) ++ octL (UInt32.ofNat n.toNat)

theorem u32_ofNat (m : Nat) : ((UInt32.ofNat m).toNat : Int) = (m : Int) % 4294967296 := by
  rw [UInt32.toNat_ofNat']; omega

theorem longL_vals (n : UInt64) : (longL n).map u8v = [.int .u8 (((UInt32.ofNat (n.toNat / 4294967296)).toNat : Int) / 16777216 % 256), .int .u8 (((UInt32.ofNat (n.toNat / 4294967296)).toNat : Int) / 65536 % 256), .int .u8 (((UInt32.ofNat (n.toNat / 4294967296)).toNat : Int) / 256 % 256), .int .u8 (((UInt32.ofNat (n.toNat / 4294967296)).toNat : Int) % 256),
    .int .u8 (((UInt32.ofNat n.toNat).toNat : Int) / 16777216 % 256), .int .u8 (((UInt32.ofNat n.toNat).toNat : Int) / 65536 % 256), .int .u8 (((UInt32.ofNat n.toNat).toNat : Int) / 256 % 256), .int .u8 (((UInt32.ofNat n.toNat).toNat : Int) % 256)] := by
  unfold longL
  rw [List.map_append, octL_vals, octL_vals]; rfl
end

section
open Go Go.RowKit

def hexd (n : Nat) : UInt8 := if n < 10 then UInt8.ofNat (48 + n) else UInt8.ofNat (87 + n)
def hex2 (b : UInt8) : List UInt8 := [hexd (b.toNat / 16), hexd (b.toNat % 16)]
def hexL (l : List UInt8) : List UInt8 := l.flatMap hex2
theorem hexL_length (l : List UInt8) : (hexL l).length = 2 * l.length := by
  induction l with
  | nil => rfl
  | cons x l ih => simp only [hexL, List.flatMap_cons, List.length_append, List.length_cons] at *; rw [ih]; simp [hex2]; omega
theorem hexL_snoc (l : List UInt8) (k : Nat) (h : k < l.length) : hexL (l.take (k + 1)) = hexL (l.take k) ++ hex2 (l[k]?.getD 0) := by
  rw [List.take_succ_eq_append_getElem h, hexL, List.flatMap_append]
  simp [hexL, h]

def digitsStr : ByteArray := { data := #[48, 49, 50, 51, 52, 53, 54, 55, 56, 57, 97, 98, 99, 100, 101, 102] }
theorem digits_at (k : Nat) (h : k < 16) : digitsStr[k]? = some (hexd k) := by
  have : ∀ k : Fin 16, digitsStr[k.val]? = some (hexd k.val) := by decide
  exact this ⟨k, h⟩
theorem run_digits (k : Nat) (h : k < 16) (w : World) : (Instr.index 9 (.string { data := #[48, 49, 50, 51, 52, 53, 54, 55, 56, 57, 97, 98, 99, 100, 101, 102] }) (.int .u8 (k : Int))).run Tryz.prog w = .ok (.int .u8 ((hexd k).toNat : Nat)) w := by
  have hd := digits_at k h
  unfold digitsStr at hd
  simp [Instr.index, asIntOf, run_underlying Tryz.underlying9, hd]

theorem and15_u8 (b : UInt8) : bits .and .u8 (b.toNat : Int) 15 = (b.toNat : Int) % 16 := by
  have h := b.toNat_lt
  have e : (15 : Int) = ((15 : Nat) : Int) := rfl
  rw [e, (bits_u8 _ 15 h (by omega)).2.2, Nat.and_two_pow_sub_one_eq_mod b.toNat 4]; omega
theorem run_digits2 (b : UInt8) : (∀ w, (Instr.index 9 (.string { data := #[48, 49, 50, 51, 52, 53, 54, 55, 56, 57, 97, 98, 99, 100, 101, 102] }) (.int .u8 ((b.toNat : Int) / 16))).run Tryz.prog w = .ok (.int .u8 ((hexd (b.toNat / 16)).toNat : Nat)) w) ∧
    (∀ w, (Instr.index 9 (.string { data := #[48, 49, 50, 51, 52, 53, 54, 55, 56, 57, 97, 98, 99, 100, 101, 102] }) (.int .u8 ((b.toNat : Int) % 16))).run Tryz.prog w = .ok (.int .u8 ((hexd (b.toNat % 16)).toNat : Nat)) w) ∧
    bits .and .u8 (b.toNat : Int) 15 = (b.toNat : Int) % 16 := by
  have h := b.toNat_lt
  have e1 : (b.toNat : Int) / 16 = ((b.toNat / 16 : Nat) : Int) := by omega
  have e2 : (b.toNat : Int) % 16 = ((b.toNat % 16 : Nat) : Int) := by omega
  rw [and15_u8, e1, e2]
  exact ⟨run_digits _ (by omega), run_digits _ (by omega), rfl⟩

theorem info_u8 : (Tryz.prog.info? 5).map (fun i => (i.zero, i.size, i.bytes)) = some (some (.int .u8 0), 1, 1) := by kernel_rfl

/-- string of octets -/
def strOf (l : List UInt8) : ByteArray := ⟨l.toArray⟩

theorem ints_back (l : List UInt8) : ((l.map fun b => (b.toNat : Int)).map fun n => UInt8.ofNat n.toNat) = l := by
  rw [List.map_map]
  conv => rhs; rw [← List.map_id l]
  apply List.map_congr_left
  intro b _
  simp

theorem run_string_of (w : World) (a : Option Addr) (l : List UInt8) (n c : Nat) (h : Cells w a (l.map u8v)) (hn : n = l.length) :
    (convert 66 9 (.slice a n c)).run Tryz.prog w = .ok (.string (strOf l)) w := by
  subst hn
  have hm : (l.map fun b => (b.toNat : Int)).map (Value.int .u8) = l.map u8v := by
    rw [List.map_map]; rfl
  have main : ∀ x : Addr, (loadCells x l.length).run Tryz.prog w = .ok (l.map u8v).toArray w → (convert 66 9 (.slice (some x) l.length c)).run Tryz.prog w = .ok (.string (strOf l)) w := by
    intro x hl
    rw [run_convert_bytes_string w 66 9 5 (some x) l.length c Tryz.underlying66 Tryz.underlying5 Tryz.underlying9,
      run_bytesToString w x l.length c (l.map fun b => (b.toNat : Int)) (by rw [hm]; exact hl), foldl_push_bytes, ints_back]
    simp [strOf, ByteArray.empty, ByteArray.emptyWithCapacity]
    rfl
  rcases h with h | ⟨b, off, rfl, h⟩
  · have hl : l = [] := by simpa using h
    subst hl
    cases a with
    | none => exact run_convert_bytes_nil w 66 5 Tryz.underlying66 Tryz.underlying5 _ _ _ Tryz.underlying9
    | some x => exact main x (by simpa using run_loadCells_list (P := Tryz.prog) w x [] (by simp))
  · refine main _ ?_
    have := run_loadCells_list (P := Tryz.prog) w ⟨b, off, none⟩ (l.map u8v) (fun j v hj => by
      have hplain : (⟨b, off, none⟩ : Addr).add j = ⟨b, off + j, none⟩ := by unfold Addr.add; split <;> simp_all
      rw [hplain]; exact h j v hj)
    simpa using this

set_option maxRecDepth 100000 in
set_option maxHeartbeats 1000000 in
theorem hex_c (l : List UInt8) (a : Option Addr) (c : Nat) (w : World) (hl : l.length ≤ 140737488351232) (hc : Cells w a (l.map u8v)) :
    Calls Tryz.prog 23 #[.slice a l.length c] w fun e w' => e = .returned (.string (strOf (hexL l))) ∧ Ext w w' := by
  obtain ⟨i0, hi, hz0, hz1, hz2⟩ := info_parts info_u8
  have HC := hid hc
  clear hc
  obtain ⟨n, hn⟩ : ∃ n, l.length = n := ⟨_, rfl⟩
  have HN := hid hn
  rw [hn] at hl ⊢
  clear hn
  go_enter Tryz.func23, Tryz.ntmps23
  go_wp2_with (at_make; refine wpList_make_own _ rfl _ _ 66 rfl w.heap.size 5 i0 (.int .u8 0) 1 Tryz.underlying66 hi hz0 hz1 _ _ _ (2 * n) rfl rfl (by omega) (by rw [hz2]; omega) (by unfold maxLen; omega) (Nat.le_refl _) ?_)
  intro w1 own1 gr1
  have e1 : Ext w w1 := (Ext.refl w).grown gr1 (fun g h => by cases h)
  clear gr1
  go_wp2
  go_loopw [12, 3] (fun x v wr => ∃ k : Nat, k ≤ n ∧ x = .int .i64 k ∧ v = .slice (some ⟨w.heap.size, 0, none⟩) (2 * k) (2 * n) ∧ wr.ownsRow w.heap.size 5 1 v (2 * k) ((hexL (l.take k)).map u8v) ∧ Ext w wr)
    (fun x _ _ => n - (intOf x).toNat)
  case atStart => exact ⟨0, by omega, rfl, rfl, by simpa [hexL] using own1, e1⟩
  case round =>
    obtain ⟨k, hk, rfl, rfl, own, bb⟩ := hrel
    by_cases hlt : k < n
    · obtain ⟨b, off, rfl, hcell⟩ := (HC.out.ext bb).some_of (by rw [List.length_map, HN.out]; omega)
      have hc1 : wr.cell? ⟨b, off + k, none⟩ = some (.int .u8 ((l[k]?.getD 0).toNat : Nat)) := hcell k _ (by simp [u8v, HN.out, hlt])
      clear hcell
      have h8 := u8_lt (l[k]?.getD 0)
      obtain ⟨r1, r2, r3⟩ := run_digits2 (l[k]?.getD 0)
      have hs := hexL_snoc l k (by rw [HN.out]; exact hlt)
      have HS := hid hs
      clear hs
      go_wp2
      go_region_law ((refine step_append_fits rfl _ _ 66 rfl w.heap.size 5 i0 1 Tryz.underlying66 hi hz1 w.heap.size (2 * k) (2 * n) _ rfl (own.alloc _) ⟨wr.heap.size, 0, none⟩ 2 2 ((hex2 (l[k]?.getD 0)).map u8v) rfl rfl (news_blk (T := 5) (Blk.mk_alloc rfl rfl)) (one_u8 _) (by omega) ?_; intro w2 own2 gr2))
      all_goals
        have e2 : Ext w w2 := ((bb.alloc _).drew).grown gr2 (fun g h => by cases h; exact Nat.le_refl _)
        rw [← List.map_append, ← HS.out] at own2
        clear gr2 own bb hc1 r1 r2 r3
        go_wp2
        go_roundw
        case rel => exact ⟨k + 1, by omega, by go_num, by rw [show 2 * (k + 1) = 2 * k + 2 by omega], own2, e2⟩
        case measure => simp [intOf]; omega
    · obtain rfl : k = n := by omega
      have hcs : Cells wr (some ⟨w.heap.size, 0, none⟩) ((hexL l).map u8v) := by
        refine .inr ⟨_, _, rfl, fun i u hu => ?_⟩
        rw [List.take_of_length_le (by rw [HN.out]; omega)] at own
        have h1 := own.cellAt i (by have := (List.getElem?_eq_some_iff.1 hu).1; rw [List.length_map, hexL_length, HN.out] at this; omega)
        rw [Nat.zero_add, h1]; exact hu
      have hst := run_string_of wr _ (hexL l) (2 * k) (2 * k) hcs (by rw [hexL_length, HN.out])
      go_wp2
      go_ret
      exact ⟨rfl, bb⟩

set_option maxHeartbeats 400000 in
theorem landed_c (w : World) : Calls Tryz.prog 6 #[] w fun e w' => e = .returned (.bool true) ∧ Ext w w' := by
  go_enter Tryz.func6, Tryz.ntmps6
  go_wp2_with fail
  refine (hex_c [1] _ _ _ (by simp) (Cells.of_blk0 (T := 5) (Blk.mk_alloc rfl rfl))).mono ?_
  rintro e w1 ⟨rfl, hb⟩
  have h01 : strOf (hexL [1]) = { data := #[48, 49] } := by decide
  rw [h01]
  go_wp2
  go_ret
  exact ⟨rfl, (Ext.alloc (Ext.refl w) _).ext hb⟩
end
end Go.Proofs.YthfddfgncolnbaaGreat
