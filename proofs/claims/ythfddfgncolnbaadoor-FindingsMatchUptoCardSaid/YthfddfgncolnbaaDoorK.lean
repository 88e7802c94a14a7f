/- Rules for walking regions whose order is drawn, with a class of worlds and a forced tail; no condition. -/
import Derived.Deep.Quiet
import Derived.Deep.QuietTactic
namespace Go.Proofs.YthfddfgncolnbaaDoor
open Go

/-- i waits for j -/
def waits (ops : Array Oper) (i j : Nat) : Bool := (ops[i]?).any fun o => o.after.any fun e => Region.binds .any e && e.on == j

def dstOf (ops : Array Oper) (i : Nat) : Option Tmp := (ops[i]?).bind (·.dst)

def noSel (o : Oper) : Bool := match o.op with | .select .. => false | _ => true

def clsOk (ops : Array Oper) (n : Nat) : Bool :=
  ((List.range ops.size).all fun i => (ops[i]?).all fun o => o.after.all fun e => !Region.binds .any e || decide (e.on < i)) &&
  ((List.range n).all fun i => (ops[i]?).all fun o => noSel o &&
    ((List.range n).all fun j => (dstOf ops j).all fun t => (i == j || o.dst != some t) &&
          (!(o.looksAt ops).contains t || ((decide (i ≤ j) || waits ops i j) && (decide (j ≤ i) || waits ops j i))))) &&
  ((decide (n = ops.size) || (List.range n).all fun i => (List.range (n + 1)).any fun j => decide (i < j) && waits ops j i) &&
   ((List.range ops.size).all fun t => decide (t ≤ n) || waits ops t (t - 1))) &&
  decide (n ≤ ops.size)

section
variable {P : Program} {ops : Array Oper} {Q : Exit → Act → World → Prop}

theorem wp_region_inv {id : Nat} {a : Act} {w : World} (I : Array Bool → Act → World → Prop) (hm : P.follows .mixedOrders = true)
    (h0 : I (Array.replicate ops.size false) a { w with drawn := w.drawn + 1 })
    (hstep : ∀ listed a w i, listed.size = ops.size → I listed a w → i ∈ Region.ready .any ops listed → wpOp P ops Q i (I (listed.setIfInBounds i true)) a w)
    (hend : ∀ listed a w, listed.size = ops.size → I listed a w → Region.ready .any ops listed = [] → Q .normal a w) : (Code.region id ops true).wp P Q a w := by
  refine wp_region_any hm ?_
  have key : ∀ (f : Nat) (listed : Array Bool) (a : Act) (w : World), listed.size = ops.size → (listed.toList.count false ≤ f) → I listed a w → wpAny P .any ops Q f listed a w := by
    intro f
    induction f with
    | zero =>
      intro listed a w hs hf hI
      have hr : Region.ready .any ops listed = [] := by
        apply List.eq_nil_iff_forall_not_mem.2
        intro i hi
        obtain ⟨h1, o, ho, _⟩ := mem_ready.1 hi
        have hlt : i < listed.size := by
          rw [hs]; exact (Array.getElem?_eq_some_iff.1 ho).1
        have h2 : listed[i] = false := by simpa [hlt] using h1
        have h3 : false ∈ listed.toList := by rw [← h2]; simp
        have := List.count_pos_iff.2 h3
        omega
      exact ⟨hr, hend _ _ _ hs hI hr⟩
    | succ f ih =>
      intro listed a w hs hf hI
      refine ⟨hend _ _ _ hs hI, fun i hi => ?_⟩
      refine wpOp_mono (fun a' w' h' => ih _ a' w' (by simpa using hs) ?_ h') (hstep _ _ _ _ hs hI hi)
      obtain ⟨h1, o, ho, _⟩ := mem_ready.1 hi
      have hlt : i < listed.size := by
        rw [hs]; exact (Array.getElem?_eq_some_iff.1 ho).1
      have h2 : listed[i] = false := by simpa [hlt] using h1
      have h4 : (listed.setIfInBounds i true).toList = listed.toList.set i true := by simp
      have h5 : listed.toList[i]'(by simpa using hlt) = false := by simpa using h2
      have h3 : false ∈ listed.toList := by rw [← h2]; simp
      have h6 := List.count_pos_iff.2 h3
      have h7 : List.count false (listed.toList.set i true) = List.count false listed.toList - 1 := by
        rw [List.count_set (by simpa using hlt), h5]
        rfl
      rw [h4, h7]
      omega
  refine key _ _ _ _ (by simp) ?_ h0
  simp

structure Agree (ops : Array Oper) (n : Nat) (vs : Nat → Value) (a0 : Act) (S : Nat → Bool) (a : Act) : Prop where
  dfs : a.defers = a0.defers
  sz : a.tmps.size = a0.tmps.size
  yes : ∀ t, t < a0.tmps.size → ∀ i, i < n → S i = true → dstOf ops i = some t → a.tmps[t]? = some (vs i)
  no : ∀ t, t < a0.tmps.size → (∀ i, i < n → S i = true → dstOf ops i ≠ some t) → a.tmps[t]? = a0.tmps[t]?

theorem Agree.put {n : Nat} {vs : Nat → Value} {a0 a : Act} {S S' : Nat → Bool} (h : Agree ops n vs a0 S a) {i : Nat} (hin : i < n) (hS : S i = false)
    (hS' : S' i = true) (hSS : ∀ j, j ≠ i → S' j = S j)
    (hd : ∀ j, j < n → j ≠ i → ∀ t, dstOf ops i = some t → dstOf ops j ≠ some t) : Agree ops n vs a0 S' (a.put (dstOf ops i) (vs i)) := by
  cases hdi : dstOf ops i with
  | none =>
    refine ⟨h.dfs, h.sz, fun t ht j hj hSj hdj => ?_, fun t ht hno => ?_⟩
    · have hji : j ≠ i := fun e => by subst e; rw [hdi] at hdj; cases hdj
      exact h.yes t ht j hj (by rw [← hSS j hji]; exact hSj) hdj
    · refine h.no t ht fun j hj hSj => ?_
      have hji : j ≠ i := fun e => by subst e; rw [hS] at hSj; cases hSj
      exact hno j hj (by rw [hSS j hji]; exact hSj)
  | some d =>
    refine ⟨h.dfs, by simp [Act.put, h.sz], fun t ht j hj hSj hdj => ?_, fun t ht hno => ?_⟩
    · by_cases hji : j = i
      · subst hji
        rw [hdi] at hdj
        cases hdj
        have : d < a.tmps.size := by rw [h.sz]; exact ht
        simp [Act.put, this]
      · have hne : d ≠ t := fun e => hd j hj hji d hdi (by rw [hdj, e])
        simp only [Act.put]
        rw [Array.getElem?_setIfInBounds_ne hne]
        exact h.yes t ht j hj (by rw [← hSS j hji]; exact hSj) hdj
    · have hne : d ≠ t := fun e => hno i hin hS' (by rw [hdi, e])
      simp only [Act.put]
      rw [Array.getElem?_setIfInBounds_ne hne]
      refine h.no t ht fun j hj hSj => ?_
      have hji : j ≠ i := fun e => by subst e; rw [hS] at hSj; cases hSj
      exact hno j hj (by rw [hSS j hji]; exact hSj)

theorem Agree.same {n : Nat} {vs : Nat → Value} {a0 a a' : Act} {S S' : Nat → Bool} (h : Agree ops n vs a0 S a) (h' : Agree ops n vs a0 S' a') {t : Nat}
    (hSS : ∀ j, j < n → dstOf ops j = some t → S j = S' j) : a.tmps[t]? = a'.tmps[t]? := by
  by_cases ht : t < a0.tmps.size
  · by_cases he : ∃ i, i < n ∧ S i = true ∧ dstOf ops i = some t
    · obtain ⟨i, hi, hSi, hdi⟩ := he
      rw [h.yes t ht i hi hSi hdi, h'.yes t ht i hi (by rw [← hSS i hi hdi]; exact hSi) hdi]
    · have hn : ∀ i, i < n → S i = true → dstOf ops i ≠ some t := fun i hi hs hd => he ⟨i, hi, hs, hd⟩
      rw [h.no t ht hn, h'.no t ht fun i hi hs hd => hn i hi (by rw [hSS i hi hd]; exact hs) hd]
  · have h1 : ¬ t < a.tmps.size := by rw [h.sz]; exact ht
    have h2 : ¬ t < a'.tmps.size := by rw [h'.sz]; exact ht
    simp [h1, h2]

theorem Agree.eq {n : Nat} {vs : Nat → Value} {a0 a a' : Act} {S S' : Nat → Bool} (h : Agree ops n vs a0 S a) (h' : Agree ops n vs a0 S' a')
    (hSS : ∀ j, j < n → S j = S' j) : a = a' := by
  have e1 : a.tmps = a'.tmps := by
    apply Array.ext_getElem?
    intro t
    exact h.same h' fun j hj _ => hSS j hj
  have e2 : a.defers = a'.defers := by rw [h.dfs, h'.dfs]
  cases a; cases a'; simp_all

theorem Agree.eval {n : Nat} {vs : Nat → Value} {a0 a a' : Act} {S S' : Nat → Bool} (h : Agree ops n vs a0 S a) (h' : Agree ops n vs a0 S' a') {o : Oper}
    (hs : noSel o = true) (hSS : ∀ j, j < n → ∀ t, dstOf ops j = some t → t ∈ o.looksAt ops → S j = S' j) :
    execOp a.eval o = execOp a'.eval o ∧ Region.wanted o (yielded ops a.tmps) = Region.wanted o (yielded ops a'.tmps) := by
  have ht : ∀ t, t ∈ o.looksAt ops → a.tmps[t]? = a'.tmps[t]? := fun t htm => h.same h' fun j hj hd => hSS j hj t hd htm
  constructor
  · refine execOp_congr o (fun cs b e => by simp [noSel, e] at hs) fun x hx => ?_
    cases x with
    | tmp t =>
      have := ht t (List.mem_append_left _ (List.mem_filterMap.2 ⟨.tmp t, by simpa using hx, rfl⟩))
      simp [Act.eval, this]
    | _ => rfl
  · unfold Region.wanted
    cases hg : o.guard with
    | none => rfl
    | some g =>
      obtain ⟨j, want⟩ := g
      simp only [yielded]
      cases hd : (ops[j]?).bind (·.dst) with
      | none => simp
      | some t =>
        have := ht t (List.mem_append_right _ (by simp [hg, hd]))
        simp [this]

theorem lex_vals {C : World → Prop} {K : Act → Prop} : ∀ (l : List Oper) (k : Nat) (a : Act), (∀ j, j < l.length → ops[k + j]? = l[j]?) → wpQuiet P ops C K l a →
    ∃ (vs : Nat → Value) (st : Nat → Act), st k = a ∧ (∀ j, k ≤ j → j < k + l.length → st (j + 1) = (st j).put (dstOf ops j) (vs j) ∧ ∃ o, ops[j]? = some o ∧ YieldsIn P ops C o (vs j) (st j)) ∧ K (st (k + l.length))
  | [], k, a, _, h => ⟨fun _ => undef, fun _ => a, rfl, fun j h1 h2 => by simp at h2; omega, h⟩
  | o :: l, k, a, hl, h => by
    have h0 : ops[k]? = some o := by simpa using hl 0 (by simp)
    have hq : qOp P ops C k (wpQuiet P ops C K l) a := by unfold qOp; simp only [h0]; exact h
    obtain ⟨v, hy, hK⟩ := yieldsIn_of_qOp h0 hq
    obtain ⟨vs, st, h1, h2, h3⟩ := lex_vals l (k + 1) _ (fun j hj => by
      have := hl (j + 1) (by simpa using hj)
      simpa [Nat.add_assoc, Nat.add_comm 1 j] using this) hK
    refine ⟨fun j => if j = k then v else vs j, fun j => if j = k then a else st j, by simp, fun j hj hj' => ?_, ?_⟩
    · by_cases hjk : j = k
      · subst hjk
        simp only [if_true, if_neg (show j + 1 ≠ j by omega)]
        refine ⟨by rw [h1]; simp [dstOf, h0], o, h0, hy⟩
      · simp only [if_neg hjk, if_neg (show j + 1 ≠ k by omega)]
        exact h2 j (by omega) (by simp only [List.length_cons] at hj'; omega)
    · simp only [List.length_cons, if_neg (show k + (l.length + 1) ≠ k by omega)]
      have e : k + (l.length + 1) = k + 1 + l.length := by omega
      rw [e]; exact h3

theorem clsOk_spec {n : Nat} (h : clsOk ops n = true) :
    (∀ i o, ops[i]? = some o → ∀ e ∈ o.after, Region.binds .any e = true → e.on < i) ∧
    (∀ i o, i < n → ops[i]? = some o → noSel o = true ∧ ∀ j t, j < n → dstOf ops j = some t → (i ≠ j → o.dst ≠ some t) ∧ (t ∈ o.looksAt ops → (j < i → waits ops i j = true) ∧ (i < j → waits ops j i = true))) ∧
    ((n < ops.size → ∀ i, i < n → ∃ j, i < j ∧ j ≤ n ∧ waits ops j i = true) ∧ (∀ t, n < t → t < ops.size → waits ops t (t - 1) = true)) ∧ n ≤ ops.size := by
  simp only [clsOk, Bool.and_eq_true, List.all_eq_true, List.any_eq_true, List.mem_range, Option.all_eq_true, Bool.or_eq_true, decide_eq_true_eq, Bool.not_eq_true', Array.all_eq_true', beq_iff_eq, bne_iff_ne] at h
  obtain ⟨⟨⟨h1, h2⟩, h3, h5⟩, h4⟩ := h
  refine ⟨fun i o ho e he hb => ?_, fun i o hi ho => ?_, ⟨fun hn i hi => ?_, fun t ht ht' => ?_⟩, h4⟩
  · rcases h1 i (Array.getElem?_eq_some_iff.1 ho).1 o ho e he with h | h
    · rw [hb] at h; cases h
    · exact h
  · obtain ⟨a, b⟩ := h2 i hi o ho
    refine ⟨a, fun j t hj hd => ?_⟩
    obtain ⟨c, d⟩ := b j hj t hd
    refine ⟨fun hne => ?_, fun hm => ?_⟩
    · rcases c with c | c
      · exact absurd c hne
      · exact c
    · rcases d with d | ⟨d1, d2⟩
      · rw [List.contains_iff_mem.2 hm] at d; cases d
      · refine ⟨fun hlt => ?_, fun hlt => ?_⟩
        · rcases d1 with d1 | d1
          · omega
          · exact d1
        · rcases d2 with d2 | d2
          · omega
          · exact d2
  · rcases h3 with h | h
    · omega
    · obtain ⟨j, hj, hij, hw⟩ := h i hi
      exact ⟨j, hij, by omega, hw⟩
  · rcases h5 t ht' with h | h
    · omega
    · exact h

theorem waits_spec {i j : Nat} (h : waits ops i j = true) : ∃ o, ops[i]? = some o ∧ ∃ e ∈ o.after, Region.binds .any e = true ∧ e.on = j := by
  unfold waits at h
  cases ho : ops[i]? with
  | none => rw [ho] at h; cases h
  | some o =>
    rw [ho] at h
    simp only [Option.any_some, Array.any_eq_true', Bool.and_eq_true, beq_iff_eq] at h
    obtain ⟨e, he, hb, hj⟩ := h
    exact ⟨o, rfl, e, he, hb, hj⟩

theorem getD_ft {listed : Array Bool} {i : Nat} (hi : i < listed.size) : listed.getD i true = listed.getD i false := by
  simp [hi]

theorem mem_ready_of {listed : Array Bool} {m : Nat} (hs : listed.size = ops.size) (hm : m < ops.size) (hun : listed.getD m false = false) (hall : ∀ j, j < m → listed.getD j false = true)
    (he : ∀ o, ops[m]? = some o → ∀ e ∈ o.after, Region.binds .any e = true → e.on < m) : m ∈ Region.ready .any ops listed := by
  have ho : ops[m]? = some ops[m] := by simp [hm]
  exact mem_ready.2 ⟨by rw [getD_ft (by omega)]; exact hun, ops[m], ho, fun e hem hb => hall _ (he _ ho e hem hb)⟩

/-- A region whose order is drawn: the first n operations only read and call quietly, in every world of the class C; the others come behind all of them, one by one. -/
theorem wp_region_cls {id : Nat} {a : Act} {w : World} {l : List Oper} {C : World → Prop} (n : Nat) (hm : P.follows .mixedOrders = true) (hB : clsOk l.toArray n = true) (hC : C w.drew)
    (h : wpQuiet P l.toArray C (fun a' => ∀ w', C w' → wpList P l.toArray Q (l.drop n) a' w') (l.take n) a) : (Code.region id l.toArray true).wp P Q a w := by
  obtain ⟨b1, b2, ⟨b3, b5⟩, b4⟩ := clsOk_spec hB
  have hnl : n ≤ l.length := by simpa using b4
  have htl : (l.take n).length = n := by simp [hnl]
  obtain ⟨vs, st, hst0, hst, hK⟩ := lex_vals (l.take n) 0 a (fun j hj => by
    have hj' : j < n := by rw [htl] at hj; exact hj
    simp [hj']) h
  rw [htl] at hst hK
  simp only [Nat.zero_add] at hst hK
  have hag : ∀ i, i ≤ n → Agree l.toArray n vs a (fun j => decide (j < i)) (st i) := by
    intro i
    induction i with
    | zero =>
      intro _
      rw [hst0]
      exact ⟨rfl, rfl, fun _ _ _ _ h => by simp at h, fun _ _ _ => rfl⟩
    | succ i ih =>
      intro hi
      obtain ⟨h1, o, ho, _⟩ := hst i (Nat.zero_le _) (by omega)
      rw [h1]
      refine (ih (by omega)).put (by omega) (by simp) (by simp) (fun j hj => ?_) (fun j hj hji t hd => ?_)
      · simp; omega
      · intro hd'
        have := ((b2 i o (by omega) ho).2 j t hj hd').1 (Ne.symm hji)
        simp only [dstOf, ho] at hd
        exact this hd
  refine wp_region_inv (I := fun listed a' w' =>
    ((∀ t, n ≤ t → listed.getD t false = false) ∧ (∀ i, listed.getD i false = true → ∀ o, l.toArray[i]? = some o → ∀ e ∈ o.after, Region.binds .any e = true → listed.getD e.on false = true) ∧
      Agree l.toArray n vs a (fun j => listed.getD j false) a' ∧ C w') ∨
    (∃ m, n ≤ m ∧ m ≤ l.length ∧ (∀ j, j < l.length → listed.getD j false = decide (j < m)) ∧ wpList P l.toArray Q (l.drop m) a' w')) hm ?_ ?_ ?_
  · refine .inl ⟨fun t _ => ?_, fun i hi => ?_, ⟨rfl, rfl, fun _ _ _ _ h => ?_, fun _ _ _ => rfl⟩, hC⟩
    · simp [Array.getElem?_replicate]
      split <;> rfl
    · exfalso
      simp [Array.getElem?_replicate] at hi
      split at hi <;> cases hi
    · exfalso
      simp [Array.getElem?_replicate] at h
      split at h <;> cases h
  · intro listed a' w' i hsz hI hi
    obtain ⟨hun, o, ho, hall⟩ := mem_ready.1 hi
    have hil : i < l.length := by simpa using (Array.getElem?_eq_some_iff.1 ho).1
    have hun' : listed.getD i false = false := by rw [← getD_ft (by rw [hsz]; simpa using hil)]; exact hun
    have hw8 : ∀ j, waits l.toArray i j = true → listed.getD j false = true := fun j hj => by
      obtain ⟨o', ho', e, he, hb, hon⟩ := waits_spec hj
      have : o' = o := Option.some.inj (ho'.symm.trans ho)
      subst this
      rw [← hon]; exact hall e he hb
    have two : ∀ m, n ≤ m → m ≤ l.length → (∀ j, j < l.length → listed.getD j false = decide (j < m)) → wpList P l.toArray Q (l.drop m) a' w' →
        wpOp P l.toArray Q i (fun a'' w'' => (∃ m, n ≤ m ∧ m ≤ l.length ∧ (∀ j, j < l.length → (listed.setIfInBounds i true).getD j false = decide (j < m)) ∧ wpList P l.toArray Q (l.drop m) a'' w'')) a' w' := by
      intro m hnm hml hlist hw
      have him : i = m := by
        have h1 : ¬ i < m := fun hlt => by have := hlist i hil; rw [hun'] at this; simp at this; omega
        rcases Nat.lt_or_ge m i with h2 | h2
        · have h3 := hw8 (i - 1) (b5 i (by omega) (by simpa using hil))
          have h4 := hlist (i - 1) (by omega)
          rw [h3] at h4; simp at h4; omega
        · omega
      subst him
      have hd : l.drop i = o :: l.drop (i + 1) := by
        have ho' : l[i] = o := by
          have := (Array.getElem?_eq_some_iff.1 ho).2
          simpa using this
        rw [← ho']; exact List.drop_eq_getElem_cons hil
      rw [hd] at hw
      have hw' : wpOp P l.toArray Q i (wpList P l.toArray Q (l.drop (i + 1))) a' w' := by
        unfold wpOp; simp only [ho]; exact hw
      refine wpOp_mono (fun a'' w'' h'' => ⟨i + 1, by omega, by omega, fun j hj => ?_, h''⟩) hw'
      by_cases hji : j = i
      · subst hji
        have : j < listed.size := by rw [hsz]; simpa using hil
        simp [this]
      · have hne : i ≠ j := Ne.symm hji
        have h9 := hlist j hj
        simp only [Array.getD_eq_getD_getElem?] at h9 ⊢
        rw [Array.getElem?_setIfInBounds_ne hne, h9]
        by_cases hjl : j < i
        · simp [hjl]; omega
        · simp [hjl]; omega
    rcases hI with ⟨hno, hdc, hA, hCw⟩ | ⟨m, hnm, hml, hlist, hw⟩
    · by_cases hin : i < n
      · obtain ⟨_, o', ho', hy⟩ := hst i (Nat.zero_le _) hin
        have : o' = o := Option.some.inj (ho'.symm.trans ho)
        subst this
        obtain ⟨b21, b22⟩ := b2 i o' hin ho
        have hev := hA.eval (hag i (by omega)) (o := o') b21 (fun j hj t hd ht => by
          obtain ⟨_, c2⟩ := b22 j t hj hd
          obtain ⟨c3, c4⟩ := c2 ht
          rcases Nat.lt_trichotomy j i with h1 | h1 | h1
          · simp only [h1, decide_true]; exact hw8 j (c3 h1)
          · subst h1; simp only [Nat.lt_irrefl, decide_false]; exact hun'
          · have : ¬ j < i := by omega
            simp only [this, decide_false]
            cases hl : listed.getD j false with
            | false => rfl
            | true =>
              obtain ⟨oj, hoj, e, he, hb, hon⟩ := waits_spec (c4 h1)
              have := hdc j hl oj hoj e he hb
              rw [hon, hun'] at this; cases this)
        have hy' : YieldsIn P l.toArray C o' (vs i) a' := hy.of_same hev.1 hev.2
        have hq : qOp P l.toArray C i (fun a'' => a'' = a'.put o'.dst (vs i)) a' := hy'.qOp ho rfl
        refine wpOp_of_qOp hCw (fun a'' w'' hCw'' he => ?_) hq
        subst he
        refine .inl ⟨fun t ht => ?_, fun k hk ok hok e he hb => ?_, ?_, hCw''⟩
        · have hne : i ≠ t := by omega
          have h9 := hno t ht
          simp only [Array.getD_eq_getD_getElem?] at h9 ⊢
          rw [Array.getElem?_setIfInBounds_ne hne]; exact h9
        · have hset : ∀ j, listed.getD j false = true → (listed.setIfInBounds i true).getD j false = true := fun j hj => by
            by_cases hji : i = j
            · subst hji; rw [hun'] at hj; cases hj
            · simp only [Array.getD_eq_getD_getElem?] at hj ⊢
              rw [Array.getElem?_setIfInBounds_ne hji]; exact hj
          by_cases hki : i = k
          · subst hki
            have : ok = o' := Option.some.inj (hok.symm.trans ho)
            subst this
            exact hset _ (hall e he hb)
          · refine hset _ (hdc k ?_ ok hok e he hb)
            simp only [Array.getD_eq_getD_getElem?] at hk ⊢
            rw [Array.getElem?_setIfInBounds_ne hki] at hk; exact hk
        · have hdo : o'.dst = dstOf l.toArray i := by simp [dstOf, ho]
          rw [hdo]
          refine hA.put hin hun' ?_ (fun j hj => ?_) (fun j hj hji t hd hd' => ?_)
          · have : i < listed.size := by rw [hsz]; simpa using hil
            simp [this]
          · have hne : i ≠ j := Ne.symm hj
            simp only [Array.getD_eq_getD_getElem?]
            rw [Array.getElem?_setIfInBounds_ne hne]
          · have := (b22 j t hj hd').1 (Ne.symm hji)
            rw [← hdo] at hd
            exact this hd
      · have hin2 : i = n := by
          rcases Nat.lt_or_ge n i with h1 | h1
          · have h2 := hw8 (i - 1) (b5 i h1 (by simpa using hil))
            rw [hno (i - 1) (by omega)] at h2; cases h2
          · omega
        have hall2 : ∀ j, j < i → listed.getD j false = true := by
          have key : ∀ d j, i - j = d → j < i → listed.getD j false = true := by
            intro d
            induction d using Nat.strongRecOn with
            | _ d ih =>
              intro j hd hj
              obtain ⟨k, hjk, hkn, hw⟩ := b3 (by simpa [hin2] using hil) j (by omega)
              by_cases hki : k = i
              · subst hki; exact hw8 j hw
              · have hk := ih (i - k) (by omega) k rfl (by omega)
                obtain ⟨ok, hok, e, he, hb, hon⟩ := waits_spec hw
                rw [← hon]; exact hdc k hk ok hok e he hb
          exact fun j hj => key _ j rfl hj
        have hae : a' = st n := hA.eq (hag n (Nat.le_refl _)) fun j hj => by
          rw [hall2 j (by omega)]; simp [hj]
        refine wpOp_mono (fun a'' w'' h'' => .inr h'') (two n (Nat.le_refl _) (by omega) (fun j hj => ?_) (by rw [hae]; exact hK w' hCw))
        by_cases hjn : j < n
        · rw [hall2 j (by omega)]; simp [hjn]
        · rw [hno j (by omega)]; simp [hjn]
    · exact wpOp_mono (fun a'' w'' h'' => .inr h'') (two m hnm hml hlist hw)
  · intro listed a' w' hsz hI hr
    have hsz' : listed.size = l.length := by rw [hsz]; simp
    rcases hI with ⟨hno, hdc, hA, hCw⟩ | ⟨m, hnm, hml, hlist, hw⟩
    · have hall : ∀ i, i < l.length → listed.getD i false = true := by
        intro i
        induction i using Nat.strongRecOn with
        | _ i ih =>
          intro hi
          cases hl : listed.getD i false with
          | true => rfl
          | false =>
            have := mem_ready_of (ops := l.toArray) hsz (by simpa using hi) hl (fun j hj => ih j hj (by omega)) (fun o ho e he hb => b1 i o ho e he hb)
            rw [hr] at this; cases this
      have hn : n = l.length := by
        rcases Nat.lt_or_ge n l.length with h1 | h1
        · have := hall n h1
          rw [hno n (Nat.le_refl _)] at this; cases this
        · omega
      have hae : a' = st n := hA.eq (hag n (Nat.le_refl _)) fun j hj => by
        rw [hall j (by omega)]; simp [hj]
      have := hK w' hCw
      rw [hae]
      rw [hn, List.drop_length] at this
      rw [hn]
      exact this
    · have hml' : m = l.length := by
        rcases Nat.lt_or_ge m l.length with h1 | h1
        · have := mem_ready_of (ops := l.toArray) hsz (by simpa using h1) (by rw [hlist m h1]; simp) (fun j hj => by rw [hlist j (by omega)]; simp [hj]) (fun o ho e he hb => b1 m o ho e he hb)
          rw [hr] at this; cases this
        · omega
      rw [hml', List.drop_length] at hw
      exact hw
end
end Go.Proofs.YthfddfgncolnbaaDoor
