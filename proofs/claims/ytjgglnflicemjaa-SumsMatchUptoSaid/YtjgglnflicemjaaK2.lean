/- The rule for regions whose order is drawn, with variables that the region itself makes; no condition. -/
import Derived.Test.YtjgglnflicemjaaK
import Derived.Test.YtjgglnflicemjaaM
namespace Go.Proofs.Ytjgglnflicemjaa
open Go Go.RowKit

section
variable {P : Program} {ops : Array Oper} {Q : Exit → Act → World → Prop} {C : World → Prop}

def uponE (P : Program) (C : World → Prop) (w : World) (v : Value) : Result Next → Prop
  | .ok (.value u) w' => w' = w ∧ u = v
  | .ok .skip w' => w' = w ∧ v = undef
  | .ok (.enter f args) w' => w' = w ∧ Calls P f args w (fun e w'' => e = .returned v ∧ C w'' ∧ Ext w w'')
  | _ => False

/-- in every world of the class the operation yields v, and nothing that was there turns -/
def yieldsE (P : Program) (C : World → Prop) (o : Oper) (a : Act) (v : Value) : Prop := ∀ w, C w → uponE P C w v ((execOp a.eval o).run P w)

def isAl (al : List (Nat × List Value × TypeId)) (k : Nat) : Bool := al.any fun x => x.1 == k

def wpQE (P : Program) (ops : Array Oper) (C : World → Prop) (al : List (Nat × List Value × TypeId)) (R : Act → Prop) : List Oper → Nat → Act → Prop
  | [], _, a => R a
  | o :: rest, k, a =>
    if isAl al k then wpQE P ops C al R rest (k + 1) (a.put o.dst undef)
    else if Region.wanted o (yielded ops a.tmps) then ∃ v, yieldsE P C o a v ∧ wpQE P ops C al R rest (k + 1) (a.put o.dst v)
    else wpQE P ops C al R rest (k + 1) (a.put o.dst undef)

theorem wpQE_nil {al : List (Nat × List Value × TypeId)} {R : Act → Prop} {k : Nat} {a : Act} (h : R a) : wpQE P ops C al R [] k a := h
theorem wpQE_al {al : List (Nat × List Value × TypeId)} {R : Act → Prop} {k : Nat} {a : Act} {o : Oper} {rest : List Oper} (hk : isAl al k = true) (h : wpQE P ops C al R rest (k + 1) (a.put o.dst undef)) :
    wpQE P ops C al R (o :: rest) k a := by simp only [wpQE, hk, if_true]; exact h
theorem wpQE_do {al : List (Nat × List Value × TypeId)} {R : Act → Prop} {k : Nat} {a : Act} {o : Oper} {rest : List Oper} (hk : isAl al k = false) (hw : Region.wanted o (yielded ops a.tmps) = true) (v : Value)
    (hv : yieldsE P C o a v) (h : wpQE P ops C al R rest (k + 1) (a.put o.dst v)) : wpQE P ops C al R (o :: rest) k a := by
  simp only [wpQE, hk, Bool.false_eq_true, if_false, hw, if_true]; exact ⟨v, hv, h⟩
theorem wpQE_no {al : List (Nat × List Value × TypeId)} {R : Act → Prop} {k : Nat} {a : Act} {o : Oper} {rest : List Oper} (hk : isAl al k = false) (hw : Region.wanted o (yielded ops a.tmps) = false)
    (h : wpQE P ops C al R rest (k + 1) (a.put o.dst undef)) : wpQE P ops C al R (o :: rest) k a := by
  simp only [wpQE, hk, Bool.false_eq_true, if_false, hw]; exact h

/-- what the lexical walk says of one operation -/
def stepE (P : Program) (ops : Array Oper) (C : World → Prop) (al : List (Nat × List Value × TypeId)) (o : Oper) (k : Nat) (a : Act) (v : Value) : Prop :=
  isAl al k = true ∨ (Region.wanted o (yielded ops a.tmps) = true ∧ yieldsE P C o a v) ∨ (Region.wanted o (yielded ops a.tmps) = false ∧ v = undef)

theorem lex_valsE {al : List (Nat × List Value × TypeId)} {R : Act → Prop} : ∀ (l : List Oper) (k : Nat) (a : Act), (∀ j, j < l.length → ops[k + j]? = l[j]?) → wpQE P ops C al R l k a →
    ∃ (vs : Nat → Value) (st : Nat → Act), st k = a ∧ (∀ j, k ≤ j → j < k + l.length → st (j + 1) = (st j).put (dstOf ops j) (vs j) ∧ ∃ o, ops[j]? = some o ∧ stepE P ops C al o j (st j) (vs j)) ∧ R (st (k + l.length))
  | [], k, a, _, h => ⟨fun _ => undef, fun _ => a, rfl, fun j h1 h2 => by simp at h2; omega, h⟩
  | o :: l, k, a, hl, h => by
    have h0 : ops[k]? = some o := by simpa using hl 0 (by simp)
    have hv : ∃ v, stepE P ops C al o k a v ∧ wpQE P ops C al R l (k + 1) (a.put o.dst v) := by
      simp only [wpQE] at h
      by_cases h1 : isAl al k = true
      · rw [if_pos h1] at h; exact ⟨undef, .inl h1, h⟩
      · rw [if_neg h1] at h
        by_cases h2 : Region.wanted o (yielded ops a.tmps) = true
        · rw [if_pos h2] at h
          obtain ⟨v, hv, h⟩ := h
          exact ⟨v, .inr (.inl ⟨h2, hv⟩), h⟩
        · rw [if_neg h2] at h
          exact ⟨undef, .inr (.inr ⟨by simpa using h2, rfl⟩), h⟩
    obtain ⟨v, hy, hK⟩ := hv
    obtain ⟨vs, st, h1, h2, h3⟩ := lex_valsE l (k + 1) _ (fun j hj => by
      have := hl (j + 1) (by simpa using hj)
      simpa [Nat.add_assoc, Nat.add_comm 1 j] using this) hK
    refine ⟨fun j => if j = k then v else vs j, fun j => if j = k then a else st j, by simp, fun j hj hj' => ?_, ?_⟩
    · by_cases hjk : j = k
      · subst hjk
        simp only [if_true, if_neg (show j + 1 ≠ j by omega)]
        refine ⟨by rw [h1]; simp [dstOf, h0], o, h0, hy⟩
      · simp only [if_neg hjk, if_neg (show j + 1 ≠ k by omega)]
        exact h2 j (by omega) (by simp only [List.length_cons] at hj'; omega)
    · simp only [List.length_cons, if_neg (show k + (l.length + 1) ≠ k by omega)]
      have e : k + (l.length + 1) = k + 1 + l.length := by omega
      rw [e]; exact h3

theorem Agree.same2 {n : Nat} {vs vs' : Nat → Value} {a0 a a' : Act} {S S' : Nat → Bool} (h : Agree ops n vs a0 S a) (h' : Agree ops n vs' a0 S' a') {t : Nat}
    (hSS : ∀ j, j < n → dstOf ops j = some t → S j = S' j ∧ vs j = vs' j) : a.tmps[t]? = a'.tmps[t]? := by
  by_cases ht : t < a0.tmps.size
  · by_cases he : ∃ i, i < n ∧ S i = true ∧ dstOf ops i = some t
    · obtain ⟨i, hi, hSi, hdi⟩ := he
      rw [h.yes t ht i hi hSi hdi, h'.yes t ht i hi (by rw [← (hSS i hi hdi).1]; exact hSi) hdi, (hSS i hi hdi).2]
    · have hn : ∀ i, i < n → S i = true → dstOf ops i ≠ some t := fun i hi hs hd => he ⟨i, hi, hs, hd⟩
      rw [h.no t ht hn, h'.no t ht fun i hi hs hd => hn i hi (by rw [(hSS i hi hd).1]; exact hs) hd]
  · have h1 : ¬ t < a.tmps.size := by rw [h.sz]; exact ht
    have h2 : ¬ t < a'.tmps.size := by rw [h'.sz]; exact ht
    simp [h1, h2]

theorem Agree.eval2 {n : Nat} {vs vs' : Nat → Value} {a0 a a' : Act} {S S' : Nat → Bool} (h : Agree ops n vs a0 S a) (h' : Agree ops n vs' a0 S' a') {o : Oper}
    (hs : noSel o = true) (hSS : ∀ j, j < n → ∀ t, dstOf ops j = some t → t ∈ o.looksAt ops → S j = S' j ∧ vs j = vs' j) :
    execOp a.eval o = execOp a'.eval o ∧ Region.wanted o (yielded ops a.tmps) = Region.wanted o (yielded ops a'.tmps) := by
  have ht : ∀ t, t ∈ o.looksAt ops → a.tmps[t]? = a'.tmps[t]? := fun t htm => h.same2 h' fun j hj hd => hSS j hj t hd htm
  constructor
  · refine execOp_congr o (fun cs b e => by simp [noSel, e] at hs) fun x hx => ?_
    cases x with
    | tmp t =>
      have := ht t (List.mem_append_left _ (List.mem_filterMap.2 ⟨.tmp t, by simpa using hx, rfl⟩))
      simp [Act.eval, this]
    | _ => rfl
  · unfold Region.wanted
    cases hg : o.guard with
    | none => rfl
    | some g =>
      obtain ⟨j, want⟩ := g
      simp only [yielded]
      cases hd : (ops[j]?).bind (·.dst) with
      | none => simp
      | some t =>
        have := ht t (List.mem_append_right _ (by simp [hg, hd]))
        simp [this]

theorem Agree.cong {n : Nat} {vs vs' : Nat → Value} {a0 a : Act} {S : Nat → Bool} (h : Agree ops n vs a0 S a) (hv : ∀ j, j < n → S j = true → vs j = vs' j) : Agree ops n vs' a0 S a :=
  ⟨h.dfs, h.sz, fun t ht i hi hS hd => by rw [h.yes t ht i hi hS hd, hv i hi hS], h.no⟩

theorem Agree.reput {n : Nat} {vs : Nat → Value} {a0 a : Act} {S : Nat → Bool} (h : Agree ops n vs a0 S a) {i : Nat} (hin : i < n) (hS : S i = true) (v : Value)
    (hd : ∀ j, j < n → j ≠ i → ∀ t, dstOf ops i = some t → dstOf ops j ≠ some t) : Agree ops n (fun j => if j = i then v else vs j) a0 S (a.put (dstOf ops i) v) := by
  cases hdi : dstOf ops i with
  | none =>
    refine ⟨h.dfs, h.sz, fun t ht j hj hSj hdj => ?_, h.no⟩
    have hji : j ≠ i := fun e => by subst e; rw [hdi] at hdj; cases hdj
    rw [if_neg hji]; exact h.yes t ht j hj hSj hdj
  | some d =>
    refine ⟨h.dfs, by simp [Act.put, h.sz], fun t ht j hj hSj hdj => ?_, fun t ht hno => ?_⟩
    · by_cases hji : j = i
      · subst hji
        rw [hdi] at hdj
        cases hdj
        have : d < a.tmps.size := by rw [h.sz]; exact ht
        simp [Act.put, this]
      · have hne : d ≠ t := fun e => hd j hj hji d hdi (by rw [hdj, e])
        simp only [Act.put]
        rw [Array.getElem?_setIfInBounds_ne hne, if_neg hji]
        exact h.yes t ht j hj hSj hdj
    · have hne : d ≠ t := fun e => hno i hin hS (by rw [hdi, e])
      simp only [Act.put]
      rw [Array.getElem?_setIfInBounds_ne hne]
      exact h.no t ht hno

def ptrOf (g : Nat) : Value := .pointer (some ⟨g, 0, none⟩)

/-- the variables that the region makes are put in -/
def putAl (ops : Array Oper) (gs : Nat → Nat) : List (Nat × List Value × TypeId) → Act → Act
  | [], a => a
  | x :: r, a => putAl ops gs r (a.put (dstOf ops x.1) (ptrOf (gs x.1)))

def alOk (ops : Array Oper) (n : Nat) (al : List (Nat × List Value × TypeId)) : Bool :=
  al.all fun x => decide (x.1 < n) && ((List.range n).all fun i => isAl al i || (ops[i]?).all fun o => (dstOf ops x.1).all fun t => !(o.looksAt ops).contains t)

theorem putAl_agree {n : Nat} {a0 : Act} {S : Nat → Bool} {gs : Nat → Nat} (hd : ∀ i, i < n → ∀ j, j < n → j ≠ i → ∀ t, dstOf ops i = some t → dstOf ops j ≠ some t) :
    ∀ (al : List (Nat × List Value × TypeId)) (vs : Nat → Value) (a : Act), (∀ x ∈ al, x.1 < n ∧ S x.1 = true) → Agree ops n vs a0 S a →
      Agree ops n (fun j => if isAl al j then ptrOf (gs j) else vs j) a0 S (putAl ops gs al a)
  | [], vs, a, _, h => by simpa [isAl, putAl] using h
  | x :: r, vs, a, hx, h => by
    obtain ⟨h1, h2⟩ := hx x (by simp)
    have := putAl_agree (gs := gs) hd r _ _ (fun y hy => hx y (by simp [hy])) (h.reput h1 h2 (ptrOf (gs x.1)) (hd x.1 h1))
    refine Agree.cong this fun j hj hS => ?_
    have hcons : isAl (x :: r) j = (x.1 == j || isAl r j) := rfl
    show (if isAl r j = true then ptrOf (gs j) else if j = x.1 then ptrOf (gs x.1) else vs j) = if isAl (x :: r) j = true then ptrOf (gs j) else vs j
    by_cases hr : isAl r j = true
    · rw [if_pos hr, if_pos (by rw [hcons, hr, Bool.or_true])]
    · rw [if_neg hr]
      by_cases hjx : j = x.1
      · subst hjx
        rw [if_pos rfl, if_pos (by rw [hcons]; simp)]
      · rw [if_neg hjx, if_neg]
        rw [hcons]
        simp only [Bool.or_eq_true, beq_iff_eq, not_or]
        exact ⟨fun e => hjx e.symm, hr⟩

/-- A region whose order is drawn: the first n operations read and call quietly in every world of the class C, or make variables (al: their numbers, what they hold, their types); the others come behind them, one by one. -/
theorem wp_region_al {id : Nat} {a : Act} {w : World} {l : List Oper} (n : Nat) (al : List (Nat × List Value × TypeId)) (B : Nat) (hm : P.follows .mixedOrders = true) (hB : clsOk l.toArray n = true)
    (hA : alOk l.toArray n al = true) (hC : C w.drew) (hCa : ∀ w o, C w → C (w.alloc o)) (hCB : ∀ w, C w → B ≤ w.heap.size)
    (hal : ∀ x ∈ al, ∃ o, l[x.1]? = some o ∧ o.guard = none ∧ ∀ ρ w, (execOp ρ o).run P w = .ok (.value (ptrOf w.heap.size)) (w.alloc (.cells x.2.1.toArray x.2.2)))
    (h : wpQE P l.toArray C al (fun a' => ∀ gs w', C w' → (∀ x ∈ al, Blk w' (gs x.1) x.2.1 x.2.2 ∧ B ≤ gs x.1) → (∀ x ∈ al, ∀ y ∈ al, x.1 ≠ y.1 → gs x.1 ≠ gs y.1) →
      wpList P l.toArray Q (l.drop n) (putAl l.toArray gs al a') w') (l.take n) 0 a) : (Code.region id l.toArray true).wp P Q a w := by
  obtain ⟨b1, b2, ⟨b3, b5⟩, b4⟩ := clsOk_spec hB
  have hA' : ∀ x ∈ al, x.1 < n ∧ ∀ i, i < n → isAl al i = false → ∀ o, l.toArray[i]? = some o → ∀ t, dstOf l.toArray x.1 = some t → t ∉ o.looksAt l.toArray := by
    intro x hx
    have := List.all_eq_true.1 hA x hx
    simp only [Bool.and_eq_true, decide_eq_true_eq, List.all_eq_true, List.mem_range, Bool.or_eq_true, Option.all_eq_true, Bool.not_eq_true'] at this
    refine ⟨this.1, fun i hi hal o ho t ht hmem => ?_⟩
    rcases this.2 i hi with h1 | h1
    · rw [hal] at h1; cases h1
    · have := h1 o ho t ht
      rw [List.contains_iff_mem.2 hmem] at this; cases this
  have hnl : n ≤ l.length := by simpa using b4
  have htl : (l.take n).length = n := by simp [hnl]
  have hdd : ∀ i, i < n → ∀ j, j < n → j ≠ i → ∀ t, dstOf l.toArray i = some t → dstOf l.toArray j ≠ some t := by
    intro i hi j hj hji t hd hd'
    have ho : l.toArray[i]? = some l[i] := by simp <;> omega
    have := ((b2 i _ hi ho).2 j t hj hd').1 (Ne.symm hji)
    simp only [dstOf, ho] at hd
    exact this hd
  obtain ⟨vs, st, hst0, hst, hK⟩ := lex_valsE (l.take n) 0 a (fun j hj => by
    have hj' : j < n := by rw [htl] at hj; exact hj
    simp [hj']) h
  rw [htl] at hst hK
  simp only [Nat.zero_add] at hst hK
  have hag : ∀ i, i ≤ n → Agree l.toArray n vs a (fun j => decide (j < i)) (st i) := by
    intro i
    induction i with
    | zero =>
      intro _
      rw [hst0]
      exact ⟨rfl, rfl, fun _ _ _ _ h => by simp at h, fun _ _ _ => rfl⟩
    | succ i ih =>
      intro hi
      obtain ⟨h1, o, ho, _⟩ := hst i (Nat.zero_le _) (by omega)
      rw [h1]
      refine (ih (by omega)).put (by omega) (by simp) (by simp) (fun j hj => ?_) (fun j hj hji t hd => hdd i (by omega) j hj hji t hd)
      simp; omega
  refine wp_region_inv (I := fun listed a' w' =>
    ((∀ t, n ≤ t → listed.getD t false = false) ∧ (∀ i, listed.getD i false = true → ∀ o, l.toArray[i]? = some o → ∀ e ∈ o.after, Region.binds .any e = true → listed.getD e.on false = true) ∧ C w' ∧
      ∃ gs : Nat → Nat, Agree l.toArray n (fun j => if isAl al j then ptrOf (gs j) else vs j) a (fun j => listed.getD j false) a' ∧
        (∀ x ∈ al, listed.getD x.1 false = true → Blk w' (gs x.1) x.2.1 x.2.2 ∧ B ≤ gs x.1) ∧ (∀ x ∈ al, ∀ y ∈ al, listed.getD x.1 false = true → listed.getD y.1 false = true → x.1 ≠ y.1 → gs x.1 ≠ gs y.1)) ∨
    (∃ m, n ≤ m ∧ m ≤ l.length ∧ (∀ j, j < l.length → listed.getD j false = decide (j < m)) ∧ wpList P l.toArray Q (l.drop m) a' w')) hm ?_ ?_ ?_
  · have hf : ∀ t, (Array.replicate l.toArray.size false).getD t false = false := fun t => by
      simp [Array.getElem?_replicate]
      split <;> rfl
    refine .inl ⟨fun t _ => hf t, fun i hi => (by rw [hf] at hi; cases hi), hC, fun _ => 0, ⟨rfl, rfl, fun _ _ i _ h => (by rw [hf] at h; cases h), fun _ _ _ => rfl⟩, fun x _ h => (by rw [hf] at h; cases h), fun x _ y _ h => (by rw [hf] at h; cases h)⟩
  · intro listed a' w' i hsz hI hi
    obtain ⟨hun, o, ho, hall⟩ := mem_ready.1 hi
    have hil : i < l.length := by simpa using (Array.getElem?_eq_some_iff.1 ho).1
    have hun' : listed.getD i false = false := by rw [← getD_ft (by rw [hsz]; simpa using hil)]; exact hun
    have hw8 : ∀ j, waits l.toArray i j = true → listed.getD j false = true := fun j hj => by
      obtain ⟨o', ho', e, he, hb, hon⟩ := waits_spec hj
      have : o' = o := Option.some.inj (ho'.symm.trans ho)
      subst this
      rw [← hon]; exact hall e he hb
    have hsi : (listed.setIfInBounds i true).getD i false = true := by
      have : i < listed.size := by rw [hsz]; simpa using hil
      simp [this]
    have hsn : ∀ j, j ≠ i → (listed.setIfInBounds i true).getD j false = listed.getD j false := fun j hj => by
      simp only [Array.getD_eq_getD_getElem?]
      rw [Array.getElem?_setIfInBounds_ne (Ne.symm hj)]
    have two : ∀ m, n ≤ m → m ≤ l.length → (∀ j, j < l.length → listed.getD j false = decide (j < m)) → wpList P l.toArray Q (l.drop m) a' w' →
        wpOp P l.toArray Q i (fun a'' w'' => (∃ m, n ≤ m ∧ m ≤ l.length ∧ (∀ j, j < l.length → (listed.setIfInBounds i true).getD j false = decide (j < m)) ∧ wpList P l.toArray Q (l.drop m) a'' w'')) a' w' := by
      intro m hnm hml hlist hw
      have him : i = m := by
        have h1 : ¬ i < m := fun hlt => by have := hlist i hil; rw [hun'] at this; simp at this; omega
        rcases Nat.lt_or_ge m i with h2 | h2
        · have h3 := hw8 (i - 1) (b5 i (by omega) (by simpa using hil))
          have h4 := hlist (i - 1) (by omega)
          rw [h3] at h4; simp at h4; omega
        · omega
      subst him
      have hd : l.drop i = o :: l.drop (i + 1) := by
        have ho' : l[i] = o := by
          have := (Array.getElem?_eq_some_iff.1 ho).2
          simpa using this
        rw [← ho']; exact List.drop_eq_getElem_cons hil
      rw [hd] at hw
      have hw' : wpOp P l.toArray Q i (wpList P l.toArray Q (l.drop (i + 1))) a' w' := by
        unfold wpOp; simp only [ho]; exact hw
      refine wpOp_mono (fun a'' w'' h'' => ⟨i + 1, by omega, by omega, fun j hj => ?_, h''⟩) hw'
      by_cases hji : j = i
      · subst hji; rw [hsi]; simp
      · rw [hsn j hji, hlist j hj]
        by_cases hjl : j < i
        · simp [hjl]; omega
        · simp [hjl]; omega
    rcases hI with ⟨hno, hdc, hCw, gs, hAg, hbl, hdis⟩ | ⟨m, hnm, hml, hlist, hw⟩
    · have hdc' : ∀ k, (listed.setIfInBounds i true).getD k false = true → ∀ ok, l.toArray[k]? = some ok → ∀ e ∈ ok.after, Region.binds .any e = true → (listed.setIfInBounds i true).getD e.on false = true := by
        intro k hk ok hok e he hb
        have hset : ∀ j, listed.getD j false = true → (listed.setIfInBounds i true).getD j false = true := fun j hj => by
          by_cases hji : j = i
          · subst hji; exact hsi
          · rw [hsn j hji]; exact hj
        by_cases hki : k = i
        · subst hki
          have : ok = o := Option.some.inj (hok.symm.trans ho)
          subst this
          exact hset _ (hall e he hb)
        · rw [hsn k hki] at hk
          exact hset _ (hdc k hk ok hok e he hb)
      by_cases hin : i < n
      · have hno' : ∀ t, n ≤ t → (listed.setIfInBounds i true).getD t false = false := fun t ht => by rw [hsn t (by omega)]; exact hno t ht
        have hdo : o.dst = dstOf l.toArray i := by simp [dstOf, ho]
        obtain ⟨_, o', ho', hy⟩ := hst i (Nat.zero_le _) hin
        have : o' = o := Option.some.inj (ho'.symm.trans ho)
        subst this
        by_cases hali : isAl al i = true
        · -- a variable is made
          obtain ⟨x, hx, hxi⟩ := List.any_eq_true.1 hali
          have hxi' : x.1 = i := by simpa using hxi
          obtain ⟨ox, hox, hg, hrun⟩ := hal x hx
          have hoo : ox = o' := by
            have : l.toArray[i]? = some ox := by rw [← hxi']; simpa using hox
            exact Option.some.inj (this.symm.trans ho)
          subst hoo
          unfold wpOp
          simp only [ho]
          rw [if_pos (by simp [Region.wanted, hg])]
          refine .inl ?_
          unfold Oper.wp
          rw [hrun]
          simp only [Oper.upon]
          refine .inl ⟨hno', hdc', hCa _ _ hCw, fun j => if j = i then w'.heap.size else gs j, ?_, fun y hy hly => ?_, fun y hy z hz hly hlz hne => ?_⟩
          · rw [hdo]
            have h5 : Agree l.toArray n (fun j => if isAl al j then ptrOf (if j = i then w'.heap.size else gs j) else vs j) a (fun j => listed.getD j false) a' :=
              hAg.cong fun j hj hS => by
                by_cases hji : j = i
                · subst hji; rw [hun'] at hS; cases hS
                · rw [if_neg hji]
            have h6 := h5.put (S' := fun j => (listed.setIfInBounds i true).getD j false) hin hun' hsi (fun j hj => hsn j hj) (fun j hj hji t hd => hdd i hin j hj hji t hd)
            simpa [hali] using h6
          · show Blk _ (if y.1 = i then w'.heap.size else gs y.1) _ _ ∧ B ≤ (if y.1 = i then w'.heap.size else gs y.1)
            by_cases hyi : y.1 = i
            · rw [if_pos hyi]
              have : ox = ox := rfl
              obtain ⟨oy, hoy, _, hruny⟩ := hal y hy
              have hoo2 : oy = ox := by
                have : l.toArray[i]? = some oy := by rw [← hyi]; simpa using hoy
                exact Option.some.inj (this.symm.trans ho)
              subst hoo2
              have e1 := hrun a'.eval w'
              rw [hruny] at e1
              have e2 : w'.alloc (.cells y.2.1.toArray y.2.2) = w'.alloc (.cells x.2.1.toArray x.2.2) := by injection e1
              refine ⟨?_, hCB _ hCw⟩
              have := Blk.alloc_new w' y.2.1 y.2.2
              rw [e2] at this
              exact this
            · rw [if_neg hyi]
              rw [hsn y.1 hyi] at hly
              exact ⟨(hbl y hy hly).1.alloc _, (hbl y hy hly).2⟩
          · show (if y.1 = i then w'.heap.size else gs y.1) ≠ (if z.1 = i then w'.heap.size else gs z.1)
            by_cases hyi : y.1 = i
            · rw [if_pos hyi, if_neg (by omega)]
              rw [hsn z.1 (by omega)] at hlz
              have := (hbl z hz hlz).1.lt
              omega
            · rw [if_neg hyi]
              rw [hsn y.1 hyi] at hly
              by_cases hzi : z.1 = i
              · rw [if_pos hzi]
                have := (hbl y hy hly).1.lt
                omega
              · rw [if_neg hzi]
                rw [hsn z.1 hzi] at hlz
                exact hdis y hy z hz hly hlz hne
        · have hali' : isAl al i = false := by simpa using hali
          obtain ⟨b21, b22⟩ := b2 i o' hin ho
          have hev := hAg.eval2 (hag i (by omega)) (o := o') b21 (fun j hj t hd ht => by
            have hjal : isAl al j = false := by
              cases hj2 : isAl al j with
              | false => rfl
              | true =>
                obtain ⟨x, hx, hxj⟩ := List.any_eq_true.1 hj2
                have hxj' : x.1 = j := by simpa using hxj
                exact absurd ht ((hA' x hx).2 i hin hali' o' ho t (by rw [hxj']; exact hd))
            refine ⟨?_, by simp [hjal]⟩
            obtain ⟨_, c2⟩ := b22 j t hj hd
            obtain ⟨c3, c4⟩ := c2 ht
            rcases Nat.lt_trichotomy j i with h1 | h1 | h1
            · simp only [h1, decide_true]; exact hw8 j (c3 h1)
            · subst h1; simp only [Nat.lt_irrefl, decide_false]; exact hun'
            · have : ¬ j < i := by omega
              simp only [this, decide_false]
              cases hl : listed.getD j false with
              | false => rfl
              | true =>
                obtain ⟨oj, hoj, e, he, hb, hon⟩ := waits_spec (c4 h1)
                have := hdc j hl oj hoj e he hb
                rw [hon, hun'] at this; cases this)
          have hput : ∀ gs' : Nat → Nat, (∀ j, listed.getD j false = true → gs' j = gs j) → Agree l.toArray n (fun j => if isAl al j then ptrOf (gs' j) else vs j) a (fun j => (listed.setIfInBounds i true).getD j false) (a'.put o'.dst (vs i)) := by
            intro gs' hgs
            rw [hdo]
            have h5 : Agree l.toArray n (fun j => if isAl al j then ptrOf (gs' j) else vs j) a (fun j => listed.getD j false) a' :=
              hAg.cong fun j hj hS => by rw [hgs j hS]
            have h6 := h5.put (S' := fun j => (listed.setIfInBounds i true).getD j false) hin hun' hsi (fun j hj => hsn j hj) (fun j hj hji t hd => hdd i hin j hj hji t hd)
            simpa [hali'] using h6
          have done : ∀ w'', C w'' → Ext w' w'' → (fun a'' w'' => ((∀ t, n ≤ t → (listed.setIfInBounds i true).getD t false = false) ∧ (∀ k, (listed.setIfInBounds i true).getD k false = true → ∀ o, l.toArray[k]? = some o → ∀ e ∈ o.after, Region.binds .any e = true → (listed.setIfInBounds i true).getD e.on false = true) ∧ C w'' ∧
              ∃ gs : Nat → Nat, Agree l.toArray n (fun j => if isAl al j then ptrOf (gs j) else vs j) a (fun j => (listed.setIfInBounds i true).getD j false) a'' ∧
                (∀ x ∈ al, (listed.setIfInBounds i true).getD x.1 false = true → Blk w'' (gs x.1) x.2.1 x.2.2 ∧ B ≤ gs x.1) ∧ (∀ x ∈ al, ∀ y ∈ al, (listed.setIfInBounds i true).getD x.1 false = true → (listed.setIfInBounds i true).getD y.1 false = true → x.1 ≠ y.1 → gs x.1 ≠ gs y.1)) ∨
            (∃ m, n ≤ m ∧ m ≤ l.length ∧ (∀ j, j < l.length → (listed.setIfInBounds i true).getD j false = decide (j < m)) ∧ wpList P l.toArray Q (l.drop m) a'' w'')) (a'.put o'.dst (vs i)) w'' := by
            intro w'' hC'' hE
            have hne : ∀ x ∈ al, x.1 ≠ i := fun x hx e => by
              have : isAl al i = true := List.any_eq_true.2 ⟨x, hx, by simp [e]⟩
              rw [hali'] at this; cases this
            refine .inl ⟨hno', hdc', hC'', gs, hput gs (fun _ _ => rfl), fun x hx hlx => ?_, fun x hx y hy hlx hly => ?_⟩
            · rw [hsn x.1 (hne x hx)] at hlx
              exact ⟨(hbl x hx hlx).1.ext hE, (hbl x hx hlx).2⟩
            · rw [hsn x.1 (hne x hx)] at hlx
              rw [hsn y.1 (hne y hy)] at hly
              exact hdis x hx y hy hlx hly
          unfold wpOp
          simp only [ho]
          rcases hy with hy | ⟨hw, hy⟩ | ⟨hw, hy⟩
          · rw [hali'] at hy; cases hy
          · rw [if_pos (by rw [hev.2]; exact hw)]
            refine .inl ?_
            have h3 := hy w' hCw
            rw [← hev.1] at h3
            unfold Oper.wp
            generalize (execOp a'.eval o').run P w' = r at h3 ⊢
            cases r with
            | ok nx w'' =>
              cases nx <;> simp only [uponE] at h3 <;> simp only [Oper.upon]
              case value u =>
                obtain ⟨e1, e2⟩ := h3
                rw [e1, e2]
                exact done _ hCw (Ext.refl _)
              case skip =>
                obtain ⟨e1, e2⟩ := h3
                rw [e1, ← e2]
                exact done _ hCw (Ext.refl _)
              case enter f args =>
                obtain ⟨e1, hc⟩ := h3
                rw [e1]
                exact hc.mono fun e w3 ⟨he, h1, h2⟩ => by subst he; exact done _ h1 h2
            | halt x w'' => simp only [uponE] at h3
          · rw [if_neg (by rw [hev.2, hw]; simp), ← hy]
            exact done _ hCw (Ext.refl _)
      · have hin2 : i = n := by
          rcases Nat.lt_or_ge n i with h1 | h1
          · have h2 := hw8 (i - 1) (b5 i h1 (by simpa using hil))
            rw [hno (i - 1) (by omega)] at h2; cases h2
          · omega
        have hall2 : ∀ j, j < i → listed.getD j false = true := by
          have key : ∀ d j, i - j = d → j < i → listed.getD j false = true := by
            intro d
            induction d using Nat.strongRecOn with
            | _ d ih =>
              intro j hd hj
              obtain ⟨k, hjk, hkn, hw⟩ := b3 (by simpa [hin2] using hil) j (by omega)
              by_cases hki : k = i
              · subst hki; exact hw8 j hw
              · have hk := ih (i - k) (by omega) k rfl (by omega)
                obtain ⟨ok, hok, e, he, hb, hon⟩ := waits_spec hw
                rw [← hon]; exact hdc k hk ok hok e he hb
          exact fun j hj => key _ j rfl hj
        have hfin := putAl_agree (gs := gs) (S := fun j => decide (j < n)) hdd al vs (st n) (fun x hx => ⟨(hA' x hx).1, by simpa using (hA' x hx).1⟩) (hag n (Nat.le_refl _))
        have hae : a' = putAl l.toArray gs al (st n) := hAg.eq hfin fun j hj => by
          rw [hall2 j (by omega)]; simp [hj]
        refine wpOp_mono (fun a'' w'' h'' => .inr h'') (two n (Nat.le_refl _) (by omega) (fun j hj => ?_) ?_)
        · by_cases hjn : j < n
          · rw [hall2 j (by omega)]; simp [hjn]
          · rw [hno j (by omega)]; simp [hjn]
        · rw [hae]
          have hlx : ∀ x ∈ al, listed.getD x.1 false = true := fun x hx => hall2 _ (by have := (hA' x hx).1; omega)
          exact hK gs w' hCw (fun x hx => hbl x hx (hlx x hx)) (fun x hx y hy => hdis x hx y hy (hlx x hx) (hlx y hy))
    · exact wpOp_mono (fun a'' w'' h'' => .inr h'') (two m hnm hml hlist hw)
  · intro listed a' w' hsz hI hr
    have hsz' : listed.size = l.length := by rw [hsz]; simp
    rcases hI with ⟨hno, hdc, hCw, gs, hAg, hbl, hdis⟩ | ⟨m, hnm, hml, hlist, hw⟩
    · have hall : ∀ i, i < l.length → listed.getD i false = true := by
        intro i
        induction i using Nat.strongRecOn with
        | _ i ih =>
          intro hi
          cases hl : listed.getD i false with
          | true => rfl
          | false =>
            have := mem_ready_of (ops := l.toArray) hsz (by simpa using hi) hl (fun j hj => ih j hj (by omega)) (fun o ho e he hb => b1 i o ho e he hb)
            rw [hr] at this; cases this
      have hn : n = l.length := by
        rcases Nat.lt_or_ge n l.length with h1 | h1
        · have := hall n h1
          rw [hno n (Nat.le_refl _)] at this; cases this
        · omega
      have hfin := putAl_agree (gs := gs) (S := fun j => decide (j < n)) hdd al vs (st n) (fun x hx => ⟨(hA' x hx).1, by simpa using (hA' x hx).1⟩) (hag n (Nat.le_refl _))
      have hae : a' = putAl l.toArray gs al (st n) := hAg.eq hfin fun j hj => by
        rw [hall j (by omega)]; simp [hj]
      have hlx : ∀ x ∈ al, listed.getD x.1 false = true := fun x hx => hall _ (by have := (hA' x hx).1; omega)
      have := hK gs w' hCw (fun x hx => hbl x hx (hlx x hx)) (fun x hx y hy => hdis x hx y hy (hlx x hx) (hlx y hy))
      rw [hae]
      rw [hn, List.drop_length] at this
      rw [hn]
      exact this
    · have hml' : m = l.length := by
        rcases Nat.lt_or_ge m l.length with h1 | h1
        · have := mem_ready_of (ops := l.toArray) hsz (by simpa using h1) (by rw [hlist m h1]; simp) (fun j hj => by rw [hlist j (by omega)]; simp [hj]) (fun o ho e he hb => b1 m o ho e he hb)
          rw [hr] at this; cases this
        · omega
      rw [hml', List.drop_length] at hw
      exact hw
end

section
variable {P : Program} {C : World → Prop} {o : Oper} {a : Act}
theorem yieldsE_loadw (ty : TypeId) (x : Operand) (ho : o.op = .load ty x) {g : Nat} {vs : List Value} {T : TypeId} {n : Nat}
    (hx : a.eval x = .pointer (some ⟨g, 0, none⟩)) (hb : ∀ w, C w → Blk w g vs T) (ht : AggT P ty n) (hn : vs.length = n) : yieldsE P C o a (.agg vs.toArray) := by
  intro w hw
  have h1 := run_load_sub (P := P) (off := 0) (hb w hw) ht (by omega)
  have h2 : (vs.drop 0).take n = vs := by simp [← hn]
  rw [h2] at h1
  unfold execOp
  simp only [ho, hx, Instr.loadAt, Instr.sureAddr, Sem.run_bind, Sem.run_pure, Result.andThen_ok, h1]
  exact ⟨rfl, rfl⟩
/-- a comparison of which the run is known -/
theorem yieldsE_cmp (op : BinOp) (t u : TypeId) (x y : Operand) (ho : o.op = .binOp op t x y u) {xs ys : Array Value} {b : Value} (hx : a.eval x = .agg xs) (hy : a.eval y = .agg ys)
    (hg : P.eqGuardType P.depth t = false) (hr : ∀ w, (binOp op t (.agg xs) (.agg ys)).run P w = .ok b w) : yieldsE P C o a b := by
  intro w _
  unfold execOp
  simp only [ho, hx, hy, Sem.run_bind, run_eqGuard_agg w op t x y xs ys hg, Result.andThen_ok, hr, Sem.run_pure]
  exact ⟨rfl, rfl⟩
theorem yieldsE_call {f : FuncId} {xs : Array Operand} {ts : Array TypeId} {args : Array Value} {v : Value} (ho : o.op = .call { callee := .value (.func f), args := xs, argTypes := ts })
    (hf : ∀ args w, (callFunc f args).run P w = .ok (.enter f args) w) (ha : xs.map a.eval = args)
    (hc : ∀ w, C w → Calls P f args w (fun e w' => e = .returned v ∧ Ext w w')) (hC : ∀ w w', C w → Ext w w' → C w') : yieldsE P C o a v := by
  intro w hw
  have hr : (execOp a.eval o).run P w = .ok (.enter f args) w := by
    unfold execOp
    simp only [ho, resolve, Act.eval, Deferred.ofValue, Sem.run_bind, Sem.run_pure, Result.andThen_ok, invoke]
    have : (#[] ++ xs.map a.eval ++ #[] : Array Value) = args := by simp [ha]
    simpa [ha] using hf args w
  rw [hr]
  exact ⟨rfl, (hc w hw).mono fun e w' ⟨h1, h2⟩ => ⟨h1, hC w w' hw h2, h2⟩⟩
end
attribute [go_sem] uponE
end Go.Proofs.Ytjgglnflicemjaa
