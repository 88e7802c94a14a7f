/- Contracts and laws that the claim's row leans on (22 texts, joined): Moves for regions whose order is drawn, where late operations need not keep what the early ones read; no condition. strings.ContainsRune of the alphabet at runes of more than one octet; the predicate of names; strings.IndexFunc, ContainsFunc with it; conditions: the rune is none beyond the last. The reference's IsName; conditions: the string's size. The reference's IsName, whole; conditions: the string's size. Patterns: isPattern of the law and of the program, Fits of both; conditions: the string's size. Small functions of the policy: outside, isAct, the predicates handed to the library, patterns of the reference; conditions: the strings' sizes. Rules as values, and what is said of them, in plain Lean; no condition. keyref1.RuleError; conditions: the rule's memory. Whether a list of strings rises, in both packages; conditions: the length. Asks as values, and CheckAsk of both packages; conditions: the ask's memory. The reference's CheckAsk; conditions: the ask's memory. Whether a rule meets an ask: the closures, the hours; conditions: the ask's memory. Whether a rule meets an ask, in both packages; conditions: the memory of both, and that both are right. Whether a rule meets an ask, by the reference; conditions: the memory of both, and that both are right. policy.ruleFault; conditions: the rule's memory. Check of a policy, in both packages; conditions: the policy's memory. The reference's CheckPolicy; conditions: the policy's memory. Decisions, in plain Lean; no condition. Arrays of octets are compared; condition: their lengths. The law SummersAreBounded, walked; no condition. The law TagsMatch, walked; conditions: the lengths. policy.decide with 'always'; conditions: the memory of both, and that the ask is right. -/
import Derived.Test.YtelhnimdfepmdaaJ2
import Derived.WalkMore
import Derived.Test.YtelhnimdfepmdaaB3
import Derived.Test.YtelhnimdfepmdaaProg
import Derived.Stop.BytesEq
namespace Go.Proofs.Ytelhnimdfepmdaa
section
open Go Go.RowKit

section
variable {P : Program} {ops : Array Oper} {Q : Exit → Act → World → Prop} {S : World → Prop} {W : List Nat}

/-- whichever comes up; S is shown behind all operations but those of W -/
def wpAnyW (P : Program) (ops : Array Oper) (Q : Exit → Act → World → Prop) (S : World → Prop) (W : List Nat) : Nat → Array Bool → Act → World → Prop
  | 0, listed, a, w => Region.ready .any ops listed = [] ∧ Q .normal a w
  | f + 1, listed, a, w => (Region.ready .any ops listed = [] → Q .normal a w) ∧
      ∀ i ∈ Region.ready .any ops listed, wpOp P ops Q i (fun a' w' => (W.contains i = false → S w → S w') ∧ wpAnyW P ops Q S W f (listed.setIfInBounds i true) a' w') a w

theorem wpAny_of_W : ∀ (f : Nat) (listed : Array Bool) (a : Act) (w : World), wpAnyW P ops Q S W f listed a w → wpAny P .any ops Q f listed a w
  | 0, _, _, _, h => h
  | f + 1, _, _, _, h => ⟨h.1, fun i hi => wpOp_mono (fun a' w' h' => wpAny_of_W f _ a' w' h'.2) (h.2 i hi)⟩

/-- what stands in listed has all that it waits for in listed -/
def Down (ops : Array Oper) (listed : Array Bool) : Prop := ∀ k, listed.getD k false = true → ∀ o, ops[k]? = some o → ∀ e ∈ o.after, Region.binds .any e = true → listed.getD e.on false = true
/-- j waits for i, through others too -/
def reachW (ops : Array Oper) : Nat → Nat → Nat → Bool
  | 0, _, _ => false
  | f + 1, j, i => waits ops j i || (List.range ops.size).any fun k => waits ops j k && reachW ops f k i

theorem reachW_listed {listed : Array Bool} (hd : Down ops listed) : ∀ (f j i : Nat), (∀ k, waits ops j k = true → listed.getD k false = true) → reachW ops f j i = true → listed.getD i false = true
  | 0, _, _, _, h => by cases h
  | f + 1, j, i, hj, h => by
    simp only [reachW, Bool.or_eq_true, List.any_eq_true, Bool.and_eq_true] at h
    rcases h with h | ⟨k, _, h1, h2⟩
    · exact hj i h
    · refine reachW_listed hd f k i (fun q hq => ?_) h2
      obtain ⟨o, ho, e, he, hb, hon⟩ := waits_spec hq
      rw [← hon]
      exact hd k (hj k h1) o ho e he hb

theorem ready_waits {listed : Array Bool} {j : Nat} (hj : j ∈ Region.ready .any ops listed) : ∀ k, waits ops j k = true → listed.getD k false = true := by
  intro k hk
  obtain ⟨_, o, ho, hall⟩ := mem_ready.1 hj
  obtain ⟨o', ho', e, he, hb, hon⟩ := waits_spec hk
  have : o' = o := Option.some.inj (ho'.symm.trans ho)
  subst this
  rw [← hon]; exact hall e he hb

theorem Down.set {listed : Array Bool} {j : Nat} (hd : Down ops listed) (hj : j ∈ Region.ready .any ops listed) : Down ops (listed.setIfInBounds j true) := by
  intro k hk o ho e he hb
  by_cases hkj : j = k
  · subst hkj
    obtain ⟨_, o', ho', hall⟩ := mem_ready.1 hj
    have : o' = o := Option.some.inj (ho'.symm.trans ho)
    subst this
    exact getD_set_true (hall e he hb)
  · rw [getD_set_ne false hkj] at hk
    exact getD_set_true (hd k hk o ho e he hb)

theorem wpAnyW_first {i : Nat} {oi : Oper} {v : Value} (n : Nat) (hi : ops[i]? = some oi) (hsel : ∀ (j : Nat) (o : Oper) cs b, ops[j]? = some o → o.op ≠ .select cs b) (hW : ∀ j, W.contains j = true → reachW ops n j i = true)
    (hQ : ∀ c a w, Q (.panic c) (a.put oi.dst v) w → Q (.panic c) a w) :
    ∀ (f : Nat) (listed : Array Bool) (a : Act) (w : World), Down ops listed →
      (∀ j oj, ops[j]? = some oj → j ≠ i → listed.getD j true = false → (∀ e ∈ oj.after, Region.binds .any e = true → e.on ≠ i) → oi.apart ops oj = true) →
      i ∈ Region.ready .any ops listed → YieldsIf P ops S oi v a → S w →
      wpAnyW P ops Q S W f (listed.setIfInBounds i true) (a.put oi.dst v) w → wpAnyW P ops Q S W (f + 1) listed a w := by
  intro f
  induction f with
  | zero =>
    intro listed a w _ _ hr hy hS H
    refine ⟨fun h => (by rw [h] at hr; cases hr), fun j hj => ?_⟩
    by_cases hji : j = i
    · subst hji; exact hy.wpOp hi hS ⟨fun _ _ => hS, H⟩
    · have := ready_mono hj hji
      rw [H.1] at this
      cases this
  | succ f ih =>
    intro listed a w hdn hfree hr hy hS H
    refine ⟨fun h => (by rw [h] at hr; cases hr), fun j hj => ?_⟩
    by_cases hji : j = i
    · subst hji; exact hy.wpOp hi hS ⟨fun _ _ => hS, H⟩
    · have h1 := H.2 j (ready_mono hj hji)
      obtain ⟨hjun, oj, hoj, hall⟩ := mem_ready.1 hj
      have h0 := (mem_ready.1 hr).1
      have hiu : listed.getD i false = true → False := fun h => by
        simp only [Array.getD_eq_getD_getElem?] at h h0
        cases hq : listed[i]? with
        | none => rw [hq] at h0; simp at h0
        | some b => rw [hq] at h h0; simp at h h0; rw [h] at h0; cases h0
      have hnot : ∀ e ∈ oj.after, Region.binds .any e = true → e.on ≠ i := fun e he hb heq => by
        have h1 := hall e he hb
        rw [heq] at h1
        exact hiu h1
      have hWj : W.contains j = false := by
        cases hq : W.contains j with
        | false => rfl
        | true => exact absurd (reachW_listed hdn n j i (ready_waits hj) (hW j hq)) hiu
      have h2 := wpOp_putIf hoj (hfree j oj hoj hji hjun hnot) (fun cs b => hsel i oi cs b hi) (fun cs b => hsel j oj cs b hoj) hQ hy h1
      have hfree' : ∀ k ok, ops[k]? = some ok → k ≠ i → (listed.setIfInBounds j true).getD k true = false →
          (∀ e ∈ ok.after, Region.binds .any e = true → e.on ≠ i) → oi.apart ops ok = true := fun k ok hk hki hun hno => by
        refine hfree k ok hk hki ?_ hno
        by_cases hjk : j = k
        · subst hjk; exact hjun
        · rw [getD_set_ne true hjk] at hun; exact hun
      refine wpOp_mono (fun a' w' h3 => ⟨fun _ _ => h3.2.1 hWj hS, ih (listed.setIfInBounds j true) a' w' (hdn.set hj) hfree' (ready_mono hr (Ne.symm hji)) h3.1 (h3.2.1 hWj hS) ?_⟩) h2
      rw [Array.setIfInBounds_comm _ _ hji]
      exact h3.2.2

/-- what yields in whatever world -/
theorem wpAnyW_pure {i : Nat} {oi : Oper} {v : Value} (hi : ops[i]? = some oi) (hsel : ∀ (j : Nat) (o : Oper) cs b, ops[j]? = some o → o.op ≠ .select cs b)
    (hQ : ∀ c a w, Q (.panic c) (a.put oi.dst v) w → Q (.panic c) a w) :
    ∀ (f : Nat) (listed : Array Bool) (a : Act) (w : World),
      (∀ j oj, ops[j]? = some oj → j ≠ i → listed.getD j true = false → (∀ e ∈ oj.after, Region.binds .any e = true → e.on ≠ i) → oi.apart ops oj = true) →
      i ∈ Region.ready .any ops listed → YieldsIf P ops (fun _ => True) oi v a →
      wpAnyW P ops Q S W f (listed.setIfInBounds i true) (a.put oi.dst v) w → wpAnyW P ops Q S W (f + 1) listed a w := by
  intro f
  induction f with
  | zero =>
    intro listed a w _ hr hy H
    refine ⟨fun h => (by rw [h] at hr; cases hr), fun j hj => ?_⟩
    by_cases hji : j = i
    · subst hji; exact hy.wpOp hi trivial ⟨fun _ h => h, H⟩
    · have := ready_mono hj hji
      rw [H.1] at this
      cases this
  | succ f ih =>
    intro listed a w hfree hr hy H
    refine ⟨fun h => (by rw [h] at hr; cases hr), fun j hj => ?_⟩
    by_cases hji : j = i
    · subst hji; exact hy.wpOp hi trivial ⟨fun _ h => h, H⟩
    · have h1 := H.2 j (ready_mono hj hji)
      obtain ⟨hjun, oj, hoj, hall⟩ := mem_ready.1 hj
      have hnot : ∀ e ∈ oj.after, Region.binds .any e = true → e.on ≠ i := fun e he hb heq => by
        have h1 := hall e he hb
        have h0 := (mem_ready.1 hr).1
        rw [heq] at h1
        simp only [Array.getD_eq_getD_getElem?] at h1 h0
        cases hq : listed[i]? with
        | none => rw [hq] at h0; simp at h0
        | some b => rw [hq] at h1 h0; simp at h1 h0; rw [h1] at h0; cases h0
      have h2 := wpOp_putIf hoj (hfree j oj hoj hji hjun hnot) (fun cs b => hsel i oi cs b hi) (fun cs b => hsel j oj cs b hoj) hQ hy h1
      have hfree' : ∀ k ok, ops[k]? = some ok → k ≠ i → (listed.setIfInBounds j true).getD k true = false →
          (∀ e ∈ ok.after, Region.binds .any e = true → e.on ≠ i) → oi.apart ops ok = true := fun k ok hk hki hun hno => by
        refine hfree k ok hk hki ?_ hno
        by_cases hjk : j = k
        · subst hjk; exact hjun
        · rw [getD_set_ne true hjk] at hun; exact hun
      refine wpOp_mono (fun a' w' h3 => ⟨h3.2.1, ih (listed.setIfInBounds j true) a' w' hfree' (ready_mono hr (Ne.symm hji)) h3.1 ?_⟩) h2
      rw [Array.setIfInBounds_comm _ _ hji]
      exact h3.2.2

def downB (ops : Array Oper) (listed : Array Bool) : Bool := (List.range ops.size).all fun k => !listed.getD k false || (ops[k]?).all fun o => o.after.all fun e => !Region.binds .any e || listed.getD e.on false
theorem down_of {listed : Array Bool} (h : downB ops listed = true) : Down ops listed := by
  intro k hk o ho e he hb
  have hkl : k < ops.size := (Array.getElem?_eq_some_iff.1 ho).1
  have h1 := List.all_eq_true.1 h k (List.mem_range.2 hkl)
  rw [hk, ho] at h1
  simp only [Bool.not_true, Bool.false_or, Option.all_some, Array.all_eq_true'] at h1
  have := h1 e he
  rw [hb] at this
  simpa using this

/-- one operation is taken first -/
theorem w_take (i : Nat) {oi : Oper} {r : List Oper} {v : Value} {f : Nat} {listed : Array Bool} {a : Act} {w : World} (hi : ops.toList.drop i = oi :: r)
    (hs : Region.noSelect ops = true) (hW : (W.all fun j => reachW ops 12 j i) = true) (hdn : downB ops listed = true) (hf : Region.free .any ops listed i = true) (hr : (Region.ready .any ops listed).contains i = true)
    (hQ : ∀ c a w, Q (.panic c) (a.put oi.dst v) w → Q (.panic c) a w) (hy : YieldsIf P ops S oi v a) (hS : S w)
    (h : wpAnyW P ops Q S W f (listed.setIfInBounds i true) (a.put oi.dst v) w) : wpAnyW P ops Q S W (f + 1) listed a w :=
  wpAnyW_first 12 (op_of_drop hi) (Region.noSelect_spec hs) (fun j hj => List.all_eq_true.1 hW j (by simpa using hj)) hQ f listed a w (down_of hdn) (Region.free_spec (op_of_drop hi) hf) (by simpa using hr) hy hS h

theorem w_pure (i : Nat) {oi : Oper} {r : List Oper} {v : Value} {f : Nat} {listed : Array Bool} {a : Act} {w : World} (hi : ops.toList.drop i = oi :: r)
    (hs : Region.noSelect ops = true) (hf : Region.free .any ops listed i = true) (hr : (Region.ready .any ops listed).contains i = true)
    (hQ : ∀ c a w, Q (.panic c) (a.put oi.dst v) w → Q (.panic c) a w) (hy : YieldsIf P ops (fun _ => True) oi v a)
    (h : wpAnyW P ops Q S W f (listed.setIfInBounds i true) (a.put oi.dst v) w) : wpAnyW P ops Q S W (f + 1) listed a w :=
  wpAnyW_pure (op_of_drop hi) (Region.noSelect_spec hs) hQ f listed a w (Region.free_spec (op_of_drop hi) hf) (by simpa using hr) hy h

/-- just one operation may come up -/
theorem w_one {i : Nat} {o : Oper} {r : List Oper} {f : Nat} {listed : Array Bool} {a : Act} {w : World} (hr : Region.ready .any ops listed = [i]) (ho : ops.toList.drop i = o :: r) (hW : W.contains i = false) (hS : S w)
    (h : ∀ Q' : Exit → Act → World → Prop, (∀ a w, S w → wpAnyW P ops Q S W f (listed.setIfInBounds i true) a w → Q' .normal a w) → wpList P ops Q' [o] a w) :
    wpAnyW P ops Q S W (f + 1) listed a w := by
  refine ⟨fun h0 => (by rw [hr] at h0; cases h0), fun j hj => ?_⟩
  rw [hr] at hj
  obtain rfl : j = i := by simpa using hj
  exact wpOp_of_list (op_of_drop ho) (h _ fun a w hS hW => ⟨fun _ _ => hS, hW⟩)
/-- just one operation may come up, a late one -/
theorem w_late {i : Nat} {o : Oper} {r : List Oper} {f : Nat} {listed : Array Bool} {a : Act} {w : World} (hr : Region.ready .any ops listed = [i]) (ho : ops.toList.drop i = o :: r) (hW : W.contains i = true)
    (h : ∀ Q' : Exit → Act → World → Prop, (∀ a w, True → wpAnyW P ops Q S W f (listed.setIfInBounds i true) a w → Q' .normal a w) → wpList P ops Q' [o] a w) :
    wpAnyW P ops Q S W (f + 1) listed a w := by
  refine ⟨fun h0 => (by rw [hr] at h0; cases h0), fun j hj => ?_⟩
  rw [hr] at hj
  obtain rfl : j = i := by simpa using hj
  exact wpOp_of_list (op_of_drop ho) (h _ fun a w _ hX => ⟨fun h => (by rw [hW] at h; cases h), hX⟩)
theorem w_done {listed : Array Bool} {a : Act} {w : World} (hr : Region.ready .any ops listed = []) (h : Q .normal a w) : ∀ f, wpAnyW P ops Q S W f listed a w
  | 0 => ⟨hr, h⟩
  | _ + 1 => ⟨fun _ => h, by rw [hr]; simp⟩
theorem wp_region_w {id : Nat} {a : Act} {w : World} (hm : P.follows .mixedOrders = true) (hS : S w.drew)
    (h : S w.drew → wpAnyW P ops Q S W ops.size (Array.replicate ops.size false) a w.drew) : (Code.region id ops true).wp P Q a w :=
  wp_region_any hm (wpAny_of_W _ _ _ _ (h hS))
end
theorem Cls.two_room {w0 W : World} {L : List Nat} {r r2 n n2 : Nat} {vs vs2 : List Value} {T T2 : TypeId} (h : Ext w0 W) (k : Kept W L W) (hb : Blk W r vs T) (hn : vs.length = n) (hb2 : Blk W r2 vs2 T2) (hn2 : vs2.length = n2) : Cls w0 W L [(r, n, T), (r2, n2, T2)] W :=
  ⟨h, k, by simp only [List.mem_cons, List.not_mem_nil, or_false]; rintro x (rfl | rfl) <;> first | exact ⟨hb.lt, vs, hn, hb⟩ | exact ⟨hb2.lt, vs2, hn2, hb2⟩⟩
end

section
open Go Go.RowKit

theorem run_stringIndex (s : ByteArray) (i : Nat) (h : i < s.size) (w : World) : (Instr.index 9 (.string s) (.int .i64 (i : Int))).run Try.prog w = .ok (.int .u8 ((s[i]'h).toNat : Int)) w := by
  have h2 : s[i]? = some (s[i]'h) := getElem?_pos s i h
  simp [Instr.index, asIntOf, run_underlying Try.underlying9, h2]

theorem exec_strAt {o : Oper} {a : Act} {x y : Operand} {s : ByteArray} {i : Nat} {v : Value} (ho : o.op = .index 9 x y) (hx : a.eval x = .string s) (hy : a.eval y = .int .i64 (i : Int)) (h : ∀ w, (Instr.index 9 (.string s) (.int .i64 (i : Int))).run Try.prog w = .ok v w) (w : World) :
    (execOp a.eval o).run Try.prog w = .ok (.value v) w := by
  unfold execOp
  simp only [ho, hx, hy, Sem.run_bind, h w, Result.andThen_ok, Sem.run_pure]

theorem run_strFrom (s : ByteArray) (i : Nat) (hi : i ≤ s.size) (w : World) : (Instr.sliceAt 9 (.string s) (some (.int .i64 (i : Int))) none none).run Try.prog w = .ok (.string (s.extract i s.size)) w := by
  have h1 : (0 : Int) ≤ i ∧ (i : Int) ≤ s.size := by omega
  simp [Instr.sliceAt, Instr.slice, Instr.sliceBounds, Instr.sliceBound, asIntOf, run_underlying Try.underlying9, hi]
theorem exec_strFrom {o : Oper} {a : Act} {x y : Operand} {s : ByteArray} {i : Nat} (ho : o.op = .slice 9 x (some y) none none) (hx : a.eval x = .string s) (hy : a.eval y = .int .i64 (i : Int)) (hi : i ≤ s.size) (w : World) :
    (execOp a.eval o).run Try.prog w = .ok (.value (.string (s.extract i s.size))) w := by
  unfold execOp
  simp only [ho, hx, hy, Option.map_some, Option.map_none, Sem.run_bind, run_strFrom s i hi w, Result.andThen_ok, Sem.run_pure]

set_option maxRecDepth 100000 in
set_option maxHeartbeats 1000000 in
theorem validRune_c (r : Nat) (w : World) (h2 : r ≤ 1114111) (h3 : r < 55296 ∨ 57343 < r) :
    Calls Try.prog 123 #[.int .i32 (r : Int)] w fun e w' => e = .returned (.bool true) ∧ w = w' := by
  have g1 : decide ((0 : Int) ≤ (r : Int)) = true := decide_eq_true (by omega)
  by_cases h : r < 55296
  · have g6 : decide ((r : Int) < 55296) = true := decide_eq_true (by omega)
    have g7 : decide (r < 55296) = true := decide_eq_true (by omega)
    go_enter Try.func123, Try.ntmps123
    go_wp2
    go_ret
    exact ⟨rfl, rfl⟩
  · have g6 : decide ((r : Int) < 55296) = false := decide_eq_false (by omega)
    have g7 : decide (r < 55296) = false := decide_eq_false (by omega)
    have g8 : decide ((57343 : Int) < (r : Int)) = true := decide_eq_true (by omega)
    have g9 : decide (57343 < r) = true := decide_eq_true (by omega)
    have g10 : decide ((r : Int) ≤ 1114111) = true := decide_eq_true (by omega)
    have g11 : decide (r ≤ 1114111) = true := decide_eq_true (by omega)
    go_enter Try.func123, Try.ntmps123
    go_wp2
    go_ret
    exact ⟨rfl, rfl⟩

set_option maxRecDepth 100000 in
set_option maxHeartbeats 1000000 in
theorem indexRune_high (r : Nat) (w : World) (h1 : 128 ≤ r) (h2 : r ≤ 1114111) (h3 : r < 55296 ∨ 57343 < r) (h4 : r ≠ 65533) :
    Calls Try.prog 97 #[.string alpha, .int .i32 (r : Int)] w fun e w' => e = .returned (.int .i64 (-1)) ∧ Ext w w' := by
  have hv : Utf8.valid (r : Int) = true := by
    rw [validRune_eq]; unfold validRune; exact decide_eq_true (by omega)
  obtain ⟨f1, f2, f3⟩ := encode_facts (r : Int) hv (by omega)
  obtain ⟨rs, hrs⟩ : ∃ rs, Utf8.encode (r : Int) = rs := ⟨_, rfl⟩
  rw [hrs] at f1 f2 f3
  obtain ⟨m, hm⟩ : ∃ m, m = rs.size - 1 := ⟨_, rfl⟩
  have hmlt : m < rs.size := by omega
  have hmc := f3 (by omega)
  have hc128 : 128 ≤ (rs[m]'hmlt).toNat := by subst hm; exact hmc
  have hrsz : ((rs.size : Nat) : Int) - 1 = (m : Int) := by omega
  have hia := fun w => run_stringIndex rs m hmlt w
  obtain ⟨s, hs⟩ : ∃ s, alpha = s := ⟨_, rfl⟩
  have hsz : s.size = 39 := by rw [← hs]; rfl
  have hasc : ∀ b ∈ s.data.toList, b.toNat < 128 := by rw [← hs]; exact alpha_ascii
  have hms : m < s.size := by omega
  have hib := fun w => run_stringIndex s m hms w
  have hb : (s[m]'hms).toNat < 128 := hasc _ (Array.getElem_mem_toList (xs := s.data) hms)
  obtain ⟨c, hc⟩ : ∃ c, (rs[m]'hmlt) = c := ⟨_, rfl⟩
  obtain ⟨b, hbb⟩ : ∃ b, (s[m]'hms).toNat = b := ⟨_, rfl⟩
  rw [hc] at hia hc128
  rw [hbb] at hib hb
  have hc256 := c.toNat_lt
  have hix := hid (fun a e w' => indexByte_c (s.extract a e) (c.toNat : Int) w')
  have hno := hid (fun a e => firstIdx_ascii s a e c hasc hc128)
  have hcc : ((c.toNat : Int)).toNat.toUInt8 = c := by simp
  rw [hcc] at hix
  rw [hs]
  have HSZ := hid hsz
  have hvr := hid (fun w' => validRune_c r w' h2 h3)
  clear hs hasc hmc f3 hm hc hbb hsz h3 hv hcc
  have g1 : decide ((0 : Int) ≤ (r : Int)) = true := decide_eq_true (by omega)
  have g2 : decide ((r : Int) < 128) = false := decide_eq_false (by omega)
  have g3 : decide (r < 128) = false := decide_eq_false (by omega)
  have g4 : ((r : Int) == 65533) = false := by simp; omega
  have g5 : (r == 65533) = false := by simp [h4]
  go_enter Try.func97, Try.ntmps97
  go_wp2_with (first | (go_at_call 123; refine (hvr.out _).mono ?_; rintro e w' ⟨rfl, rfl⟩))
  go_step3
  go_wp2_with fail
  go_loopw [9] (fun x wr => x = .int .i64 (m : Int) ∧ wr = w) (fun _ _ => 0)
  case atStart => exact ⟨rfl, rfl⟩
  case round =>
    obtain ⟨rfl, rfl⟩ := hrel
    have k1 : decide ((m : Int) < (s.size : Int)) = true := decide_eq_true (by omega)
    have k2 : decide (m < s.size) = true := decide_eq_true hms
    have k3 : ((b : Int) != (c.toNat : Int)) = true := by simp; omega
    have k4 : (b != c.toNat) = true := by simp; omega
    go_wp2_with fail
    go_step3
    go_wp2_with fail
    obtain ⟨C, hC⟩ : ∃ C : World → Prop, C = fun w' => Ext wr w' := ⟨_, rfl⟩
    have hC0 : ∀ w', C w' ↔ Ext wr w' := fun w' => by rw [hC]
    clear hC
    have HCC := hid hC0
    clear hC0
    have hCx : ∀ w w', C w → Ext w w' → C w' := fun w w' h1 h2 => (HCC.out w').2 (((HCC.out w).1 h1).ext h2)
    refine wp_region_held_drew (S := C) (by kernel_rfl) ((HCC.out _).2 (Ext.refl wr).drew) (fun hS0 => ?_)
    refine held_take 0 (v := ?tv1) rfl (by kernel_rfl) (by kernel_rfl) (by kernel_rfl) (fun _ _ _ h => h) (.inl ⟨rfl, ?ty1⟩) hS0 ?tr1
    case ty1 => (intro _ _; go_simp; try with_reducible rfl)
    case tr1 =>
    simp only [Act.put, List.setIfInBounds_toArray, List.set_cons_succ, List.set_cons_zero]
    refine held_take 1 (v := ?tv2) rfl (by kernel_rfl) (by kernel_rfl) (by kernel_rfl) (fun _ _ _ h => h) (.inl ⟨rfl, ?ty2⟩) hS0 ?tr2
    case ty2 => (intro _ _; go_simp; try with_reducible rfl)
    case tr2 =>
    simp only [Act.put, List.setIfInBounds_toArray, List.set_cons_succ, List.set_cons_zero]
    refine held_take 2 (v := _) rfl (by kernel_rfl) (by kernel_rfl) (by kernel_rfl) (fun _ _ _ h => h) (yieldsI_run rfl (fun w1 _ => exec_strAt rfl rfl rfl hib w1)) hS0 ?_
    simp only [Act.put, List.setIfInBounds_toArray, List.set_cons_succ, List.set_cons_zero]
    refine held_take 3 (v := ?tv3) rfl (by kernel_rfl) (by kernel_rfl) (by kernel_rfl) (fun _ _ _ h => h) (.inl ⟨rfl, ?ty3⟩) hS0 ?tr3
    case ty3 => (intro _ _; go_simp; try with_reducible rfl)
    case tr3 =>
    simp only [Act.put, List.setIfInBounds_toArray, List.set_cons_succ, List.set_cons_zero]
    refine held_take 4 (v := ?tv4) rfl (by kernel_rfl) (by kernel_rfl) (by kernel_rfl) (fun _ _ _ h => h) (.inl ⟨rfl, ?ty4⟩) hS0 ?tr4
    case ty4 => (intro _ _; go_simp; try with_reducible rfl)
    case tr4 =>
    simp only [Act.put, List.setIfInBounds_toArray, List.set_cons_succ, List.set_cons_zero]
    refine held_take 5 (v := _) rfl (by kernel_rfl) (by kernel_rfl) (by kernel_rfl) (fun _ _ _ h => h) (yieldsI_run rfl (fun w1 _ => exec_strAt rfl rfl rfl hia w1)) hS0 ?_
    simp only [Act.put, List.setIfInBounds_toArray, List.set_cons_succ, List.set_cons_zero]
    refine held_take 6 (v := ?tv5) rfl (by kernel_rfl) (by kernel_rfl) (by kernel_rfl) (fun _ _ _ h => h) (.inl ⟨rfl, ?ty5⟩) hS0 ?tr5
    case ty5 => (intro _ _; go_simp; try with_reducible rfl)
    case tr5 =>
    simp only [Act.put, List.setIfInBounds_toArray, List.set_cons_succ, List.set_cons_zero]
    have eD : Ext wr wr.drew := (Ext.refl wr).drew
    generalize wr.drew = wD at *
    refine wpAnyH_done (by kernel_rfl) ?_ _
    clear hS0 hCx HCC C
    go_wp2_with fail
    obtain ⟨C, hC⟩ : ∃ C : World → Prop, C = fun w' => Ext wD w' := ⟨_, rfl⟩
    have hC0 : ∀ w', C w' ↔ Ext wD w' := fun w' => by rw [hC]
    clear hC
    have HCC := hid hC0
    clear hC0
    have hCx : ∀ w w', C w → Ext w w' → C w' := fun w w' h1 h2 => (HCC.out w').2 (((HCC.out w).1 h1).ext h2)
    refine wp_region_held_drew (S := C) (by kernel_rfl) ((HCC.out _).2 (Ext.refl wD).drew) (fun hS0 => ?_)
    have hw1 : IntKind.i64.wrap ((m : Int) + 1) = ((m + 1 : Nat) : Int) := by rw [IntWalk.i64_in _ (by omega)]; omega
    have hm1 : m + 1 ≤ s.size := by omega
    generalize m + 1 = m1 at *
    refine held_take 0 (v := ?tv6) rfl (by kernel_rfl) (by kernel_rfl) (by kernel_rfl) (fun _ _ _ h => h) (.inl ⟨rfl, ?ty6⟩) hS0 ?tr6
    case ty6 => (intro _ _; go_simp; try with_reducible rfl)
    case tr6 =>
    simp only [Act.put, List.setIfInBounds_toArray, List.set_cons_succ, List.set_cons_zero]
    refine held_take 1 (v := ?tv7) rfl (by kernel_rfl) (by kernel_rfl) (by kernel_rfl) (fun _ _ _ h => h) (.inl ⟨rfl, ?ty7⟩) hS0 ?tr7
    case ty7 => (intro _ _; go_simp; try with_reducible rfl)
    case tr7 =>
    simp only [Act.put, List.setIfInBounds_toArray, List.set_cons_succ, List.set_cons_zero]
    refine held_take 2 (v := ?tv8) rfl (by kernel_rfl) (by kernel_rfl) (by kernel_rfl) (fun _ _ _ h => h) (.inl ⟨rfl, ?ty8⟩) hS0 ?tr8
    case ty8 => (intro _ _; go_simp; try with_reducible rfl)
    case tr8 =>
    simp only [Act.put, List.setIfInBounds_toArray, List.set_cons_succ, List.set_cons_zero]
    refine held_take 3 (v := _) rfl (by kernel_rfl) (by kernel_rfl) (by kernel_rfl) (fun _ _ _ h => h) (yieldsI_run rfl (fun w1 _ => exec_strFrom (i := m1) rfl rfl rfl hm1 w1)) hS0 ?_
    simp only [Act.put, List.setIfInBounds_toArray, List.set_cons_succ, List.set_cons_zero]
    refine held_take 4 (v := ?tv9) rfl (by kernel_rfl) (by kernel_rfl) (by kernel_rfl) (fun _ _ _ h => h) (.inl ⟨rfl, ?ty9⟩) hS0 ?tr9
    case ty9 => (intro _ _; go_simp; try with_reducible rfl)
    case tr9 =>
    simp only [Act.put, List.setIfInBounds_toArray, List.set_cons_succ, List.set_cons_zero]
    refine held_take 5 (v := ?tv10) rfl (by kernel_rfl) (by kernel_rfl) (by kernel_rfl) (fun _ _ _ h => h) (.inl ⟨rfl, ?ty10⟩) hS0 ?tr10
    case ty10 => (intro _ _; go_simp; try with_reducible rfl)
    case tr10 =>
    simp only [Act.put, List.setIfInBounds_toArray, List.set_cons_succ, List.set_cons_zero]
    refine held_take 6 (v := _) rfl (by kernel_rfl) (by kernel_rfl) (by kernel_rfl) (fun _ _ _ h => h) (yieldsI_run rfl (fun w1 _ => exec_strAt rfl rfl rfl hia w1)) hS0 ?_
    simp only [Act.put, List.setIfInBounds_toArray, List.set_cons_succ, List.set_cons_zero]
    clear hw1
    generalize wD.drew = wE at *
    refine held_one (i := 7) (by kernel_rfl) rfl ?_
    intro Q' hQ
    go_wp2_with fail
    refine (hix.out m1 s.size _).mono ?_
    rintro e wF ⟨rfl, rfl⟩
    go_wp2_with fail
    refine hQ _ _ hS0 ?_
    clear hQ Q'
    try dsimp only
    try simp only [Act.put, List.setIfInBounds_toArray, List.set_cons_succ, List.set_cons_zero]
    rw [hno.out]
    refine held_take 8 (v := ?tv11) rfl (by kernel_rfl) (by kernel_rfl) (by kernel_rfl) (fun _ _ _ h => h) (.inl ⟨rfl, ?ty11⟩) hS0 ?tr11
    case ty11 => (intro _ _; go_simp; try with_reducible rfl)
    case tr11 =>
    simp only [Act.put, List.setIfInBounds_toArray, List.set_cons_succ, List.set_cons_zero]
    refine wpAnyH_done (by kernel_rfl) ?_ _
    have EE := hid (eD.ext ((HCC.out _).1 hS0))
    clear hS0 hCx HCC C
    go_wp2_with fail
    rw [Exit.noGoto_ret]
    go_wp2_with fail
    rw [Exit.noGoto_ret]
    go_ret
    exact ⟨rfl, EE.out⟩
end

section
open Go Go.RowKit

theorem nameOct_high {c : UInt8} (h : 128 ≤ c.toNat) : nameOct c = false := by
  unfold nameOct
  simp
  omega
theorem runeOk_low {r : Nat} (h : r < 128) : runeOk r = nameOct (UInt8.ofNat r) := by
  unfold runeOk
  rw [decide_eq_true h, Bool.true_and]
theorem runeOk_high {r : Nat} (h : 128 ≤ r) : runeOk r = false := by
  unfold runeOk
  rw [decide_eq_false (by omega), Bool.false_and]
theorem runeOk_oct (c : UInt8) (h : c.toNat < 128) : runeOk c.toNat = nameOct c := by
  rw [runeOk_low h, UInt8.ofNat_toNat]

set_option maxRecDepth 100000 in
set_option maxHeartbeats 1000000 in
theorem indexRune_c (r : Nat) (w : World) (h : r ≤ 1114111) :
    Calls Try.prog 97 #[.string alpha, .int .i32 (r : Int)] w fun e w' => ∃ z : Int, e = .returned (.int .i64 z) ∧ decide (0 ≤ z) = runeOk r ∧ Ext w w' := by
  by_cases h1 : r < 128
  · refine (indexRune_low r w h1).mono ?_
    rintro e w' ⟨rfl, rfl⟩
    refine ⟨_, rfl, ?_, Ext.refl _⟩
    rw [firstIdx_nonneg, runeOk_low h1]
    have := alpha_any ⟨r, by omega⟩
    exact this
  · by_cases h2 : r = 65533
    · subst h2
      refine (indexRune_err w).mono ?_
      rintro e w' ⟨rfl, e1⟩
      exact ⟨_, rfl, by rw [runeOk_high (by omega)]; rfl, e1⟩
    · by_cases h3 : 55296 ≤ r ∧ r ≤ 57343
      · refine (indexRune_bad r w h3.1 h3.2).mono ?_
        rintro e w' ⟨rfl, rfl⟩
        exact ⟨_, rfl, by rw [runeOk_high (by omega)]; rfl, Ext.refl _⟩
      · refine (indexRune_high r w (by omega) h (by omega) h2).mono ?_
        rintro e w' ⟨rfl, e1⟩
        exact ⟨_, rfl, by rw [runeOk_high (by omega)]; rfl, e1⟩

set_option maxRecDepth 100000 in
set_option maxHeartbeats 1000000 in
theorem containsRune_c (r : Nat) (w : World) (h : r ≤ 1114111) :
    Calls Try.prog 54 #[.string alpha, .int .i32 (r : Int)] w fun e w' => e = .returned (.bool (runeOk r)) ∧ Ext w w' := by
  have hi := hid (fun w' => indexRune_c r w' h)
  generalize runeOk r = R at *
  generalize alpha = s at *
  go_enter Try.func54, Try.ntmps54
  go_wp2_with fail
  refine (hi.out w).mono ?_
  rintro e w1 ⟨z, rfl, hz, e1⟩
  have E1 := hid e1
  clear e1 hi
  go_wp2_with fail
  go_ret
  exact ⟨by first | rfl | rw [hz], E1.out⟩

set_option maxRecDepth 100000 in
set_option maxHeartbeats 1000000 in
theorem notName_rune (r : Nat) (w : World) (h : r ≤ 1114111) :
    Calls Try.prog 53 #[.int .i32 (r : Int)] w fun e w' => e = .returned (.bool (!runeOk r)) ∧ Ext w w' := by
  have hi := hid (fun w' => containsRune_c r w' h)
  generalize runeOk r = R at *
  go_enter Try.func53, Try.ntmps53
  go_wp2_with fail
  refine (hi.out w).mono ?_
  rintro e w1 ⟨rfl, e1⟩
  have E1 := hid e1
  clear e1 hi
  go_wp2_with fail
  go_ret
  exact ⟨rfl, E1.out⟩

def predV : Value := .func (.func 53) #[] #[]

set_option maxRecDepth 100000 in
set_option maxHeartbeats 2000000 in
theorem indexFunc_c (s : ByteArray) (w : World) :
    Calls Try.prog 121 #[.string s, predV, .bool true] w fun e w' => ∃ z : Int, e = .returned (.int .i64 z) ∧ decide (0 ≤ z) = !(s.data.toList.all nameOct) ∧ Ext w w' := by
  obtain ⟨N, hN⟩ : ∃ N, s.size = N := ⟨_, rfl⟩
  have hll : s.data.toList.length = N := by rw [← hN, Array.length_toList]; rfl
  have HLL := hid hll
  have HN := hid hN
  clear hll hN
  unfold predV
  go_enter Try.func121, Try.ntmps121
  go_wp2
  go_loopg [] N (fun gf wx => ∃ pos : Nat, wx.heap[w.heap.size]? = some (.stringIter s pos) ∧ Below w.heap.size w wx ∧ Hid ((s.data.toList.take pos).all nameOct = true) ∧ N ≤ pos + gf)
  case atStart => exact ⟨0, World.iter_heap w s 0, (Below.refl _ w).alloc (Nat.le_refl _) _, hid (by simp), by omega⟩
  case round =>
    obtain ⟨pos, hit, hbw, hall, hfu⟩ := hrel
    by_cases hps : pos < s.size
    · have hpN : pos < N := by rw [← HN.out]; exact hps
      obtain ⟨g', rfl⟩ : ∃ g', gk = g' + 1 := ⟨gk - 1, by omega⟩
      have hnx : ∀ ty, (Instr.next (.pointer (some ⟨w.heap.size, 0, none⟩)) true ty).run Try.prog wr = _ := fun ty => Lib.run_next_any_at wr w.heap.size s pos ty hit hps
      have hrl := Lib.rune_le s pos
      have hc : s.data.toList[pos]? = some (s[pos]'hps) := by rw [Array.getElem?_toList]; exact Array.getElem?_eq_getElem hps
      obtain ⟨R, hR⟩ : ∃ R, (Utf8.decode s pos).1 = R := ⟨_, rfl⟩
      obtain ⟨K, hK⟩ : ∃ K, (Utf8.decode s pos).2 = K := ⟨_, rfl⟩
      have hok : runeOk R = nameOct (s[pos]'hps) ∧ (nameOct (s[pos]'hps) = true → K = 1) := by
        by_cases hb : (s[pos]'hps).toNat < 128
        · have hdec := decode_ascii s pos hps hb
          rw [hdec] at hR hK
          simp only at hR hK
          rw [← hR]
          exact ⟨runeOk_oct _ hb, fun _ => hK.symm⟩
        · have hh := (decode_high s pos hps (by omega)).1
          rw [hR] at hh
          refine ⟨by rw [runeOk_high hh, nameOct_high (by omega)], fun h => ?_⟩
          rw [nameOct_high (by omega)] at h; cases h
      rw [hR] at hnx hrl
      rw [hK] at hnx
      obtain ⟨b, hb⟩ : ∃ b, (s[pos]'hps) = b := ⟨_, rfl⟩
      rw [hb] at hok hc
      obtain ⟨hok1, hok2⟩ := hok
      have hit2 := Lib.iterAt_heap wr w.heap.size s pos (pos + K) hit
      have hbw2 := Lib.below_iterAt hbw (k := w.heap.size) (Nat.le_refl _) s (pos + K)
      have HIT := hid hit2
      have HBW := hid hbw2
      have hcl := hid (fun w' => notName_rune R w' hrl)
      have HC := hid hc
      generalize wr.iterAt w.heap.size s (pos + K) = wX at *
      have hgt : w.heap.size < wX.heap.size := (Array.getElem?_eq_some_iff.1 HIT.out).1
      cases hnm : nameOct b with
      | true =>
        rw [hnm] at hok1
        have hK1 := hok2 hnm
        subst hK1
        rw [hok1] at hcl
        have hst : (s.data.toList.take (pos + 1)).all nameOct = true := by
          rw [List.take_add_one, HC.out, List.all_append, hall.out]; simp [hnm]
        have HST := hid hst
        clear hit hbw hit2 hbw2 hR hK hok1 hok2 hc hst hb hrl
        go_wp2_with fail
        refine (hcl.out wX).mono ?_
        rintro e wY ⟨rfl, eY⟩
        have hit3 : wY.heap[w.heap.size]? = some (.stringIter s (pos + 1)) := by rw [eY.block _ hgt]; exact HIT.out
        have HIT3 := hid hit3
        have HBW3 := hid (HBW.out.trans (eY.mono HBW.out.size))
        clear eY hit3 hcl
        go_wp2_with fail
        go_roundg g'
        case measure => omega
        case rel => exact ⟨pos + 1, HIT3.out, HBW3.out, HST, by omega⟩
      | false =>
        rw [hnm] at hok1
        rw [hok1] at hcl
        have hbad : s.data.toList.all nameOct = false := by
          rw [List.all_eq_false]
          exact ⟨b, List.mem_of_getElem? HC.out, by rw [hnm]; simp⟩
        have HBAD := hid hbad
        clear hit hbw hit2 hbw2 hR hK hok1 hok2 hc hbad hb hrl
        go_wp2_with fail
        refine (hcl.out wX).mono ?_
        rintro e wY ⟨rfl, eY⟩
        have HBW3 := hid (HBW.out.trans (eY.mono HBW.out.size))
        clear eY hcl
        go_wp2_with fail
        go_ret
        exact ⟨_, rfl, by rw [HBAD.out]; exact decide_eq_true (by omega), HBW3.out⟩
    · have hnx : ∀ ty, (Instr.next (.pointer (some ⟨w.heap.size, 0, none⟩)) true ty).run Try.prog wr = _ := fun ty => Lib.run_next_end_at wr w.heap.size s pos ty hit hps
      have hfull : s.data.toList.take pos = s.data.toList := List.take_of_length_le (by rw [HLL.out]; have := HN.out; omega)
      have hall2 := hall.out
      rw [hfull] at hall2
      have HALL := hid hall2
      have HBW := hid hbw
      clear hit hbw hall hall2 hfull
      go_wp2_with fail
      go_ret
      exact ⟨_, rfl, by rw [HALL.out]; rfl, HBW.out⟩
end

section
open Go Go.RowKit

set_option maxRecDepth 100000 in
set_option maxHeartbeats 1000000 in
theorem containsFunc_c (s : ByteArray) (w : World) :
    Calls Try.prog 52 #[.string s, predV] w fun e w' => e = .returned (.bool (!(s.data.toList.all nameOct))) ∧ Ext w w' := by
  have hi := hid (fun w' => indexFunc_c s w')
  generalize s.data.toList.all nameOct = b at *
  generalize predV = pv at *
  have hj : Hid (∀ w, Calls Try.prog 96 #[.string s, pv] w fun e w' => ∃ z : Int, e = .returned (.int .i64 z) ∧ decide (0 ≤ z) = (!b) ∧ Ext w w') := by
    refine hid fun w => ?_
    go_enter Try.func96, Try.ntmps96
    go_wp2_with fail
    refine (hi.out w).mono ?_
    rintro e w1 ⟨z, rfl, hz, e1⟩
    have E1 := hid e1
    have HZ := hid hz
    clear e1 hi hz
    go_wp2_with fail
    go_ret
    exact ⟨z, rfl, HZ.out, E1.out⟩
  clear hi
  go_enter Try.func52, Try.ntmps52
  go_wp2_with fail
  refine (hj.out w).mono ?_
  rintro e w1 ⟨z, rfl, hz, e1⟩
  have E1 := hid e1
  clear e1 hj
  go_wp2_with fail
  go_ret
  exact ⟨by first | rfl | rw [hz], E1.out⟩

set_option maxRecDepth 100000 in
set_option maxHeartbeats 1000000 in
theorem risName_c (s : ByteArray) (w : World) (hn : s.size ≤ 9223372036854775807) :
    Calls Try.prog 16 #[.string s] w fun e w' => e = .returned (.bool (isNameL s.data.toList)) ∧ Ext w w' := by
  have hc := hid (fun w' => containsFunc_c s w')
  obtain ⟨n, hsn⟩ : ∃ n, s.size = n := ⟨_, rfl⟩
  have hll : s.data.toList.length = n := by rw [← hsn, Array.length_toList]; rfl
  obtain ⟨R, hR⟩ : ∃ R, isNameL s.data.toList = R := ⟨_, rfl⟩
  rw [hR]
  unfold isNameL at hR
  have hem : s.data.toList.isEmpty = decide (n = 0) := by
    rw [Bool.eq_iff_iff, List.isEmpty_iff, decide_eq_true_eq, ← hll, List.length_eq_zero_iff]
  have hse : s = ByteArray.empty ↔ n = 0 := by
    constructor
    · rintro rfl; rw [← hsn]; rfl
    · intro h
      have : s.data.toList = [] := List.length_eq_zero_iff.1 (by rw [hll]; exact h)
      cases s with
      | mk d => cases d with
        | mk l => simp at this; subst this; rfl
  rw [hem, hll] at hR
  generalize s.data.toList.all nameOct = b at *
  by_cases h0 : n = 0
  · have hs := hse.2 h0
    subst hs
    subst h0
    simp at hR
    subst hR
    clear hc hse hem hll hsn
    go_enter Try.func16, Try.ntmps16
    go_wp2
    go_ret
    exact ⟨rfl, Ext.refl _⟩
  · have hsne : ¬ s = ByteArray.empty := fun h => h0 (hse.1 h)
    have hne1 : s.toList.isEmpty = false := by
      have := decide_eq_emptyBytes s
      rw [decide_eq_false hsne] at this
      exact this.symm
    have hne2 : ¬ s.toList = [] := by
      intro h
      rw [h] at hne1
      cases hne1
    rw [decide_eq_false h0] at hR
    by_cases h32 : n ≤ 32
    · have g1 : decide ((n : Int) ≤ 32) = true := decide_eq_true (by omega)
      have g2 : decide (n ≤ 32) = true := decide_eq_true h32
      rw [g2] at hR
      simp at hR
      subst hR
      clear hse hem hll
      unfold predV at hc
      go_enter Try.func16, Try.ntmps16
      go_wp2_with fail
      refine (hc.out w).mono ?_
      rintro e w1 ⟨rfl, e1⟩
      have E1 := hid e1
      clear e1 hc
      go_wp2_with fail
      go_ret
      exact ⟨by first | rfl | simp, E1.out⟩
    · have g1 : decide ((n : Int) ≤ 32) = false := decide_eq_false (by omega)
      have g2 : decide (n ≤ 32) = false := decide_eq_false h32
      rw [g2] at hR
      simp at hR
      subst hR
      clear hc hse hem hll
      go_enter Try.func16, Try.ntmps16
      go_wp2
      go_ret
      exact ⟨rfl, Ext.refl _⟩
end

section
open Go Go.RowKit

/-- the head of a pattern, and whether a star ends it -/
def headL (l : List UInt8) : List UInt8 := Lib.trimSuffix l [42]
def starL (l : List UInt8) : Bool := Lib.hasSuffix l [42]
def patL (l : List UInt8) : Bool := isNameL (headL l) || (starL l && (headL l).isEmpty)
def fitsL (p l : List UInt8) : Bool := if starL p then Lib.hasPrefix l (headL p) else p == l

theorem notName_p (s : ByteArray) (w : World) (hn : s.size ≤ 140737488355328) :
    Calls Try.prog 48 #[.string s] w fun e w' => e = .returned (.bool (!isNameL s.data.toList)) ∧ w = w' := by
  have hc := hid (fun w' => isName_c s w' hn)
  generalize isNameL s.data.toList = b at *
  clear hn
  go_enter Try.func48, Try.ntmps48
  go_wp2_with fail
  refine (hc.out w).mono ?_
  rintro e w1 ⟨rfl, rfl⟩
  go_wp2_with fail
  go_ret
  exact ⟨rfl, rfl⟩

set_option maxRecDepth 100000 in
set_option maxHeartbeats 1000000 in
theorem fits_p (p s : ByteArray) (w : World) (hp : p.size ≤ 140737488355328) :
    Calls Try.prog 49 #[.string p, .string s] w fun e w' => e = .returned (.bool (fitsL p.data.toList s.data.toList)) ∧ w = w' := by
  have hcut := hid (fun w' => cutSuffix_c p ⟨#[42]⟩ w' (by omega))
  have hpre := hid (fun w' => hasPrefix_c s ⟨(headL p.data.toList).toArray⟩ w')
  obtain ⟨H, hH⟩ : ∃ H : ByteArray, (⟨(headL p.data.toList).toArray⟩ : ByteArray) = H := ⟨_, rfl⟩
  rw [hH] at hpre
  have hH2 : H = ⟨(Lib.trimSuffix p.data.toList [42]).toArray⟩ := hH.symm
  have hcut2 : Hid (∀ w', Calls Try.prog 55 #[.string p, .string ⟨#[42]⟩] w' fun e w'' => e = .returned (.tuple #[.string H, .bool (starL p.data.toList)]) ∧ w'' = w') := by
    rw [hH2]; exact hcut
  clear hcut
  unfold fitsL
  cases hst : starL p.data.toList with
  | true =>
    rw [hst] at hcut2
    have hh : headL p.data.toList = H.data.toList := by rw [← hH]
    rw [if_pos rfl, hh]
    clear hH hH2 hh hst hp
    generalize Lib.hasPrefix s.data.toList H.data.toList = b at *
    go_enter Try.func49, Try.ntmps49
    go_wp2_with fail
    refine (hcut2.out w).mono ?_
    rintro e w1 ⟨rfl, rfl⟩
    go_wp2_with fail
    refine (hpre.out _).mono ?_
    rintro e w1 ⟨rfl, rfl⟩
    go_wp2_with fail
    go_ret
    exact ⟨rfl, rfl⟩
  | false =>
    rw [hst] at hcut2
    rw [if_neg (by simp)]
    clear hH hH2 hst hp hpre
    go_enter Try.func49, Try.ntmps49
    go_wp2_with fail
    refine (hcut2.out w).mono ?_
    rintro e w1 ⟨rfl, rfl⟩
    go_wp2_with fail
    go_ret
    exact ⟨by rw [Lib.toList_data, Lib.toList_data]; rfl, rfl⟩

set_option maxRecDepth 100000 in
set_option maxHeartbeats 1000000 in
theorem rfits_c (p s : ByteArray) (w : World) (hp : p.size ≤ 140737488355328) :
    Calls Try.prog 17 #[.string p, .string s] w fun e w' => e = .returned (.bool (fitsL p.data.toList s.data.toList)) ∧ w = w' := by
  have hcut := hid (fun w' => cutSuffix_c p ⟨#[42]⟩ w' (by omega))
  have hpre := hid (fun w' => hasPrefix_c s ⟨(headL p.data.toList).toArray⟩ w')
  obtain ⟨H, hH⟩ : ∃ H : ByteArray, (⟨(headL p.data.toList).toArray⟩ : ByteArray) = H := ⟨_, rfl⟩
  rw [hH] at hpre
  have hH2 : H = ⟨(Lib.trimSuffix p.data.toList [42]).toArray⟩ := hH.symm
  have hcut2 : Hid (∀ w', Calls Try.prog 55 #[.string p, .string ⟨#[42]⟩] w' fun e w'' => e = .returned (.tuple #[.string H, .bool (starL p.data.toList)]) ∧ w'' = w') := by
    rw [hH2]; exact hcut
  clear hcut
  unfold fitsL
  cases hst : starL p.data.toList with
  | true =>
    rw [hst] at hcut2
    have hh : headL p.data.toList = H.data.toList := by rw [← hH]
    rw [if_pos rfl, hh]
    clear hH hH2 hh hst hp
    generalize Lib.hasPrefix s.data.toList H.data.toList = b at *
    go_enter Try.func17, Try.ntmps17
    go_wp2_with fail
    refine (hcut2.out w).mono ?_
    rintro e w1 ⟨rfl, rfl⟩
    go_wp2_with fail
    refine (hpre.out _).mono ?_
    rintro e w1 ⟨rfl, rfl⟩
    go_wp2_with fail
    go_ret
    exact ⟨rfl, rfl⟩
  | false =>
    rw [hst] at hcut2
    rw [if_neg (by simp)]
    clear hH hH2 hst hp hpre
    go_enter Try.func17, Try.ntmps17
    go_wp2_with fail
    refine (hcut2.out w).mono ?_
    rintro e w1 ⟨rfl, rfl⟩
    go_wp2_with fail
    go_ret
    exact ⟨by rw [Lib.toList_data, Lib.toList_data]; rfl, rfl⟩

theorem trim_size (s : ByteArray) : (⟨(headL s.data.toList).toArray⟩ : ByteArray).size ≤ s.size := by
  show (headL s.data.toList).toArray.size ≤ s.size
  rw [List.size_toArray, Lib.size_eq]
  unfold headL Lib.trimSuffix
  split
  · rw [List.length_take]; omega
  · exact Nat.le_refl _
theorem empty_toList (H : ByteArray) : H.toList.isEmpty = H.data.toList.isEmpty := by rw [Lib.toList_data]

set_option maxRecDepth 100000 in
set_option maxHeartbeats 1000000 in
theorem isPattern_c (s : ByteArray) (w : World) (hn : s.size ≤ 140737488355328) :
    Calls Try.prog 47 #[.string s] w fun e w' => e = .returned (.bool (patL s.data.toList)) ∧ w = w' := by
  have hcut := hid (fun w' => cutSuffix_c s ⟨#[42]⟩ w' (by omega))
  have hts := trim_size s
  obtain ⟨H, hH⟩ : ∃ H : ByteArray, (⟨(headL s.data.toList).toArray⟩ : ByteArray) = H := ⟨_, rfl⟩
  have hH2 : H = ⟨(Lib.trimSuffix s.data.toList [42]).toArray⟩ := hH.symm
  have hcut2 : Hid (∀ w', Calls Try.prog 55 #[.string s, .string ⟨#[42]⟩] w' fun e w'' => e = .returned (.tuple #[.string H, .bool (starL s.data.toList)]) ∧ w'' = w') := by
    rw [hH2]; exact hcut
  rw [hH] at hts
  have hnm := hid (fun w' => isName_c H w' (by omega))
  have hh : headL s.data.toList = H.data.toList := by rw [← hH]
  unfold patL
  rw [hh]
  have HEM := hid (empty_toList H)
  clear hcut hH hH2 hh hts hn
  generalize starL s.data.toList = st at *
  generalize isNameL H.data.toList = nm at *
  cases nm with
  | true =>
    go_enter Try.func47, Try.ntmps47
    go_wp2_with fail
    refine (hcut2.out w).mono ?_
    rintro e w1 ⟨rfl, rfl⟩
    go_wp2_with fail
    refine (hnm.out _).mono ?_
    rintro e w2 ⟨rfl, rfl⟩
    go_wp2_with fail
    go_ret
    exact ⟨rfl, rfl⟩
  | false =>
    cases st with
    | false =>
      go_enter Try.func47, Try.ntmps47
      go_wp2_with fail
      refine (hcut2.out w).mono ?_
      rintro e w1 ⟨rfl, rfl⟩
      go_wp2_with fail
      refine (hnm.out _).mono ?_
      rintro e w2 ⟨rfl, rfl⟩
      go_wp2_with fail
      go_ret
      exact ⟨rfl, rfl⟩
    | true =>
      go_enter Try.func47, Try.ntmps47
      go_wp2_with fail
      refine (hcut2.out w).mono ?_
      rintro e w1 ⟨rfl, rfl⟩
      go_wp2_with fail
      refine (hnm.out _).mono ?_
      rintro e w2 ⟨rfl, rfl⟩
      go_wp2_with fail
      go_ret
      exact ⟨by show Ending.returned (Value.bool H.toList.isEmpty) = Ending.returned (Value.bool H.data.toList.isEmpty); rw [HEM.out], rfl⟩

/-- the law's own test of a pattern -/
def pat2L (l : List UInt8) : Bool := l == [42] || (isNameL (headL l) && decide (Lib.countByte l 42 ≤ 1))

theorem policyFits_c (p s : ByteArray) (w : World) (hp : p.size ≤ 140737488355328) (hs : s.size ≤ 140737488355328) :
    Calls Try.prog 14 #[.string p, .string s] w fun e w' => e = .returned (.tuple (if patL p.data.toList && isNameL s.data.toList then #[.bool (fitsL p.data.toList s.data.toList), .int .i64 0] else #[.bool false, .int .i64 6])) ∧ w = w' := by
  have h1 := hid (fun w' => isPattern_c p w' hp)
  have h2 := hid (fun w' => notName_p s w' hs)
  have h3 := hid (fun w' => fits_p p s w' hp)
  clear hp hs
  generalize patL p.data.toList = b1 at *
  generalize isNameL s.data.toList = b2 at *
  generalize fitsL p.data.toList s.data.toList = b3 at *
  cases b1 with
  | false =>
    go_enter Try.func14, Try.ntmps14
    go_wp2_with fail
    refine (h1.out w).mono ?_
    rintro e w1 ⟨rfl, rfl⟩
    go_wp2_with fail
    go_ret2
    exact ⟨rfl, rfl⟩
  | true =>
    cases b2 with
    | false =>
      go_enter Try.func14, Try.ntmps14
      go_wp2_with fail
      refine (h1.out w).mono ?_
      rintro e w1 ⟨rfl, rfl⟩
      go_wp2_with fail
      refine (h2.out _).mono ?_
      rintro e w1 ⟨rfl, rfl⟩
      go_wp2_with fail
      go_ret2
      exact ⟨rfl, rfl⟩
    | true =>
      go_enter Try.func14, Try.ntmps14
      go_wp2_with fail
      refine (h1.out w).mono ?_
      rintro e w1 ⟨rfl, rfl⟩
      go_wp2_with fail
      refine (h2.out _).mono ?_
      rintro e w1 ⟨rfl, rfl⟩
      go_wp2_with fail
      refine (h3.out _).mono ?_
      rintro e w1 ⟨rfl, rfl⟩
      go_wp2_with fail
      go_ret2
      exact ⟨rfl, rfl⟩

set_option maxRecDepth 100000 in
set_option maxHeartbeats 1000000 in
theorem lawPattern_c (s : ByteArray) (w : World) (hn : s.size ≤ 140737488355328) :
    Calls Try.prog 15 #[.string s] w fun e w' => e = .returned (.bool (pat2L s.data.toList)) ∧ Ext w w' := by
  have htr := hid (fun w' => trimSuffix_c s ⟨#[42]⟩ w' (by omega))
  have hct := hid (fun w' => countOne_c s 42 w')
  have hts := trim_size s
  obtain ⟨H, hH⟩ : ∃ H : ByteArray, (⟨(headL s.data.toList).toArray⟩ : ByteArray) = H := ⟨_, rfl⟩
  have hH2 : H = ⟨(Lib.trimSuffix s.data.toList [42]).toArray⟩ := hH.symm
  have htr2 : Hid (∀ w', Calls Try.prog 50 #[.string s, .string ⟨#[42]⟩] w' fun e w'' => e = .returned (.string H) ∧ w'' = w') := by
    rw [hH2]; exact htr
  rw [hH] at hts
  have hnm := hid (fun w' => risName_c H w' (by omega))
  have hh : headL s.data.toList = H.data.toList := by rw [← hH]
  have hle : s.data.toList.count 42 ≤ s.data.toList.length := List.count_le_length
  rw [← Lib.size_eq] at hle
  obtain ⟨q, hq⟩ : ∃ q, Lib.countByte s.data.toList 42 = q := ⟨_, rfl⟩
  have hq1 : q ≤ 140737488355328 := by rw [← hq]; exact Nat.le_trans hle hn
  unfold pat2L
  rw [hh, hq]
  rw [hq] at hct
  have HH := hid hh
  clear htr hH hH2 hh hts hn hq hle
  generalize isNameL H.data.toList = nm at *
  by_cases hs : s.toList = [42]
  · have hs2 : (s.data.toList == [42]) = true := by rw [← Lib.toList_data, hs]; rfl
    rw [hs2]
    clear hs2
    go_enter Try.func15, Try.ntmps15
    go_wp2_with fail
    go_ret
    exact ⟨rfl, Ext.refl _⟩
  · have hs2 : (s.data.toList == [42]) = false := by rw [← Lib.toList_data]; simpa using hs
    have hs3 : (s.toList == [42]) = false := by simpa using hs
    rw [hs2]
    clear hs2
    cases nm with
    | false =>
      go_enter Try.func15, Try.ntmps15
      go_wp2_with fail
      refine (htr2.out w).mono ?_
      rintro e w1 ⟨rfl, rfl⟩
      go_wp2_with fail
      refine (hnm.out _).mono ?_
      rintro e w2 ⟨rfl, e2⟩
      have E2 := hid e2
      clear e2
      go_wp2_with fail
      go_ret
      exact ⟨rfl, E2.out⟩
    | true =>
      go_enter Try.func15, Try.ntmps15
      go_wp2_with fail
      refine (htr2.out w).mono ?_
      rintro e w1 ⟨rfl, rfl⟩
      go_wp2_with fail
      refine (hnm.out _).mono ?_
      rintro e w2 ⟨rfl, e2⟩
      have E2 := hid e2
      clear e2
      go_wp2_with fail
      refine (hct.out _).mono ?_
      rintro e w3 ⟨rfl, rfl⟩
      go_wp2_with fail
      go_ret
      exact ⟨by first | rfl | (simp; done) | (simp; omega), E2.out⟩

theorem mem_name {l : List UInt8} (h : isNameL l = true) : ∀ c ∈ l, nameOct c = true := by
  unfold isNameL at h
  simp only [Bool.and_eq_true] at h
  exact List.all_eq_true.1 h.1.1
theorem count_name {l : List UInt8} (h : isNameL l = true) : l.count 42 = 0 := by
  rw [List.count_eq_zero]
  intro hm
  have := mem_name h 42 hm
  revert this
  decide

/-- the two tests of a pattern are one -/
theorem pat_eq (l : List UInt8) : pat2L l = patL l := by
  cases hs : Lib.hasSuffix l [42] with
  | false =>
    have hh : headL l = l := by unfold headL Lib.trimSuffix; rw [if_neg (by rw [hs]; simp)]
    have h0 : (l == [42]) = false := by
      cases h : l == [42] with
      | false => rfl
      | true => rw [beq_iff_eq.1 h] at hs; revert hs; decide
    unfold pat2L patL starL Lib.countByte
    rw [hh, h0, hs]
    cases hn : isNameL l with
    | false => rfl
    | true => rw [count_name hn]; rfl
  | true =>
    obtain ⟨t, ht⟩ : ∃ t, t ++ [42] = l := List.isSuffixOf_iff_suffix.1 hs
    have hh : headL l = t := by unfold headL Lib.trimSuffix; rw [if_pos hs, ← ht]; simp
    unfold pat2L patL starL Lib.countByte
    rw [hh, hs, ← ht]
    cases htn : t.isEmpty with
    | true =>
      rw [List.isEmpty_iff] at htn
      subst htn
      decide
    | false =>
      have h0 : (t ++ [42] == [42]) = false := by
        cases t with
        | nil => simp at htn
        | cons a t => cases t <;> simp
      rw [h0]
      cases hn : isNameL t with
      | false => rfl
      | true => rw [List.count_append, count_name hn]; rfl

set_option maxRecDepth 100000 in
set_option maxHeartbeats 1000000 in
theorem patternsFit_c (p s : ByteArray) (w : World) (hp : p.size ≤ 140737488355328) (hs : s.size ≤ 140737488355328) :
    Calls Try.prog 4 #[.string p, .string s] w fun e w' => e = .returned (.bool true) ∧ Ext w w' := by
  have h1 := hid (fun w' => policyFits_c p s w' hp hs)
  have h2 := hid (fun w' => lawPattern_c p w' hp)
  have h3 := hid (fun w' => risName_c s w' (by omega))
  have h4 := hid (fun w' => rfits_c p s w' hp)
  rw [pat_eq] at h2
  clear hp hs
  generalize patL p.data.toList = b1 at *
  generalize isNameL s.data.toList = b2 at *
  generalize fitsL p.data.toList s.data.toList = b3 at *
  have H33 : (b3 == b3) = true := by simp
  cases b1 with
  | false =>
    go_enter Try.func4, Try.ntmps4
    go_wp2_with fail
    refine (landed_c w).mono ?_
    rintro e wB ⟨rfl, eB⟩
    have EB := hid eB
    clear eB
    go_wp2_with fail
    refine (h1.out wB).mono ?_
    rintro e w1 ⟨rfl, rfl⟩
    go_wp2_with fail
    refine (h2.out _).mono ?_
    rintro e w2 ⟨rfl, e2⟩
    have E2 := hid (EB.out.ext e2)
    clear e2 EB
    go_wp2_with fail
    go_ret
    exact ⟨rfl, E2.out⟩
  | true =>
    cases b2 with
    | false =>
      go_enter Try.func4, Try.ntmps4
      go_wp2_with fail
      refine (landed_c w).mono ?_
      rintro e wB ⟨rfl, eB⟩
      have EB := hid eB
      clear eB
      go_wp2_with fail
      refine (h1.out wB).mono ?_
      rintro e w1 ⟨rfl, rfl⟩
      go_wp2_with fail
      refine (h2.out _).mono ?_
      rintro e w2 ⟨rfl, e2⟩
      have E2 := hid (EB.out.ext e2)
      clear e2 EB
      go_wp2_with fail
      refine (h3.out _).mono ?_
      rintro e w3 ⟨rfl, e3⟩
      have E3 := hid (E2.out.ext e3)
      clear e3 E2
      go_wp2_with fail
      go_ret
      exact ⟨rfl, E3.out⟩
    | true =>
      go_enter Try.func4, Try.ntmps4
      go_wp2_with fail
      refine (landed_c w).mono ?_
      rintro e wB ⟨rfl, eB⟩
      have EB := hid eB
      clear eB
      go_wp2_with fail
      refine (h1.out wB).mono ?_
      rintro e w1 ⟨rfl, rfl⟩
      go_wp2_with fail
      refine (h2.out _).mono ?_
      rintro e w2 ⟨rfl, e2⟩
      have E2 := hid (EB.out.ext e2)
      clear e2 EB
      go_wp2_with fail
      refine (h3.out _).mono ?_
      rintro e w3 ⟨rfl, e3⟩
      have E3 := hid (E2.out.ext e3)
      clear e3 E2
      go_wp2_with fail
      refine (h4.out _).mono ?_
      rintro e w4 ⟨rfl, rfl⟩
      go_wp2_with fail
      go_ret
      exact ⟨by first | rfl | (simp; done), E3.out⟩
end

section
open Go Go.RowKit

theorem enters_ofU {P : Program} {f : FuncId} {fn : Func} {c : Code} (hf : P.funcs[f]? = some fn) (hname : (fn.name == "runtime.NumGoroutine") = false) (hb : fn.body = some c) : ∀ args w, (callFunc f args).run P w = .ok (.enter f args) w := by
  intro args w
  have h1 : fn.name ≠ "runtime.NumGoroutine" := by simpa using hname
  simp [callFunc, hf, h1, hb, mark]

theorem outsideP_c (n a b : Int) (w : World) :
    Calls Try.prog 68 #[.int .i64 n, .int .i64 a, .int .i64 b] w fun e w' => e = .returned (.bool (decide (n < a) || decide (b < n))) ∧ w = w' := by
  by_cases h : n < a
  · have d1 : decide (n < a) = true := decide_eq_true h
    go_enter Try.func68, Try.ntmps68
    go_wp2
    go_ret
    exact ⟨by first | rfl | (rw [d1]; rfl), rfl⟩
  · have d1 : decide (n < a) = false := decide_eq_false h
    go_enter Try.func68, Try.ntmps68
    go_wp2
    go_ret
    exact ⟨by first | rfl | (rw [d1]; rfl), rfl⟩
def actB (n : Int) : Bool := decide (1 ≤ n) && decide (n ≤ 12)
theorem isAct_c (n : Int) (w : World) :
    Calls Try.prog 66 #[.int .i64 n] w fun e w' => e = .returned (.bool (actB n)) ∧ w = w' := by
  unfold actB
  by_cases h : 1 ≤ n
  · have d1 : decide (1 ≤ n) = true := decide_eq_true h
    go_enter Try.func66, Try.ntmps66
    go_wp2
    go_ret
    exact ⟨by first | rfl | (rw [d1]; rfl), rfl⟩
  · have d1 : decide (1 ≤ n) = false := decide_eq_false h
    go_enter Try.func66, Try.ntmps66
    go_wp2
    go_ret
    exact ⟨by first | rfl | (rw [d1]; rfl), rfl⟩
theorem fault1_c (n : Int) (w : World) :
    Calls Try.prog 103 #[.int .i64 n] w fun e w' => e = .returned (.bool (!actB n)) ∧ w = w' := by
  have h := hid (isAct_c n w)
  generalize actB n = b at *
  go_enter Try.func103, Try.ntmps103
  go_wp2_with fail
  refine h.out.mono ?_
  rintro e w1 ⟨rfl, rfl⟩
  go_wp2_with fail
  go_ret
  exact ⟨rfl, rfl⟩
theorem fault2_c (s : ByteArray) (w : World) (hn : s.size ≤ 140737488355328) :
    Calls Try.prog 104 #[.string s] w fun e w' => e = .returned (.bool (!patL s.data.toList)) ∧ w = w' := by
  have h := hid (isPattern_c s w hn)
  generalize patL s.data.toList = b at *
  go_enter Try.func104, Try.ntmps104
  go_wp2_with fail
  refine h.out.mono ?_
  rintro e w1 ⟨rfl, rfl⟩
  go_wp2_with fail
  go_ret
  exact ⟨rfl, rfl⟩

theorem rule1_c (s : ByteArray) (w : World) (hn : s.size ≤ 140737488355328) :
    Calls Try.prog 72 #[.string s] w fun e w' => e = .returned (.bool (!isNameL s.data.toList)) ∧ Ext w w' := by
  have h := hid (risName_c s w (by omega))
  generalize isNameL s.data.toList = b at *
  go_enter Try.func72, Try.ntmps72
  go_wp2_with fail
  refine h.out.mono ?_
  rintro e w1 ⟨rfl, e1⟩
  have E1 := hid e1
  clear e1 h
  go_wp2_with fail
  go_ret
  exact ⟨rfl, E1.out⟩
theorem ask1_c (s : ByteArray) (w : World) (hn : s.size ≤ 140737488355328) :
    Calls Try.prog 62 #[.string s] w fun e w' => e = .returned (.bool (!isNameL s.data.toList)) ∧ Ext w w' := by
  have h := hid (risName_c s w (by omega))
  generalize isNameL s.data.toList = b at *
  go_enter Try.func62, Try.ntmps62
  go_wp2_with fail
  refine h.out.mono ?_
  rintro e w1 ⟨rfl, e1⟩
  have E1 := hid e1
  clear e1 h
  go_wp2_with fail
  go_ret
  exact ⟨rfl, E1.out⟩
theorem rule2_c (n : Int) (w : World) :
    Calls Try.prog 74 #[.int .i64 n] w fun e w' => e = .returned (.bool (!actB n)) ∧ w = w' := by
  by_cases h : n < 1
  · have d1 : decide (n < 1) = true := decide_eq_true h
    have hr : (!actB n) = true := by unfold actB; rw [decide_eq_false (show ¬ 1 ≤ n by omega)]; rfl
    rw [hr]
    clear hr
    go_enter Try.func74, Try.ntmps74
    go_wp2
    go_ret
    exact ⟨by first | rfl | (rw [d1]; rfl), rfl⟩
  · have d1 : decide (n < 1) = false := decide_eq_false h
    have hr : (!actB n) = decide (12 < n) := by
      unfold actB; rw [decide_eq_true (show 1 ≤ n by omega), Bool.true_and, ← decide_not]; congr 1; simp only [Int.not_le]
    rw [hr]
    clear hr
    go_enter Try.func74, Try.ntmps74
    go_wp2
    go_ret
    exact ⟨by first | rfl | (rw [d1]; rfl), rfl⟩

set_option maxRecDepth 100000 in
set_option maxHeartbeats 1000000 in
theorem rpattern_c (s : ByteArray) (w : World) (hn : s.size ≤ 140737488355328) :
    Calls Try.prog 76 #[.string s] w fun e w' => e = .returned (.bool (patL s.data.toList)) ∧ Ext w w' := by
  have hcut := hid (fun w' => cutSuffix_c s ⟨#[42]⟩ w' (by omega))
  have hts := trim_size s
  obtain ⟨H, hH⟩ : ∃ H : ByteArray, (⟨(headL s.data.toList).toArray⟩ : ByteArray) = H := ⟨_, rfl⟩
  have hH2 : H = ⟨(Lib.trimSuffix s.data.toList [42]).toArray⟩ := hH.symm
  have hcut2 : Hid (∀ w', Calls Try.prog 55 #[.string s, .string ⟨#[42]⟩] w' fun e w'' => e = .returned (.tuple #[.string H, .bool (starL s.data.toList)]) ∧ w'' = w') := by
    rw [hH2]; exact hcut
  rw [hH] at hts
  have hnm := hid (fun w' => risName_c H w' (by omega))
  have hh : headL s.data.toList = H.data.toList := by rw [← hH]
  unfold patL
  rw [hh]
  have HEM := hid (empty_toList H)
  clear hcut hH hH2 hh hts hn
  generalize starL s.data.toList = st at *
  generalize isNameL H.data.toList = nm at *
  cases nm with
  | true =>
    go_enter Try.func76, Try.ntmps76
    go_wp2_with fail
    refine (hcut2.out w).mono ?_
    rintro e w1 ⟨rfl, rfl⟩
    go_wp2_with fail
    refine (hnm.out _).mono ?_
    rintro e w2 ⟨rfl, e2⟩
    have E2 := hid e2
    clear e2
    go_wp2_with fail
    go_ret
    exact ⟨rfl, E2.out⟩
  | false =>
    cases st with
    | false =>
      go_enter Try.func76, Try.ntmps76
      go_wp2_with fail
      refine (hcut2.out w).mono ?_
      rintro e w1 ⟨rfl, rfl⟩
      go_wp2_with fail
      refine (hnm.out _).mono ?_
      rintro e w2 ⟨rfl, e2⟩
      have E2 := hid e2
      clear e2
      go_wp2_with fail
      go_ret
      exact ⟨rfl, E2.out⟩
    | true =>
      go_enter Try.func76, Try.ntmps76
      go_wp2_with fail
      refine (hcut2.out w).mono ?_
      rintro e w1 ⟨rfl, rfl⟩
      go_wp2_with fail
      refine (hnm.out _).mono ?_
      rintro e w2 ⟨rfl, e2⟩
      have E2 := hid e2
      clear e2
      go_wp2_with fail
      go_ret
      exact ⟨by show Ending.returned (Value.bool H.toList.isEmpty) = Ending.returned (Value.bool H.data.toList.isEmpty); rw [HEM.out], E2.out⟩
theorem rule3_c (s : ByteArray) (w : World) (hn : s.size ≤ 140737488355328) :
    Calls Try.prog 75 #[.string s] w fun e w' => e = .returned (.bool (!patL s.data.toList)) ∧ Ext w w' := by
  have h := hid (rpattern_c s w hn)
  generalize patL s.data.toList = b at *
  go_enter Try.func75, Try.ntmps75
  go_wp2_with fail
  refine h.out.mono ?_
  rintro e w1 ⟨rfl, e1⟩
  have E1 := hid e1
  clear e1 h
  go_wp2_with fail
  go_ret
  exact ⟨rfl, E1.out⟩
end

section
open Go Go.RowKit Go.Maps Go.MapKept Go.WideShapes

structure RuleR where
  deny : Bool
  ra : Option Addr
  rn : Nat
  rc : Nat
  roles : List ByteArray
  aa : Option Addr
  an : Nat
  ac : Nat
  acts : List Int
  la : Option Addr
  ln : Nat
  lc : Nat
  labels : List ByteArray
  fr : Int
  tt : Int
  nd : Int
  ow : ByteArray
def RuleR.v (r : RuleR) : List Value := [.bool r.deny, .slice r.ra r.rn r.rc, .slice r.aa r.an r.ac, .slice r.la r.ln r.lc, .int .i64 r.fr, .int .i64 r.tt, .int .i64 r.nd, .string r.ow]
structure RuleR.Ok (w : World) (r : RuleR) : Prop where
  rl : r.roles.length = r.rn
  rnc : r.rn ≤ r.rc
  rm : r.rc ≤ 140737488355328
  rcell : Cells w r.ra (r.roles.map encS)
  rs : ∀ s ∈ r.roles, s.size ≤ 140737488355328
  al : r.acts.length = r.an
  anc : r.an ≤ r.ac
  am : r.ac ≤ 140737488355328
  acell : Cells w r.aa (r.acts.map encI)
  awf : ∀ z ∈ r.acts, (Lit.int .i64 z).wf = true
  ll : r.labels.length = r.ln
  lnc : r.ln ≤ r.lc
  lm : r.lc ≤ 140737488355328
  lcell : Cells w r.la (r.labels.map encS)
  ls : ∀ s ∈ r.labels, s.size ≤ 140737488355328
  os : r.ow.size ≤ 140737488355328
theorem RuleR.Ok.ext {w w' : World} {r : RuleR} (h : r.Ok w) (e : Ext w w') : r.Ok w' :=
  ⟨h.rl, h.rnc, h.rm, h.rcell.ext e, h.rs, h.al, h.anc, h.am, h.acell.ext e, h.awf, h.ll, h.lnc, h.lm, h.lcell.ext e, h.ls, h.os⟩
theorem RuleR.len (r : RuleR) : r.v.length = 8 := rfl
theorem keysS {ls : List ByteArray} (h : ∀ s ∈ ls, s.size ≤ 140737488355328) : Keys Try.prog 9 (ls.map encS) := fun v hv => by
  obtain ⟨s, hs, rfl⟩ := List.mem_map.1 hv
  exact ⟨_, WideMaps.keyOf_string_mk Try.underlying9 (by have := h s hs; unfold maxLen; omega)⟩
theorem keysI {ls : List Int} (h : ∀ z ∈ ls, (Lit.int .i64 z).wf = true) : Keys Try.prog 3 (ls.map encI) := fun v hv => by
  obtain ⟨s, hs, rfl⟩ := List.mem_map.1 hv
  exact ⟨_, keyOf_int_mk Try.underlying3 (h s hs)⟩

noncomputable def dupB {α : Type} (l : List α) : Bool := @decide (¬ l.Nodup) (Classical.propDecidable _)
theorem dupB_iff {α : Type} {l : List α} : dupB l = true ↔ ¬ l.Nodup := by unfold dupB; exact @decide_eq_true_iff _ (Classical.propDecidable _)
theorem dupB_of {α : Type} {l : List α} {b : Bool} (h : b = true ↔ ¬ l.Nodup) : b = dupB l := by
  cases b with
  | true => exact (dupB_iff.2 (h.1 rfl)).symm
  | false =>
    cases hd : dupB l with
    | true => have := h.2 (dupB_iff.1 hd); cases this
    | false => rfl
def badS (s : ByteArray) : Bool := !isNameL s.data.toList
def badP (s : ByteArray) : Bool := !patL s.data.toList
def badA (z : Int) : Bool := !actB z
def emptyB (s : ByteArray) : Bool := s.toList.isEmpty
def k1 (r : RuleR) : Bool := decide ((16 : Int) < (r.rn : Int)) || decide ((16 : Int) < (r.an : Int)) || decide ((16 : Int) < (r.ln : Int))
def k2 (r : RuleR) : Bool := r.roles.any badS || (!emptyB r.ow && badS r.ow)
def k3 (r : RuleR) : Bool := r.acts.any badA
def k4 (r : RuleR) : Bool := r.labels.any badP
noncomputable def k5 (r : RuleR) : Bool := dupB r.roles || dupB r.acts || dupB r.labels
def k6 (r : RuleR) : Bool := (decide (r.fr < 0) || decide (24 < r.fr)) || (decide (r.tt < 0) || decide (24 < r.tt)) || (decide (r.fr = r.tt) && decide (r.fr ≠ 0)) || (decide (r.nd < 0) || decide (16 < r.nd))
def k7 (r : RuleR) : Bool := (decide (r.nd = 0) != emptyB r.ow) || (r.deny && decide (0 < r.nd))
noncomputable def ruleE (r : RuleR) : Int := if k1 r then 5 else if k2 r then 6 else if k3 r then 3 else if k4 r then 6 else if k5 r then 8 else if k6 r then 4 else if k7 r then 17 else 0
end

section
open Go Go.RowKit

set_option maxRecDepth 100000 in
set_option maxHeartbeats 2000000 in
theorem ruleError_c (r : RuleR) (w : World) (hr : r.Ok w) :
    Calls Try.prog 30 #[.agg r.v.toArray] w fun e w' => e = .returned (.int .i64 (ruleE r)) ∧ Ext w w' := by
  have hf1 := hid (fun w' (h : r.Ok w') => containsFS_c badS 72 #[] r.roles r.ra r.rn r.rc w' (enters_ofU Try.func72 (by kernel_rfl) rfl) h.rl (by have := h.rnc; have := h.rm; omega) h.rcell (fun y hy w2 _ => rule1_c y w2 (h.rs y hy)))
  have hf2 := hid (fun w' => risName_c r.ow w' (by have := hr.os; omega))
  have hf3 := hid (fun w' (h : r.Ok w') => containsFI_c badA 74 #[] r.acts r.aa r.an r.ac w' (enters_ofU Try.func74 (by kernel_rfl) rfl) h.al (by have := h.anc; have := h.am; omega) h.acell (fun y hy w2 _ => (rule2_c y w2).mono fun e w3 ⟨he, hw⟩ => ⟨he, hw ▸ Ext.refl _⟩))
  have hf4 := hid (fun w' (h : r.Ok w') => containsFS_c badP 75 #[] r.labels r.la r.ln r.lc w' (enters_ofU Try.func75 (by kernel_rfl) rfl) h.ll (by have := h.lnc; have := h.lm; omega) h.lcell (fun y hy w2 _ => rule3_c y w2 (h.ls y hy)))
  have ht1 := hid (fun w' (h : r.Ok w') => rtwiceS_c r.roles r.ra r.rn r.rc w' h.rl (by have := h.rnc; have := h.rm; omega) h.rnc h.rcell)
  have ht2 := hid (fun w' (h : r.Ok w') => rtwiceI_c r.acts r.aa r.an r.ac w' h.al (by have := h.anc; have := h.am; omega) h.anc h.acell)
  have ht3 := hid (fun w' (h : r.Ok w') => rtwiceS_c r.labels r.la r.ln r.lc w' h.ll (by have := h.lnc; have := h.lm; omega) h.lnc h.lcell)
  have HR := hid hr
  clear hr
  go_enter Try.func30, Try.ntmps30
  go_upto_region 1 with (fail)
  generalize hwA : World.alloc w _ = wA
  have bA : Blk wA w.heap.size r.v 50 := by rw [← hwA]; exact Blk.mk_alloc rfl rfl
  have eA : Ext w wA := by rw [← hwA]; exact (Ext.refl w).alloc _
  have BA := hid bA
  have EA := hid eA
  clear hwA bA eA
  go_cut [13] (fun v wx => v = .bool (k1 r) ∧ Ext wA wx)
  case first =>
    have c1 := BA.out.cell' (i := 1) rfl
    have c2 := BA.out.cell' (i := 2) rfl
    have c3 := BA.out.cell' (i := 3) rfl
    go_wp2
    all_goals
      go_meet
      refine ⟨?_, Ext.refl _⟩
      refine congrArg Value.bool ?_
      unfold k1
      rw [Bool.eq_iff_iff]
      simp only [Bool.or_eq_true, decide_eq_true_eq]
      split at * <;> omega
  case rest =>
    obtain ⟨rfl, eB⟩ := hcut
    have BB := hid (BA.out.ext eB)
    have EB := hid (EA.out.ext eB)
    clear eB BA EA
    cases h1 : k1 r with
    | true =>
      go_wp2
      go_ret
      exact ⟨by simp [ruleE, h1], EB.out⟩
    | false =>
    have HRB := hid (HR.out.ext EB.out)
    go_upto_region 3 with (fail)
    go_cut [27] (fun v wx => v = .bool (k2 r) ∧ Ext wc wx)
    case first =>
      have c1 := BB.out.cell' (i := 1) rfl
      go_wp2_with fail
      refine (hf1.out wc HRB.out).mono ?_
      rintro e wD ⟨rfl, eD⟩
      generalize hb1 : r.roles.any badS = b1
      have HB1 := hid hb1
      clear hb1
      have c7 := (BB.out.ext eD).cell' (i := 7) rfl
      have ED := hid eD
      clear eD c1
      have hk2 := hid (show k2 r = (r.roles.any badS || (!emptyB r.ow && badS r.ow)) from rfl)
      rw [HB1.out] at hk2
      have hbs : badS r.ow = !isNameL r.ow.data.toList := rfl
      rw [hbs] at hk2
      generalize isNameL r.ow.data.toList = nm at *
      have hem := hid (show emptyB r.ow = r.ow.toList.isEmpty from rfl)
      generalize emptyB r.ow = em at *
      generalize hk : k2 r = kk at *
      clear hk hbs HB1
      cases b1 with
      | true =>
        have hv : kk = true := by rw [hk2.out]; rfl
        subst hv
        clear hk2 hem
        go_wp2
        go_meet
        exact ⟨by first | rfl | simp, ED.out⟩
      | false =>
      cases em with
      | true =>
        have e1 : r.ow.toList.isEmpty = true := hem.out.symm
        have e2 : r.ow.toList = [] := List.isEmpty_iff.1 e1
        have hv : kk = false := by rw [hk2.out]; rfl
        subst hv
        clear hk2 hem
        go_wp2
        go_meet
        exact ⟨by first | rfl | simp, ED.out⟩
      | false =>
        have e1 : r.ow.toList.isEmpty = false := hem.out.symm
        have e2 : r.ow.toList ≠ [] := fun h => by rw [h] at e1; cases e1
        have hv : kk = !nm := by rw [hk2.out]; simp
        subst hv
        clear hk2 hem
        go_wp2_with fail
        refine (hf2.out _).mono ?_
        rintro e w4 ⟨rfl, e4⟩
        have E4 := hid (ED.out.ext e4)
        clear e4
        go_wp2_with fail
        go_meet
        exact ⟨by first | rfl | simp, E4.out⟩
    case rest =>
      obtain ⟨rfl, eC⟩ := hcut
      have BC := hid (BB.out.ext eC)
      have EC := hid (EB.out.ext eC)
      have HRC := hid (HRB.out.ext eC)
      clear eC BB EB HRB hf1 hf2
      cases h2 : k2 r with
      | true =>
        go_wp2
        go_ret
        exact ⟨by simp [ruleE, h1, h2], EC.out⟩
      | false =>
      have c2 := BC.out.cell' (i := 2) rfl
      go_wp2_with fail
      refine (hf3.out wc HRC.out).mono ?_
      rintro e wD ⟨rfl, eD⟩
      have BD := hid (BC.out.ext eD)
      have ED := hid (EC.out.ext eD)
      have HRD := hid (HRC.out.ext eD)
      clear eD BC EC HRC
      clear c2 hf3
      cases h3 : k3 r with
      | true =>
        have h3' : r.acts.any badA = true := h3
        rw [h3']
        go_wp2
        go_ret
        exact ⟨by simp [ruleE, h1, h2, h3], ED.out⟩
      | false =>
      have h3' : r.acts.any badA = false := h3
      rw [h3']
      have c3 := BD.out.cell' (i := 3) rfl
      go_wp2_with fail
      refine (hf4.out wD HRD.out).mono ?_
      rintro e wE ⟨rfl, eE⟩
      have BE := hid (BD.out.ext eE)
      have EE := hid (ED.out.ext eE)
      have HRE := hid (HRD.out.ext eE)
      clear eE BD ED HRD
      clear c3 hf4
      cases h4 : k4 r with
      | true =>
        have h4' : r.labels.any badP = true := h4
        rw [h4']
        go_wp2
        go_ret
        exact ⟨by simp [ruleE, h1, h2, h3, h4], EE.out⟩
      | false =>
      have h4' : r.labels.any badP = false := h4
      rw [h4']
      clear h3' h4'
      go_upto_region 9 with (fail)
      go_cut [34] (fun v wx => v = .bool (k5 r) ∧ Ext wE wx)
      case first =>
        have c1 := BE.out.cell' (i := 1) rfl
        go_wp2_with fail
        refine (ht1.out wE HRE.out).mono ?_
        rintro e wF ⟨b1, rfl, hb1, eF⟩
        have HB1 := hid (dupB_of hb1)
        have BF := hid (BE.out.ext eF)
        have HRF := hid (HRE.out.ext eF)
        have EF := hid eF
        clear hb1 eF c1
        have c2 := BF.out.cell' (i := 2) rfl
        cases b1 with
        | true =>
          go_wp2
          go_meet
          exact ⟨by unfold k5; rw [← HB1.out]; rfl, EF.out⟩
        | false =>
          go_wp2_with fail
          refine (ht2.out wF HRF.out).mono ?_
          rintro e wG ⟨b2, rfl, hb2, eG⟩
          have HB2 := hid (dupB_of hb2)
          have BG := hid (BF.out.ext eG)
          have HRG := hid (HRF.out.ext eG)
          have EG := hid (EF.out.ext eG)
          clear hb2 eG c2
          have c3 := BG.out.cell' (i := 3) rfl
          cases b2 with
          | true =>
            go_wp2
            go_meet
            exact ⟨by unfold k5; rw [← HB1.out, ← HB2.out]; rfl, EG.out⟩
          | false =>
            go_wp2_with fail
            refine (ht3.out wG HRG.out).mono ?_
            rintro e wI ⟨b3, rfl, hb3, eI⟩
            have HB3 := hid (dupB_of hb3)
            have EI := hid (EG.out.ext eI)
            clear hb3 eI c3
            go_wp2_with fail
            go_meet
            exact ⟨by unfold k5; rw [← HB1.out, ← HB2.out, ← HB3.out]; first | rfl | simp, EI.out⟩
      case rest =>
        obtain ⟨rfl, eF⟩ := hcut
        have BF := hid (BE.out.ext eF)
        have EF := hid (EE.out.ext eF)
        clear eF BE EE HRE ht1 ht2 ht3
        cases h5 : k5 r with
        | true =>
          go_wp2
          go_ret
          exact ⟨by simp [ruleE, h1, h2, h3, h4, h5], EF.out⟩
        | false =>
        have c4 := BF.out.cell' (i := 4) rfl
        have c5 := BF.out.cell' (i := 5) rfl
        have c6 := BF.out.cell' (i := 6) rfl
        have c7 := BF.out.cell' (i := 7) rfl
        have c0 := BF.out.cell' (i := 0) rfl
        go_upto_region 11 with (fail)
        go_cut [48] (fun v wx => v = .bool (k6 r) ∧ wx = wc)
        case first =>
          have hk6 := hid (show k6 r = ((((decide (r.fr < 0) || decide (24 < r.fr)) || (decide (r.tt < 0) || decide (24 < r.tt))) || (decide (r.fr = r.tt) && decide (r.fr ≠ 0))) || (decide (r.nd < 0) || decide (16 < r.nd))) from rfl)
          generalize hk : k6 r = kk at *
          clear hk
          by_cases hc0 : r.fr < 0
          · have q0 : decide (r.fr < 0) = true := decide_eq_true hc0
            rw [q0] at hk6
            clear hc0
            have hv : kk = true := by rw [hk6.out]; simp
            subst hv
            clear hk6
            go_wp2
            go_meet
            exact ⟨by first | rfl | simp, rfl⟩
          have q0 : decide (r.fr < 0) = false := decide_eq_false hc0
          rw [q0] at hk6
          clear hc0
          by_cases hc1 : 24 < r.fr
          · have q1 : decide (24 < r.fr) = true := decide_eq_true hc1
            rw [q1] at hk6
            clear hc1
            have hv : kk = true := by rw [hk6.out]; simp
            subst hv
            clear hk6
            go_wp2
            go_meet
            exact ⟨by first | rfl | simp, rfl⟩
          have q1 : decide (24 < r.fr) = false := decide_eq_false hc1
          rw [q1] at hk6
          clear hc1
          by_cases hc2 : r.tt < 0
          · have q2 : decide (r.tt < 0) = true := decide_eq_true hc2
            rw [q2] at hk6
            clear hc2
            have hv : kk = true := by rw [hk6.out]; simp
            subst hv
            clear hk6
            go_wp2
            go_meet
            exact ⟨by first | rfl | simp, rfl⟩
          have q2 : decide (r.tt < 0) = false := decide_eq_false hc2
          rw [q2] at hk6
          clear hc2
          by_cases hc3 : 24 < r.tt
          · have q3 : decide (24 < r.tt) = true := decide_eq_true hc3
            rw [q3] at hk6
            clear hc3
            have hv : kk = true := by rw [hk6.out]; simp
            subst hv
            clear hk6
            go_wp2
            go_meet
            exact ⟨by first | rfl | simp, rfl⟩
          have q3 : decide (24 < r.tt) = false := decide_eq_false hc3
          rw [q3] at hk6
          clear hc3
          by_cases hft : r.fr = r.tt
          · have q4 : decide (r.fr = r.tt) = true := decide_eq_true hft
            have q5 : (r.fr == r.tt) = true := by simp [hft]
            rw [q4] at hk6
            by_cases hf0 : r.fr = 0
            · have q6 : decide (r.fr = 0) = true := decide_eq_true hf0
              have q7 : (r.fr != 0) = false := by simp [hf0]
              have q8 : decide (r.fr ≠ 0) = false := decide_eq_false (fun h => h hf0)
              rw [q8] at hk6
              clear hft hf0
              by_cases hn1 : r.nd < 0
              · have q9 : decide (r.nd < 0) = true := decide_eq_true hn1
                rw [q9] at hk6
                clear hn1
                have hv : kk = true := by rw [hk6.out]; simp
                subst hv
                clear hk6
                go_wp2
                go_meet
                exact ⟨by first | rfl | simp, rfl⟩
              have q9 : decide (r.nd < 0) = false := decide_eq_false hn1
              rw [q9] at hk6
              clear hn1
              have hv : kk = decide (16 < r.nd) := by rw [hk6.out]; simp
              subst hv
              clear hk6
              go_wp2
              go_meet
              exact ⟨by first | rfl | simp, rfl⟩
            · have q6 : decide (r.fr = 0) = false := decide_eq_false hf0
              have q7 : (r.fr != 0) = true := by simp [hf0]
              have q8 : decide (r.fr ≠ 0) = true := decide_eq_true hf0
              rw [q8] at hk6
              clear hft hf0
              have hv : kk = true := by rw [hk6.out]; simp
              subst hv
              clear hk6
              go_wp2
              go_meet
              exact ⟨by first | rfl | simp, rfl⟩
          · have q4 : decide (r.fr = r.tt) = false := decide_eq_false hft
            have q5 : (r.fr == r.tt) = false := by simp [hft]
            rw [q4] at hk6
            clear hft
            by_cases hn1 : r.nd < 0
            · have q9 : decide (r.nd < 0) = true := decide_eq_true hn1
              rw [q9] at hk6
              clear hn1
              have hv : kk = true := by rw [hk6.out]; simp
              subst hv
              clear hk6
              go_wp2
              go_meet
              exact ⟨by first | rfl | simp, rfl⟩
            have q9 : decide (r.nd < 0) = false := decide_eq_false hn1
            rw [q9] at hk6
            clear hn1
            have hv : kk = decide (16 < r.nd) := by rw [hk6.out]; simp
            subst hv
            clear hk6
            go_wp2
            go_meet
            exact ⟨by first | rfl | simp, rfl⟩
        case rest =>
          obtain ⟨rfl, rfl⟩ := hcut
          cases h6 : k6 r with
          | true =>
            go_wp2
            go_ret
            exact ⟨by simp [ruleE, h1, h2, h3, h4, h5, h6], EF.out⟩
          | false =>
          have hnd : 0 ≤ r.nd := by
            by_cases h : r.nd < 0
            · exfalso
              have : k6 r = true := by unfold k6; rw [decide_eq_true h]; simp
              rw [h6] at this; cases this
            · omega
          go_upto_region 13 with (fail)
          go_cut [89] (fun v wx => v = .bool (k7 r) ∧ wx = wc)
          case first =>
            have hk7 := hid (show k7 r = ((decide (r.nd = 0) != emptyB r.ow) || (r.deny && decide (0 < r.nd))) from rfl)
            generalize hk : k7 r = kk at *
            clear hk
            have hem := hid (show emptyB r.ow = r.ow.toList.isEmpty from rfl)
            generalize emptyB r.ow = em at *
            generalize r.deny = dn at *
            by_cases hn0 : r.nd = 0
            · have n1 : decide (r.nd = 0) = true := decide_eq_true hn0
              have n3 : decide (0 < r.nd) = false := decide_eq_false (by omega)
              rw [n1, n3] at hk7
              clear hn0 hnd
              cases em with
              | true =>
                have e1 : r.ow.toList.isEmpty = true := hem.out.symm
                have e2 : r.ow.toList = [] := List.isEmpty_iff.1 e1
                cases dn
                all_goals
                  have hv := hk7.out
                  simp at hv
                  subst hv
                  clear hk7 hem
                  go_wp2
                  go_meet
                  exact ⟨by first | rfl | simp, rfl⟩
              | false =>
                have e1 : r.ow.toList.isEmpty = false := hem.out.symm
                have e2 : r.ow.toList ≠ [] := fun h => by rw [h] at e1; cases e1
                cases dn
                all_goals
                  have hv := hk7.out
                  simp at hv
                  subst hv
                  clear hk7 hem
                  go_wp2
                  go_meet
                  exact ⟨by first | rfl | simp, rfl⟩
            · have n1 : decide (r.nd = 0) = false := decide_eq_false hn0
              have n3 : decide (0 < r.nd) = true := decide_eq_true (by omega)
              rw [n1, n3] at hk7
              clear hn0 hnd
              cases em with
              | true =>
                have e1 : r.ow.toList.isEmpty = true := hem.out.symm
                have e2 : r.ow.toList = [] := List.isEmpty_iff.1 e1
                cases dn
                all_goals
                  have hv := hk7.out
                  simp at hv
                  subst hv
                  clear hk7 hem
                  go_wp2
                  go_meet
                  exact ⟨by first | rfl | simp, rfl⟩
              | false =>
                have e1 : r.ow.toList.isEmpty = false := hem.out.symm
                have e2 : r.ow.toList ≠ [] := fun h => by rw [h] at e1; cases e1
                cases dn
                all_goals
                  have hv := hk7.out
                  simp at hv
                  subst hv
                  clear hk7 hem
                  go_wp2
                  go_meet
                  exact ⟨by first | rfl | simp, rfl⟩
          case rest =>
            obtain ⟨rfl, rfl⟩ := hcut
            cases h7 : k7 r with
            | true =>
              go_wp2
              go_ret
              exact ⟨by simp [ruleE, h1, h2, h3, h4, h5, h6, h7], EF.out⟩
            | false =>
              go_wp2
              go_ret
              exact ⟨by simp [ruleE, h1, h2, h3, h4, h5, h6, h7], EF.out⟩
end

section
open Go Go.RowKit

theorem less_tri : ∀ x y : List UInt8, Op.bytesLess x y = !(Op.bytesLess y x || y == x)
  | [], [] => rfl
  | [], _ :: _ => rfl
  | _ :: _, [] => rfl
  | a :: x, b :: y => by
    have ih := less_tri x y
    unfold Op.bytesLess
    rw [ih]
    have tri : a < b ∨ a = b ∨ b < a := by
      rcases Nat.lt_trichotomy a.toNat b.toNat with h | h | h
      · exact .inl (UInt8.lt_iff_toNat_lt.2 h)
      · exact .inr (.inl (UInt8.toNat_inj.1 h))
      · exact .inr (.inr (UInt8.lt_iff_toNat_lt.2 h))
    rcases tri with h | h | h
    · have h1 : ¬ b < a := UInt8.lt_asymm h
      have h2 : ¬ b = a := fun e => by subst e; exact UInt8.lt_irrefl _ h
      have h3 : (b == a) = false := by simpa using h2
      simp [h, h1, h3, h2]
    · subst h
      simp [UInt8.lt_irrefl]
    · have h1 : ¬ a < b := UInt8.lt_asymm h
      have h2 : ¬ a = b := fun e => by subst e; exact UInt8.lt_irrefl _ h
      have h3 : (a == b) = false := by simpa using h2
      simp [h, h1, h3]
def lessS (a b : ByteArray) : Bool := Op.bytesLess a.toList b.toList
/-- one step: the later is not at most the earlier -/
theorem less_leq (a b : ByteArray) : (Op.bytesLess b.toList a.toList || b.toList == a.toList) = !lessS a b := by
  unfold lessS; rw [less_tri a.toList b.toList]; simp
def Rising (ls : List ByteArray) (k : Nat) : Prop := ∀ i a b, i + 1 < k → ls[i]? = some a → ls[i + 1]? = some b → lessS a b = true
noncomputable def risB (ls : List ByteArray) : Bool := @decide (Rising ls ls.length) (Classical.propDecidable _)
theorem risB_iff {ls : List ByteArray} : risB ls = true ↔ Rising ls ls.length := by unfold risB; exact @decide_eq_true_iff _ (Classical.propDecidable _)
theorem risB_true {ls : List ByteArray} {n : Nat} (hn : ls.length = n) (h : Rising ls n) : risB ls = true := risB_iff.2 (hn ▸ h)
theorem risB_false {ls : List ByteArray} {i : Nat} {a b : ByteArray} (h1 : ls[i]? = some a) (h2 : ls[i + 1]? = some b) (h : lessS a b = false) : risB ls = false := by
  cases hr : risB ls with
  | false => rfl
  | true =>
    have := risB_iff.1 hr i a b (List.getElem?_eq_some_iff.1 h2).1 h1 h2
    rw [h] at this; cases this
theorem Rising.step {ls : List ByteArray} {k : Nat} {a b : ByteArray} (h : Rising ls (k + 1)) (h1 : ls[k]? = some a) (h2 : ls[k + 1]? = some b) (hl : lessS a b = true) : Rising ls (k + 2) := by
  intro i x y hi hx hy
  by_cases hik : i = k
  · subst hik
    rw [h1] at hx; rw [h2] at hy
    injection hx with hx; injection hy with hy
    rw [← hx, ← hy]; exact hl
  · exact h i x y (by omega) hx hy
theorem Rising.one (ls : List ByteArray) {k : Nat} (h : k ≤ 1) : Rising ls k := fun i _ _ hi => by omega
theorem size_str : (Try.prog.info? 9).map (·.size) = some 1 := by kernel_rfl
theorem one_str : OneT Try.prog 9 := ⟨⟨_, Try.underlying9, rfl⟩, by kernel_rfl⟩
theorem exec_load_oneU {P : Program} {o : Oper} {a : Act} {w : World} {ty : TypeId} {x : Operand} {p : Addr} {v : Value} (ho : o.op = .load ty x) (hx : a.eval x = .pointer (some p)) (hc : w.cell? p = some v) (ht : OneT P ty) :
    (execOp a.eval o).run P w = .ok (.value v) w := by
  obtain ⟨⟨d, hu, hd⟩, hi⟩ := ht
  have hagg : (isAgg ty).run P w = .ok false w := by
    unfold isAgg
    rw [Sem.run_bind, run_underlying hu w]
    cases d <;> simp_all
  unfold execOp
  simp only [ho, hx, Instr.loadAt, Instr.sureAddr, Sem.run_bind, Sem.run_pure, Result.andThen_ok]
  simp [loadVar, Sem.run_bind, hagg, go_sem, hc]
theorem strs_at {w : World} {a : Option Addr} {ls : List ByteArray} {k : Nat} {x : ByteArray} (h : Cells w a (ls.map encS)) (hx : ls[k]? = some x) : ∃ A, a = some A ∧ w.cell? (A.add (k * 1)) = some (.string x) := by
  obtain ⟨g, o, rfl, h2⟩ := h.some_of (by rw [List.length_map]; have := (List.getElem?_eq_some_iff.1 hx).1; omega)
  exact ⟨_, rfl, by rw [addr_add, Nat.mul_one]; exact h2 k _ (encs_getS hx)⟩

set_option maxRecDepth 100000 in
set_option maxHeartbeats 1000000 in
theorem rising_c (ls : List ByteArray) (a : Option Addr) (n c : Nat) (w : World) (hn : ls.length = n) (hb63 : n ≤ 4611686018427387904) (hx : Cells w a (ls.map encS)) :
    Calls Try.prog 67 #[.slice a n c] w fun e w' => e = .returned (.bool (risB ls)) ∧ Ext w w' := by
  have HN := hid hn
  have HX := hid hx
  clear hn hx
  go_enter Try.func67, Try.ntmps67
  go_wp2
  go_loopw [3] (fun i wr => ∃ k : Nat, k ≤ n + 1 ∧ i = .int .i64 ((k + 1 : Nat) : Int) ∧ Rising ls (k + 1) ∧ Ext w wr) (fun i _ => n + 2 - (intOf i).toNat)
  case atStart => exact ⟨0, by omega, rfl, Rising.one ls (by omega), Ext.refl _⟩
  case round =>
    obtain ⟨k, hk, rfl, hpre, e1⟩ := hrel
    have E1 := hid e1
    have HPR := hid hpre
    clear e1 hpre
    by_cases hlt : k + 1 < n
    · have d1 : decide (((k + 1 : Nat) : Int) < (n : Int)) = true := decide_eq_true (by omega)
      have d2 : decide (k + 1 < n) = true := decide_eq_true hlt
      have d3 : decide ((k : Int) + 1 < (n : Int)) = true := decide_eq_true (by omega)
      obtain ⟨x, hxk⟩ : ∃ x, ls[k]? = some x := ⟨ls[k]'(by rw [HN.out]; omega), by simp⟩
      obtain ⟨y, hyk⟩ : ∃ y, ls[k + 1]? = some y := ⟨ls[k + 1]'(by rw [HN.out]; omega), by simp⟩
      obtain ⟨A, rfl, hcx⟩ := strs_at HX.out hxk
      obtain ⟨A2, hA2, hcy⟩ := strs_at HX.out hyk
      injection hA2 with hA2
      subst hA2
      have HCX := hid hcx
      have HCY := hid hcy
      have HST := hid (fun h => Rising.step HPR.out hxk hyk h)
      have HFF := hid (fun h => risB_false hxk hyk h)
      have HLQ := hid (less_leq x y)
      clear hcx hcy hxk hyk HPR
      go_wp2
      obtain ⟨C, hC⟩ : ∃ C : World → Prop, C = fun w' => Ext wr w' := ⟨_, rfl⟩
      have hC0 : ∀ w', C w' ↔ Ext wr w' := fun w' => by rw [hC]
      clear hC
      have HCC := hid hC0
      clear hC0
      have hCx : ∀ w w', C w → Ext w w' → C w' := fun w w' h1 h2 => (HCC.out w').2 (((HCC.out w).1 h1).ext h2)
      have hCA : C wr := (HCC.out _).2 (Ext.refl wr)
      have hcx : ∀ w1, C w1 → w1.cell? (A.add (k * 1)) = some (.string x) := fun w1 h1 => cell_extU HCX.out (E1.out.ext ((HCC.out w1).1 h1))
      have hcy : ∀ w1, C w1 → w1.cell? (A.add ((k + 1) * 1)) = some (.string y) := fun w1 h1 => cell_extU HCY.out (E1.out.ext ((HCC.out w1).1 h1))
      have hk1 : k < n := by omega
      refine wp_region_held_drew (S := C) (by kernel_rfl) (hCx _ _ hCA (Ext.refl _).drew) (fun hS0 => ?_)
      refine held_take 0 (v := ?tv1) rfl (by kernel_rfl) (by kernel_rfl) (by kernel_rfl) (fun _ _ _ h => h) (.inl ⟨rfl, ?ty1⟩) hS0 ?tr1
      case ty1 => (intro _ _; go_simp; try with_reducible rfl)
      case tr1 =>
      simp only [Act.put, List.setIfInBounds_toArray, List.set_cons_succ, List.set_cons_zero]
      refine held_take 1 (v := ?tv2) rfl (by kernel_rfl) (by kernel_rfl) (by kernel_rfl) (fun _ _ _ h => h) (.inl ⟨rfl, ?ty2⟩) hS0 ?tr2
      case ty2 => (intro _ _; go_simp; try with_reducible rfl)
      case tr2 =>
      simp only [Act.put, List.setIfInBounds_toArray, List.set_cons_succ, List.set_cons_zero]
      refine held_take 2 (v := _) rfl (by kernel_rfl) (by kernel_rfl) (by kernel_rfl) (fun _ _ _ h => h) (yieldsI_run rfl (fun w1 _ => exec_index (i := k + 1) rfl rfl rfl Try.underlying39 size_str hlt w1)) hS0 ?_
      simp only [Act.put, List.setIfInBounds_toArray, List.set_cons_succ, List.set_cons_zero]
      refine held_take 3 (v := _) rfl (by kernel_rfl) (by kernel_rfl) (by kernel_rfl) (fun _ _ _ h => h) (yieldsI_run rfl (fun w1 h => exec_load_oneU rfl rfl (hcy w1 h) one_str)) hS0 ?_
      simp only [Act.put, List.setIfInBounds_toArray, List.set_cons_succ, List.set_cons_zero]
      refine held_take 4 (v := ?tv3) rfl (by kernel_rfl) (by kernel_rfl) (by kernel_rfl) (fun _ _ _ h => h) (.inl ⟨rfl, ?ty3⟩) hS0 ?tr3
      case ty3 => (intro _ _; go_simp; try with_reducible rfl)
      case tr3 =>
      simp only [Act.put, List.setIfInBounds_toArray, List.set_cons_succ, List.set_cons_zero]
      refine held_take 5 (v := ?tv4) rfl (by kernel_rfl) (by kernel_rfl) (by kernel_rfl) (fun _ _ _ h => h) (.inl ⟨rfl, ?ty4⟩) hS0 ?tr4
      case ty4 => (intro _ _; go_simp; try with_reducible rfl)
      case tr4 =>
      simp only [Act.put, List.setIfInBounds_toArray, List.set_cons_succ, List.set_cons_zero]
      refine held_take 6 (v := ?tv5) rfl (by kernel_rfl) (by kernel_rfl) (by kernel_rfl) (fun _ _ _ h => h) (.inl ⟨rfl, ?ty5⟩) hS0 ?tr5
      case ty5 => (intro _ _; go_simp; try with_reducible rfl)
      case tr5 =>
      simp only [Act.put, List.setIfInBounds_toArray, List.set_cons_succ, List.set_cons_zero]
      have hwk : IntKind.i64.wrap (k : Int) = (k : Int) := IntWalk.i64_in _ (by omega)
      rw [hwk]
      clear hwk
      refine held_take 7 (v := _) rfl (by kernel_rfl) (by kernel_rfl) (by kernel_rfl) (fun _ _ _ h => h) (yieldsI_run rfl (fun w1 _ => exec_index (i := k) rfl rfl rfl Try.underlying39 size_str hk1 w1)) hS0 ?_
      simp only [Act.put, List.setIfInBounds_toArray, List.set_cons_succ, List.set_cons_zero]
      refine held_take 8 (v := _) rfl (by kernel_rfl) (by kernel_rfl) (by kernel_rfl) (fun _ _ _ h => h) (yieldsI_run rfl (fun w1 h => exec_load_oneU rfl rfl (hcx w1 h) one_str)) hS0 ?_
      simp only [Act.put, List.setIfInBounds_toArray, List.set_cons_succ, List.set_cons_zero]
      refine held_take 9 (v := ?tv6) rfl (by kernel_rfl) (by kernel_rfl) (by kernel_rfl) (fun _ _ _ h => h) (.inl ⟨rfl, ?ty6⟩) hS0 ?tr6
      case ty6 => (intro _ _; go_simp; try with_reducible rfl)
      case tr6 =>
      simp only [Act.put, List.setIfInBounds_toArray, List.set_cons_succ, List.set_cons_zero]
      refine wpAnyH_done (by kernel_rfl) ?_ _
      have E2 := hid (E1.out.ext ((HCC.out _).1 hS0))
      clear hS0 hcx hcy hCx hCA HCC HCX HCY
      rw [HLQ.out]
      cases hq : lessS x y with
      | true =>
        have HR2 := hid (HST.out hq)
        clear hq HST HFF HLQ
        go_wp2
        go_roundw
        case rel => exact ⟨k + 1, by omega, by go_num, HR2.out, E2.out⟩
        case measure => simp [intOf]; omega
      | false =>
        have HRES := hid (HFF.out hq)
        clear hq HST HFF HLQ
        go_wp2
        go_ret
        exact ⟨by rw [HRES.out]; rfl, E2.out⟩
    · have d1 : decide (((k + 1 : Nat) : Int) < (n : Int)) = false := decide_eq_false (by omega)
      have d2 : decide (k + 1 < n) = false := decide_eq_false hlt
      have d3 : decide ((k : Int) + 1 < (n : Int)) = false := decide_eq_false (by omega)
      have hres : risB ls = true := risB_true HN.out (fun i x y hi => HPR.out i x y (by omega))
      have HRES := hid hres
      clear hres
      go_wp2
      go_ret
      exact ⟨by rw [HRES.out]; rfl, E1.out⟩

set_option maxRecDepth 100000 in
set_option maxHeartbeats 1000000 in
theorem rrising_c (ls : List ByteArray) (a : Option Addr) (n c : Nat) (w : World) (hn : ls.length = n) (hb63 : n ≤ 4611686018427387904) (hx : Cells w a (ls.map encS)) :
    Calls Try.prog 63 #[.slice a n c] w fun e w' => e = .returned (.bool (risB ls)) ∧ Ext w w' := by
  have HN := hid hn
  have HX := hid hx
  clear hn hx
  go_enter Try.func63, Try.ntmps63
  go_wp2
  go_loopw [7] (fun i wr => ∃ k : Nat, k ≤ n ∧ i = .int .i64 (k : Int) ∧ Rising ls (k + 1) ∧ Ext w wr) (fun i _ => n + 2 - (intOf i).toNat)
  case atStart => exact ⟨0, by omega, rfl, Rising.one ls (by omega), Ext.refl _⟩
  case round =>
    obtain ⟨k, hk, rfl, hpre, e1⟩ := hrel
    have E1 := hid e1
    have HPR := hid hpre
    clear e1 hpre
    by_cases hlt : k + 1 < n
    · have d1 : decide ((k : Int) < (n : Int) - 1) = true := decide_eq_true (by omega)
      obtain ⟨x, hxk⟩ : ∃ x, ls[k]? = some x := ⟨ls[k]'(by rw [HN.out]; omega), by simp⟩
      obtain ⟨y, hyk⟩ : ∃ y, ls[k + 1]? = some y := ⟨ls[k + 1]'(by rw [HN.out]; omega), by simp⟩
      obtain ⟨A, rfl, hcx⟩ := strs_at HX.out hxk
      obtain ⟨A2, hA2, hcy⟩ := strs_at HX.out hyk
      injection hA2 with hA2
      subst hA2
      have HCX := hid hcx
      have HCY := hid hcy
      have HST := hid (fun h => Rising.step HPR.out hxk hyk h)
      have HFF := hid (fun h => risB_false hxk hyk h)
      clear hcx hcy hxk hyk HPR
      go_wp2
      obtain ⟨C, hC⟩ : ∃ C : World → Prop, C = fun w' => Ext wr w' := ⟨_, rfl⟩
      have hC0 : ∀ w', C w' ↔ Ext wr w' := fun w' => by rw [hC]
      clear hC
      have HCC := hid hC0
      clear hC0
      have hCx : ∀ w w', C w → Ext w w' → C w' := fun w w' h1 h2 => (HCC.out w').2 (((HCC.out w).1 h1).ext h2)
      have hCA : C wr := (HCC.out _).2 (Ext.refl wr)
      have hcx : ∀ w1, C w1 → w1.cell? (A.add (k * 1)) = some (.string x) := fun w1 h1 => cell_extU HCX.out (E1.out.ext ((HCC.out w1).1 h1))
      have hcy : ∀ w1, C w1 → w1.cell? (A.add ((k + 1) * 1)) = some (.string y) := fun w1 h1 => cell_extU HCY.out (E1.out.ext ((HCC.out w1).1 h1))
      have hk1 : k < n := by omega
      refine wp_region_held_drew (S := C) (by kernel_rfl) (hCx _ _ hCA (Ext.refl _).drew) (fun hS0 => ?_)
      refine held_take 0 (v := ?tv7) rfl (by kernel_rfl) (by kernel_rfl) (by kernel_rfl) (fun _ _ _ h => h) (.inl ⟨rfl, ?ty7⟩) hS0 ?tr7
      case ty7 => (intro _ _; go_simp; try with_reducible rfl)
      case tr7 =>
      simp only [Act.put, List.setIfInBounds_toArray, List.set_cons_succ, List.set_cons_zero]
      refine held_take 1 (v := ?tv8) rfl (by kernel_rfl) (by kernel_rfl) (by kernel_rfl) (fun _ _ _ h => h) (.inl ⟨rfl, ?ty8⟩) hS0 ?tr8
      case ty8 => (intro _ _; go_simp; try with_reducible rfl)
      case tr8 =>
      simp only [Act.put, List.setIfInBounds_toArray, List.set_cons_succ, List.set_cons_zero]
      refine held_take 2 (v := _) rfl (by kernel_rfl) (by kernel_rfl) (by kernel_rfl) (fun _ _ _ h => h) (yieldsI_run rfl (fun w1 _ => exec_index (i := k) rfl rfl rfl Try.underlying39 size_str hk1 w1)) hS0 ?_
      simp only [Act.put, List.setIfInBounds_toArray, List.set_cons_succ, List.set_cons_zero]
      refine held_take 3 (v := _) rfl (by kernel_rfl) (by kernel_rfl) (by kernel_rfl) (fun _ _ _ h => h) (yieldsI_run rfl (fun w1 h => exec_load_oneU rfl rfl (hcx w1 h) one_str)) hS0 ?_
      simp only [Act.put, List.setIfInBounds_toArray, List.set_cons_succ, List.set_cons_zero]
      refine held_take 4 (v := ?tv9) rfl (by kernel_rfl) (by kernel_rfl) (by kernel_rfl) (fun _ _ _ h => h) (.inl ⟨rfl, ?ty9⟩) hS0 ?tr9
      case ty9 => (intro _ _; go_simp; try with_reducible rfl)
      case tr9 =>
      simp only [Act.put, List.setIfInBounds_toArray, List.set_cons_succ, List.set_cons_zero]
      refine held_take 5 (v := ?tv10) rfl (by kernel_rfl) (by kernel_rfl) (by kernel_rfl) (fun _ _ _ h => h) (.inl ⟨rfl, ?ty10⟩) hS0 ?tr10
      case ty10 => (intro _ _; go_simp; try with_reducible rfl)
      case tr10 =>
      simp only [Act.put, List.setIfInBounds_toArray, List.set_cons_succ, List.set_cons_zero]
      refine held_take 6 (v := ?tv11) rfl (by kernel_rfl) (by kernel_rfl) (by kernel_rfl) (fun _ _ _ h => h) (.inl ⟨rfl, ?ty11⟩) hS0 ?tr11
      case ty11 => (intro _ _; go_simp; try with_reducible rfl)
      case tr11 =>
      simp only [Act.put, List.setIfInBounds_toArray, List.set_cons_succ, List.set_cons_zero]
      have hwk : IntKind.i64.wrap ((k : Int) + 1) = ((k + 1 : Nat) : Int) := by rw [IntWalk.i64_in _ (by omega)]; omega
      rw [hwk]
      clear hwk
      refine held_take 7 (v := _) rfl (by kernel_rfl) (by kernel_rfl) (by kernel_rfl) (fun _ _ _ h => h) (yieldsI_run rfl (fun w1 _ => exec_index (i := k + 1) rfl rfl rfl Try.underlying39 size_str hlt w1)) hS0 ?_
      simp only [Act.put, List.setIfInBounds_toArray, List.set_cons_succ, List.set_cons_zero]
      refine held_take 8 (v := _) rfl (by kernel_rfl) (by kernel_rfl) (by kernel_rfl) (fun _ _ _ h => h) (yieldsI_run rfl (fun w1 h => exec_load_oneU rfl rfl (hcy w1 h) one_str)) hS0 ?_
      simp only [Act.put, List.setIfInBounds_toArray, List.set_cons_succ, List.set_cons_zero]
      refine held_take 9 (v := ?tv12) rfl (by kernel_rfl) (by kernel_rfl) (by kernel_rfl) (fun _ _ _ h => h) (.inl ⟨rfl, ?ty12⟩) hS0 ?tr12
      case ty12 => (intro _ _; go_simp; try with_reducible rfl)
      case tr12 =>
      simp only [Act.put, List.setIfInBounds_toArray, List.set_cons_succ, List.set_cons_zero]
      refine wpAnyH_done (by kernel_rfl) ?_ _
      have E2 := hid (E1.out.ext ((HCC.out _).1 hS0))
      clear hS0 hcx hcy hCx hCA HCC HCX HCY
      have hlq : Op.bytesLess x.toList y.toList = lessS x y := rfl
      rw [hlq]
      clear hlq
      cases hq : lessS x y with
      | true =>
        have HR2 := hid (HST.out hq)
        clear hq HST HFF
        go_wp2
        go_roundw
        case rel => exact ⟨k + 1, by omega, by go_num, HR2.out, E2.out⟩
        case measure => simp [intOf]; omega
      | false =>
        have HRES := hid (HFF.out hq)
        clear hq HST HFF
        go_wp2
        go_ret
        exact ⟨by rw [HRES.out]; rfl, E2.out⟩
    · have d1 : decide ((k : Int) < (n : Int) - 1) = false := decide_eq_false (by omega)
      have hres : risB ls = true := risB_true HN.out (fun i x y hi => HPR.out i x y (by omega))
      have HRES := hid hres
      clear hres
      go_wp2
      go_ret
      exact ⟨by rw [HRES.out]; rfl, E1.out⟩
end

section
open Go Go.RowKit

structure AskR where
  actor : List UInt8
  sa : Option Addr
  sn : Nat
  sc : Nat
  roles : List ByteArray
  act : Int
  label : ByteArray
  key : List UInt8
  time : Int
  detail : List UInt8
def AskR.v (a : AskR) : List Value := a.actor.map u8v ++ (.slice a.sa a.sn a.sc :: .int .i64 a.act :: .string a.label :: (a.key.map u8v ++ (.int .i64 a.time :: a.detail.map u8v)))
structure AskR.Ok (w : World) (a : AskR) : Prop where
  ha : a.actor.length = 16
  hk : a.key.length = 16
  hd : a.detail.length = 32
  sl : a.roles.length = a.sn
  snc : a.sn ≤ a.sc
  sm : a.sc ≤ 140737488355328
  scell : Cells w a.sa (a.roles.map encS)
  ss : ∀ s ∈ a.roles, s.size ≤ 140737488355328
  ls : a.label.size ≤ 140737488355328
theorem AskR.Ok.ext {w w' : World} {a : AskR} (h : a.Ok w) (e : Ext w w') : a.Ok w' := ⟨h.ha, h.hk, h.hd, h.sl, h.snc, h.sm, h.scell.ext e, h.ss, h.ls⟩
theorem AskR.len {w : World} {a : AskR} (h : a.Ok w) : a.v.length = 68 := by unfold AskR.v; simp [h.ha, h.hk, h.hd]
theorem AskR.at16 {w : World} {a : AskR} (h : a.Ok w) : a.v[16]? = some (.slice a.sa a.sn a.sc) := by
  unfold AskR.v; rw [List.getElem?_append_right (by simp [h.ha])]; simp [h.ha]
theorem AskR.at17 {w : World} {a : AskR} (h : a.Ok w) : a.v[17]? = some (.int .i64 a.act) := by
  unfold AskR.v; rw [List.getElem?_append_right (by simp [h.ha])]; simp [h.ha]
theorem AskR.at18 {w : World} {a : AskR} (h : a.Ok w) : a.v[18]? = some (.string a.label) := by
  unfold AskR.v; rw [List.getElem?_append_right (by simp [h.ha])]; simp [h.ha]
theorem AskR.at35 {w : World} {a : AskR} (h : a.Ok w) : a.v[35]? = some (.int .i64 a.time) := by
  unfold AskR.v; rw [List.getElem?_append_right (by simp [h.ha])]
  simp only [List.length_map, h.ha]
  show (Value.slice a.sa a.sn a.sc :: .int .i64 a.act :: .string a.label :: (a.key.map u8v ++ (.int .i64 a.time :: a.detail.map u8v)))[19]? = _
  rw [List.getElem?_cons_succ, List.getElem?_cons_succ, List.getElem?_cons_succ, List.getElem?_append_right (by simp [h.hk])]
  simp [h.hk]
def j5 (a : AskR) : Bool := !emptyB a.label && badS a.label
def j6 (a : AskR) : Bool := decide (a.time < 0) || decide (1099511627776 < a.time)
noncomputable def askE (a : AskR) : Int := if badA a.act then 3 else if decide ((16 : Int) < (a.sn : Int)) then 5 else if a.roles.any badS then 6 else if !risB a.roles then 9 else if j5 a then 6 else if j6 a then 4 else 0

set_option maxRecDepth 100000 in
set_option maxHeartbeats 2000000 in
theorem checkAsk_c (a : AskR) (w : World) (hr : a.Ok w) :
    Calls Try.prog 27 #[.agg a.v.toArray] w fun e w' => e = .returned (.int .i64 (askE a)) ∧ Ext w w' := by
  have hf1 := hid (fun w' => isAct_c a.act w')
  have hf2 := hid (fun w' (h : a.Ok w') => containsFS_c badS 48 #[] a.roles a.sa a.sn a.sc w' (enters_ofU Try.func48 (by kernel_rfl) rfl) h.sl (by have := h.snc; have := h.sm; omega) h.scell (fun y hy w2 _ => (notName_p y w2 (h.ss y hy)).mono fun e w3 ⟨he, hw⟩ => ⟨he, hw ▸ Ext.refl _⟩))
  have hf3 := hid (fun w' (h : a.Ok w') => rising_c a.roles a.sa a.sn a.sc w' h.sl (by have := h.snc; have := h.sm; omega) h.scell)
  have hf4 := hid (fun w' => notName_p a.label w' hr.ls)
  have hf5 := hid (fun w' => outsideP_c a.time 0 1099511627776 w')
  have HR := hid hr
  have H16 := hid (AskR.at16 hr)
  have H17 := hid (AskR.at17 hr)
  have H18 := hid (AskR.at18 hr)
  have H35 := hid (AskR.at35 hr)
  clear hr
  go_enter Try.func27, Try.ntmps27
  go_upto_region 1 with (fail)
  generalize hwA : World.alloc w _ = wA
  have bA : Blk wA w.heap.size a.v 42 := by rw [← hwA]; exact Blk.mk_alloc rfl rfl
  have eA : Ext w wA := by rw [← hwA]; exact (Ext.refl w).alloc _
  have BA := hid bA
  have EA := hid eA
  have HRA := hid (HR.out.ext eA)
  clear hwA bA eA
  have c17 := BA.out.cell' H17.out
  have c16 := BA.out.cell' H16.out
  have hbA : badA a.act = !actB a.act := rfl
  have HBA := hid hbA
  clear hbA
  go_wp2_with fail
  refine (hf1.out _).mono ?_
  rintro e w2 ⟨rfl, rfl⟩
  cases h1 : actB a.act with
  | false =>
    rw [h1] at HBA
    go_wp2
    go_ret
    exact ⟨by unfold askE; rw [HBA.out]; rfl, EA.out⟩
  | true =>
  rw [h1] at HBA
  clear hf1
  by_cases h2 : (16 : Int) < (a.sn : Int)
  · have d1 : decide ((16 : Int) < (a.sn : Int)) = true := decide_eq_true h2
    have d2 : decide (16 < a.sn) = true := decide_eq_true (by omega)
    go_wp2
    go_ret
    exact ⟨by unfold askE; rw [HBA.out, d1]; rfl, EA.out⟩
  have d1 : decide ((16 : Int) < (a.sn : Int)) = false := decide_eq_false h2
  have d2 : decide (16 < a.sn) = false := decide_eq_false (by omega)
  have D1 := hid d1
  clear h2
  go_wp2_with fail
  refine (hf2.out wA HRA.out).mono ?_
  rintro e wB ⟨rfl, eB⟩
  have BB := hid (BA.out.ext eB)
  have EB := hid (EA.out.ext eB)
  have HRB := hid (HRA.out.ext eB)
  clear eB BA EA HRA
  clear c16 c17 hf2
  cases h3 : a.roles.any badS with
  | true =>
    go_wp2
    go_ret
    exact ⟨by unfold askE; rw [HBA.out, D1.out, h3]; rfl, EB.out⟩
  | false =>
  have H3 := hid h3
  clear h3
  have c16 := BB.out.cell' H16.out
  go_wp2_with fail
  refine (hf3.out wB HRB.out).mono ?_
  rintro e wC ⟨rfl, eC⟩
  have BC := hid (BB.out.ext eC)
  have EC := hid (EB.out.ext eC)
  have HRC := hid (HRB.out.ext eC)
  clear eC BB EB HRB
  clear c16 hf3
  cases h4 : risB a.roles with
  | false =>
    go_wp2
    go_ret
    exact ⟨by unfold askE; rw [HBA.out, D1.out, H3.out, h4]; rfl, EC.out⟩
  | true =>
  have H4 := hid h4
  clear h4
  have c18 := BC.out.cell' H18.out
  have c35 := BC.out.cell' H35.out
  go_upto_region 9 with (fail)
  go_cut [22] (fun v wx => v = .bool (j5 a) ∧ wx = wC)
  case first =>
    have hj := hid (show j5 a = (!a.label.toList.isEmpty && !isNameL a.label.data.toList) from rfl)
    generalize isNameL a.label.data.toList = nm at *
    generalize hk : j5 a = kk at *
    clear hk
    cases he : a.label.toList.isEmpty with
    | true =>
      have e2 : a.label.toList = [] := List.isEmpty_iff.1 he
      rw [he] at hj
      have hv := hj.out
      simp at hv
      subst hv
      clear hj
      go_wp2
      go_meet
      exact ⟨by first | rfl | simp, rfl⟩
    | false =>
      have e2 : a.label.toList ≠ [] := fun h => by rw [h] at he; cases he
      rw [he] at hj
      have hv : kk = !nm := by rw [hj.out]; simp
      subst hv
      clear hj
      go_wp2_with fail
      refine (hf4.out _).mono ?_
      rintro e w4 ⟨rfl, rfl⟩
      go_wp2_with fail
      go_meet
      exact ⟨by first | rfl | simp, rfl⟩
  case rest =>
    obtain ⟨rfl, rfl⟩ := hcut
    cases h5 : j5 a with
    | true =>
      go_wp2
      go_ret
      exact ⟨by unfold askE; rw [HBA.out, D1.out, H3.out, H4.out, h5]; rfl, EC.out⟩
    | false =>
    have H5 := hid h5
    clear h5
    have hj6 : (decide (a.time < 0) || decide (1099511627776 < a.time)) = j6 a := rfl
    rw [hj6] at hf5
    clear hj6
    cases h6 : j6 a with
    | true =>
      rw [h6] at hf5
      go_wp2_with fail
      refine (hf5.out _).mono ?_
      rintro e w4 ⟨rfl, rfl⟩
      go_wp2
      go_ret
      exact ⟨by unfold askE; rw [HBA.out, D1.out, H3.out, H4.out, H5.out, h6]; rfl, EC.out⟩
    | false =>
      rw [h6] at hf5
      go_wp2_with fail
      refine (hf5.out _).mono ?_
      rintro e w4 ⟨rfl, rfl⟩
      go_wp2
      go_ret
      exact ⟨by unfold askE; rw [HBA.out, D1.out, H3.out, H4.out, H5.out, h6]; rfl, EC.out⟩
end

section
open Go Go.RowKit

set_option maxRecDepth 100000 in
set_option maxHeartbeats 2000000 in
theorem rcheckAsk_c (a : AskR) (w : World) (hr : a.Ok w) :
    Calls Try.prog 22 #[.agg a.v.toArray] w fun e w' => e = .returned (.int .i64 (askE a)) ∧ Ext w w' := by
  have hf2 := hid (fun w' (h : a.Ok w') => containsFS_c badS 62 #[] a.roles a.sa a.sn a.sc w' (enters_ofU Try.func62 (by kernel_rfl) rfl) h.sl (by have := h.snc; have := h.sm; omega) h.scell (fun y hy w2 _ => ask1_c y w2 (h.ss y hy)))
  have hf3 := hid (fun w' (h : a.Ok w') => rrising_c a.roles a.sa a.sn a.sc w' h.sl (by have := h.snc; have := h.sm; omega) h.scell)
  have hf4 := hid (fun w' => risName_c a.label w' (by have := hr.ls; omega))
  have HR := hid hr
  have H16 := hid (AskR.at16 hr)
  have H17 := hid (AskR.at17 hr)
  have H18 := hid (AskR.at18 hr)
  have H35 := hid (AskR.at35 hr)
  clear hr
  go_enter Try.func22, Try.ntmps22
  go_upto_region 1 with (fail)
  generalize hwA : World.alloc w _ = wA
  have bA : Blk wA w.heap.size a.v 42 := by rw [← hwA]; exact Blk.mk_alloc rfl rfl
  have eA : Ext w wA := by rw [← hwA]; exact (Ext.refl w).alloc _
  have BA := hid bA
  have EA := hid eA
  have HRA := hid (HR.out.ext eA)
  clear hwA bA eA
  have c17 := BA.out.cell' H17.out
  have c16 := BA.out.cell' H16.out
  by_cases hl : a.act < 1
  · have d1 : decide (a.act < 1) = true := decide_eq_true hl
    have hb : badA a.act = true := by unfold badA actB; rw [decide_eq_false (show ¬ 1 ≤ a.act by omega)]; rfl
    have HB := hid hb
    clear hb
    go_wp2
    go_ret
    exact ⟨by unfold askE; rw [HB.out]; rfl, EA.out⟩
  have d1 : decide (a.act < 1) = false := decide_eq_false hl
  by_cases hg : 12 < a.act
  · have d2 : decide (12 < a.act) = true := decide_eq_true hg
    have hb : badA a.act = true := by unfold badA actB; rw [decide_eq_false (show ¬ a.act ≤ 12 by omega), Bool.and_false]; rfl
    have HB := hid hb
    clear hb
    go_wp2
    go_ret
    exact ⟨by unfold askE; rw [HB.out]; rfl, EA.out⟩
  have d3 : decide (12 < a.act) = false := decide_eq_false hg
  have hb : badA a.act = false := by unfold badA actB; rw [decide_eq_true (show 1 ≤ a.act by omega), decide_eq_true (show a.act ≤ 12 by omega)]; rfl
  have HBA := hid hb
  clear hb hl hg
  go_upto_region 3 with (fail)
  clear d1 d3
  by_cases h2 : (16 : Int) < (a.sn : Int)
  · have d1 : decide ((16 : Int) < (a.sn : Int)) = true := decide_eq_true h2
    have d2 : decide (16 < a.sn) = true := decide_eq_true (by omega)
    go_wp2
    go_ret
    exact ⟨by unfold askE; rw [HBA.out, d1]; rfl, EA.out⟩
  have d1 : decide ((16 : Int) < (a.sn : Int)) = false := decide_eq_false h2
  have d2 : decide (16 < a.sn) = false := decide_eq_false (by omega)
  have D1 := hid d1
  clear h2
  go_wp2_with fail
  refine (hf2.out wA HRA.out).mono ?_
  rintro e wB ⟨rfl, eB⟩
  have BB := hid (BA.out.ext eB)
  have EB := hid (EA.out.ext eB)
  have HRB := hid (HRA.out.ext eB)
  clear eB BA EA HRA
  clear c16 c17 hf2
  cases h3 : a.roles.any badS with
  | true =>
    go_wp2
    go_ret
    exact ⟨by unfold askE; rw [HBA.out, D1.out, h3]; rfl, EB.out⟩
  | false =>
  have H3 := hid h3
  clear h3
  have c16 := BB.out.cell' H16.out
  go_wp2_with fail
  refine (hf3.out wB HRB.out).mono ?_
  rintro e wC ⟨rfl, eC⟩
  have BC := hid (BB.out.ext eC)
  have EC := hid (EB.out.ext eC)
  have HRC := hid (HRB.out.ext eC)
  clear eC BB EB HRB
  clear c16 hf3
  cases h4 : risB a.roles with
  | false =>
    go_wp2
    go_ret
    exact ⟨by unfold askE; rw [HBA.out, D1.out, H3.out, h4]; rfl, EC.out⟩
  | true =>
  have H4 := hid h4
  clear h4
  have c18 := BC.out.cell' H18.out
  have c35 := BC.out.cell' H35.out
  go_upto_region 9 with (fail)
  go_cut [26] (fun v wx => v = .bool (j5 a) ∧ Ext wC wx)
  case first =>
    have hj := hid (show j5 a = (!a.label.toList.isEmpty && !isNameL a.label.data.toList) from rfl)
    generalize isNameL a.label.data.toList = nm at *
    generalize hk : j5 a = kk at *
    clear hk
    cases he : a.label.toList.isEmpty with
    | true =>
      have e2 : a.label.toList = [] := List.isEmpty_iff.1 he
      rw [he] at hj
      have hv := hj.out
      simp at hv
      subst hv
      clear hj
      go_wp2
      go_meet
      exact ⟨by first | rfl | simp, Ext.refl _⟩
    | false =>
      have e2 : a.label.toList ≠ [] := fun h => by rw [h] at he; cases he
      rw [he] at hj
      have hv : kk = !nm := by rw [hj.out]; simp
      subst hv
      clear hj
      go_wp2_with fail
      refine (hf4.out _).mono ?_
      rintro e w4 ⟨rfl, e4⟩
      have E4 := hid e4
      clear e4
      go_wp2_with fail
      go_meet
      exact ⟨by first | rfl | simp, E4.out⟩
  case rest =>
    obtain ⟨rfl, eD⟩ := hcut
    have BD := hid (BC.out.ext eD)
    have ED := hid (EC.out.ext eD)
    clear eD BC EC
    clear c18 c35
    cases h5 : j5 a with
    | true =>
      go_wp2
      go_ret
      exact ⟨by unfold askE; rw [HBA.out, D1.out, H3.out, H4.out, h5]; rfl, ED.out⟩
    | false =>
    have H5 := hid h5
    clear h5
    have c35 := BD.out.cell' H35.out
    have hj6 : j6 a = (decide (a.time < 0) || decide (1099511627776 < a.time)) := rfl
    by_cases hl : a.time < 0
    · have d2 : decide (a.time < 0) = true := decide_eq_true hl
      have H6 := hid (show j6 a = true by rw [hj6, d2]; rfl)
      clear hj6
      go_wp2
      go_ret
      exact ⟨by unfold askE; rw [HBA.out, D1.out, H3.out, H4.out, H5.out, H6.out]; rfl, ED.out⟩
    have d2 : decide (a.time < 0) = false := decide_eq_false hl
    by_cases hg : 1099511627776 < a.time
    · have d3 : decide (1099511627776 < a.time) = true := decide_eq_true hg
      have H6 := hid (show j6 a = true by rw [hj6, d2, d3]; rfl)
      clear hj6
      go_wp2
      go_ret
      exact ⟨by unfold askE; rw [HBA.out, D1.out, H3.out, H4.out, H5.out, H6.out]; rfl, ED.out⟩
    have d3 : decide (1099511627776 < a.time) = false := decide_eq_false hg
    have H6 := hid (show j6 a = false by rw [hj6, d2, d3]; rfl)
    clear hj6
    go_wp2
    go_ret
    exact ⟨by unfold askE; rw [HBA.out, D1.out, H3.out, H4.out, H5.out, H6.out]; rfl, ED.out⟩
end

section
open Go Go.RowKit

noncomputable def memT {α : Type} (l : List α) (x : α) : Bool := @decide (x ∈ l) (Classical.propDecidable _)
theorem memT_iff {α : Type} {l : List α} {x : α} : memT l x = true ↔ x ∈ l := by unfold memT; exact @decide_eq_true_iff _ (Classical.propDecidable _)
theorem memT_of {α : Type} {l : List α} {x : α} {b : Bool} (h : b = true ↔ x ∈ l) : b = memT l x := by
  rw [Bool.eq_iff_iff, memT_iff]; exact h
def fitB (l p : ByteArray) : Bool := fitsL p.data.toList l.data.toList
def hoursB (fr tt h : Int) : Bool := if fr = tt then true else if fr < tt then decide (fr ≤ h) && decide (h < tt) else decide (fr ≤ h) || decide (h < tt)
def hourN (T : Nat) : Nat := T % 86400 / 3600
noncomputable def meetsB (r : RuleR) (a : AskR) : Bool := (decide (r.rn = 0) || r.roles.any (memT a.roles)) && (decide (r.an = 0) || memT r.acts a.act) && (decide (r.ln = 0) || r.labels.any (fitB a.label)) && hoursB r.fr r.tt (hourN a.time.toNat)

theorem meets1_c (a : AskR) (g : Nat) (s : ByteArray) (w : World) (hr : a.Ok w) (hb : Blk w g a.v 42) :
    Calls Try.prog 107 #[.string s, .pointer (some ⟨g, 0, none⟩)] w fun e w' => e = .returned (.bool (memT a.roles s)) ∧ Ext w w' := by
  have c16 := hb.cell' (AskR.at16 hr)
  have hc := hid (containsS_c s a.roles a.sa a.sn a.sc w hr.sl (by have := hr.snc; have := hr.sm; omega) hr.scell)
  clear hr hb
  go_enter Try.func107, Try.ntmps107
  go_wp2_with fail
  refine hc.out.mono ?_
  rintro e w1 ⟨b, rfl, hb, rfl⟩
  have HB := hid (memT_of hb)
  clear hb hc
  go_wp2_with fail
  go_ret
  exact ⟨by rw [← HB.out]; rfl, Ext.refl _⟩
theorem rmeets1_c (a : AskR) (g : Nat) (s : ByteArray) (w : World) (hr : a.Ok w) (hb : Blk w g a.v 42) :
    Calls Try.prog 79 #[.string s, .pointer (some ⟨g, 0, none⟩)] w fun e w' => e = .returned (.bool (memT a.roles s)) ∧ Ext w w' := by
  have c16 := hb.cell' (AskR.at16 hr)
  have hc := hid (containsS_c s a.roles a.sa a.sn a.sc w hr.sl (by have := hr.snc; have := hr.sm; omega) hr.scell)
  clear hr hb
  go_enter Try.func79, Try.ntmps79
  go_wp2_with fail
  refine hc.out.mono ?_
  rintro e w1 ⟨b, rfl, hb, rfl⟩
  have HB := hid (memT_of hb)
  clear hb hc
  go_wp2_with fail
  go_ret
  exact ⟨by rw [← HB.out]; rfl, Ext.refl _⟩
theorem meets2_c (a : AskR) (g : Nat) (s : ByteArray) (w : World) (hr : a.Ok w) (hs : s.size ≤ 140737488355328) (hb : Blk w g a.v 42) :
    Calls Try.prog 108 #[.string s, .pointer (some ⟨g, 0, none⟩)] w fun e w' => e = .returned (.bool (fitB a.label s)) ∧ Ext w w' := by
  have c18 := hb.cell' (AskR.at18 hr)
  have hc := hid (fits_p s a.label w hs)
  unfold fitB
  generalize fitsL s.data.toList a.label.data.toList = b at *
  clear hr hb hs
  go_enter Try.func108, Try.ntmps108
  go_wp2_with fail
  refine hc.out.mono ?_
  rintro e w1 ⟨rfl, rfl⟩
  go_wp2_with fail
  go_ret
  exact ⟨rfl, Ext.refl _⟩

/-- a pattern other than the star fits no empty label -/
theorem fits_empty {p : List UInt8} (h : patL p = true) (hs : p ≠ [42]) : fitsL p [] = false := by
  unfold fitsL
  unfold patL at h
  cases hst : starL p with
  | true =>
    rw [if_pos rfl]
    rw [hst] at h
    unfold starL at hst
    obtain ⟨t, ht⟩ : ∃ t, t ++ [42] = p := List.isSuffixOf_iff_suffix.1 hst
    have hh : headL p = t := by unfold headL Lib.trimSuffix; rw [if_pos hst, ← ht]; simp
    rw [hh]
    cases t with
    | nil => exact absurd ht.symm hs
    | cons x t => rfl
  | false =>
    rw [if_neg (by simp)]
    rw [hst] at h
    cases p with
    | nil => revert h; decide
    | cons x t => rfl

theorem rmeets2_c (a : AskR) (g : Nat) (s : ByteArray) (w : World) (hr : a.Ok w) (hs : s.size ≤ 140737488355328) (hp : patL s.data.toList = true) (hb : Blk w g a.v 42) :
    Calls Try.prog 81 #[.string s, .pointer (some ⟨g, 0, none⟩)] w fun e w' => e = .returned (.bool (fitB a.label s)) ∧ Ext w w' := by
  have c18 := hb.cell' (AskR.at18 hr)
  have hc := hid (rfits_c s a.label w hs)
  have hem : a.label.toList = [] → s.toList ≠ [42] → fitsL s.data.toList a.label.data.toList = false := fun h1 h2 => by
    rw [Lib.toList_data] at h1 h2
    rw [h1]; exact fits_empty hp h2
  have HEM := hid hem
  unfold fitB
  generalize fitsL s.data.toList a.label.data.toList = b at *
  clear hr hb hs hp hem
  cases he : a.label.toList.isEmpty with
  | false =>
    have e2 : a.label.toList ≠ [] := fun h => by rw [h] at he; cases he
    clear HEM
    go_enter Try.func81, Try.ntmps81
    go_wp2_with fail
    refine hc.out.mono ?_
    rintro e w1 ⟨rfl, rfl⟩
    go_wp2_with fail
    go_ret
    exact ⟨by first | rfl | simp, Ext.refl _⟩
  | true =>
    have e2 : a.label.toList = [] := List.isEmpty_iff.1 he
    by_cases hs : s.toList = [42]
    · have q1 : (s.toList == [42]) = true := by simp [hs]
      have q2 : decide (s.toList = [42]) = true := decide_eq_true hs
      clear HEM
      go_enter Try.func81, Try.ntmps81
      go_wp2_with fail
      refine hc.out.mono ?_
      rintro e w1 ⟨rfl, rfl⟩
      go_wp2_with fail
      go_ret
      exact ⟨by first | rfl | simp, Ext.refl _⟩
    · have q1 : (s.toList == [42]) = false := by simp [hs]
      have q2 : decide (s.toList = [42]) = false := decide_eq_false hs
      have hb := HEM.out e2 hs
      subst hb
      clear HEM hc
      go_enter Try.func81, Try.ntmps81
      go_wp2_with fail
      go_ret
      exact ⟨by first | rfl | simp, Ext.refl _⟩

set_option maxHeartbeats 1000000 in
theorem inHours_c (r : RuleR) (h : Int) (w : World) :
    Calls Try.prog 109 #[.agg r.v.toArray, .int .i64 h] w fun e w' => e = .returned (.bool (hoursB r.fr r.tt h)) ∧ Ext w w' := by
  obtain ⟨X, hX⟩ : ∃ X, hoursB r.fr r.tt h = X := ⟨_, rfl⟩
  have HX := hid hX
  rw [hX]
  clear hX
  go_enter Try.func109, Try.ntmps109
  go_upto_region 1 with (fail)
  generalize hwA : World.alloc w _ = wA
  have bA : Blk wA w.heap.size r.v 50 := by rw [← hwA]; exact Blk.mk_alloc rfl rfl
  have eA : Ext w wA := by rw [← hwA]; exact (Ext.refl w).alloc _
  have EA := hid eA
  have c4 := bA.cell' (i := 4) rfl
  have c5 := bA.cell' (i := 5) rfl
  clear hwA bA eA
  by_cases hft : r.fr = r.tt
  · have q1 : decide (r.fr = r.tt) = true := decide_eq_true hft
    have q2 : (r.fr == r.tt) = true := by simp [hft]
    have HR := hid (show X = true by rw [← HX.out]; unfold hoursB; rw [if_pos hft])
    clear hft
    go_wp2
    go_ret
    exact ⟨by rw [HR.out]; rfl, EA.out⟩
  · have q1 : decide (r.fr = r.tt) = false := decide_eq_false hft
    have q2 : (r.fr == r.tt) = false := by simp [hft]
    by_cases hlt : r.fr < r.tt
    · have q3 : decide (r.fr < r.tt) = true := decide_eq_true hlt
      have HR := hid (show X = (decide (r.fr ≤ h) && decide (h < r.tt)) by rw [← HX.out]; unfold hoursB; rw [if_neg hft, if_pos hlt])
      clear hft hlt
      by_cases h1 : r.fr ≤ h
      · have q4 : decide (r.fr ≤ h) = true := decide_eq_true h1
        go_wp2
        go_ret
        exact ⟨by rw [HR.out]; first | rfl | (rw [q4]; rfl) | simp [h1], EA.out⟩
      · have q4 : decide (r.fr ≤ h) = false := decide_eq_false h1
        go_wp2
        go_ret
        exact ⟨by rw [HR.out]; first | rfl | (rw [q4]; rfl) | simp [h1], EA.out⟩
    · have q3 : decide (r.fr < r.tt) = false := decide_eq_false hlt
      have HR := hid (show X = (decide (r.fr ≤ h) || decide (h < r.tt)) by rw [← HX.out]; unfold hoursB; rw [if_neg hft, if_neg hlt])
      clear hft hlt
      by_cases h1 : r.fr ≤ h
      · have q4 : decide (r.fr ≤ h) = true := decide_eq_true h1
        go_wp2
        go_ret
        exact ⟨by rw [HR.out]; first | rfl | (rw [q4]; rfl) | simp [h1], EA.out⟩
      · have q4 : decide (r.fr ≤ h) = false := decide_eq_false h1
        go_wp2
        go_ret
        exact ⟨by rw [HR.out]; first | rfl | (rw [q4]; rfl) | simp [h1], EA.out⟩
end

section
open Go Go.RowKit

theorem agg_rule : AggT Try.prog 50 8 := ⟨⟨_, Try.underlying50, rfl⟩, by kernel_rfl⟩
theorem agg_ask : AggT Try.prog 42 68 := ⟨⟨_, Try.underlying42, rfl⟩, by kernel_rfl⟩

set_option maxRecDepth 100000 in
set_option maxHeartbeats 2000000 in
theorem meets_c (r : RuleR) (a : AskR) (T : Nat) (w : World) (hr : r.Ok w) (ha : a.Ok w) (hT : a.time = (T : Int)) (hTb : T ≤ 1099511627776) :
    Calls Try.prog 71 #[.agg r.v.toArray, .agg a.v.toArray] w fun e w' => e = .returned (.bool (meetsB r a)) ∧ Ext w w' := by
  have hrem : IntKind.i64.wrap ((T : Int).tmod 86400) = ((T % 86400 : Nat) : Int) := by rw [show (T : Int).tmod 86400 = ((T % 86400 : Nat) : Int) by rw [Int.tmod_eq_emod_of_nonneg (by omega)]; omega, IntWalk.i64_in _ (by omega)]
  have hquo : IntKind.i64.wrap (((T % 86400 : Nat) : Int).tdiv 3600) = ((T % 86400 / 3600 : Nat) : Int) := by rw [show ((T % 86400 : Nat) : Int).tdiv 3600 = ((T % 86400 / 3600 : Nat) : Int) by rw [Int.tdiv_eq_ediv_of_nonneg (by omega)]; omega, IntWalk.i64_in _ (by omega)]
  have hhn : hourN a.time.toNat = T % 86400 / 3600 := by rw [hT]; rfl
  have HHN := hid hhn
  have HREM := hid hrem
  have HQUO := hid hquo
  have HR := hid hr
  have HA := hid ha
  have H16 := hid (AskR.at16 ha)
  have H17 := hid (AskR.at17 ha)
  have H18 := hid (AskR.at18 ha)
  have H35 := hid (AskR.at35 ha)
  rw [hT] at H35
  have HLEN := hid (AskR.len ha)
  obtain ⟨x1, hx1⟩ : ∃ x1, (decide (r.rn = 0) || r.roles.any (memT a.roles)) = x1 := ⟨_, rfl⟩
  obtain ⟨x2, hx2⟩ : ∃ x2, (decide (r.an = 0) || memT r.acts a.act) = x2 := ⟨_, rfl⟩
  obtain ⟨x3, hx3⟩ : ∃ x3, (decide (r.ln = 0) || r.labels.any (fitB a.label)) = x3 := ⟨_, rfl⟩
  obtain ⟨x4, hx4⟩ : ∃ x4, hoursB r.fr r.tt (hourN a.time.toNat) = x4 := ⟨_, rfl⟩
  have HM := hid (show meetsB r a = (x1 && x2 && x3 && x4) by unfold meetsB; rw [hx1, hx2, hx3, hx4])
  have hih := hid (fun w' => inHours_c r ((T % 86400 / 3600 : Nat) : Int) w')
  rw [hhn] at hx4
  rw [hx4] at hih
  have HX1 := hid hx1
  have HX2 := hid hx2
  have HX3 := hid hx3
  clear hr ha hT hTb hrem hquo hhn hx1 hx2 hx3 hx4
  obtain ⟨M, hM⟩ : ∃ M, meetsB r a = M := ⟨_, rfl⟩
  rw [hM] at HM
  rw [hM]
  clear hM
  go_enter Try.func71, Try.ntmps71
  go_upto_region 1 with (fail)
  generalize hwA : World.alloc (World.alloc w _) _ = wA
  have bA : Blk wA w.heap.size r.v 50 := by rw [← hwA]; exact (Blk.mk_alloc rfl rfl).alloc _
  have gA : Blk wA (w.heap.size + 1) a.v 42 := by rw [← hwA]; exact Blk.mk_alloc (by simp) rfl
  have eA : Ext w wA := by rw [← hwA]; exact ((Ext.refl w).alloc _).alloc _
  have BA := hid bA
  have GA := hid gA
  have EA := hid eA
  have RA := hid (HR.out.ext eA)
  have QA := hid (HA.out.ext eA)
  clear hwA bA gA eA HR HA
  go_cut [5] (fun v wx => v = .bool x1 ∧ Ext wA wx)
  case first =>
    have c1 := BA.out.cell' (i := 1) rfl
    by_cases h0 : r.rn = 0
    · have q1 : decide (r.rn = 0) = true := decide_eq_true h0
      have q2 : (r.rn == 0) = true := by simp [h0]
      have q3 : decide ((r.rn : Int) = 0) = true := decide_eq_true (by omega)
      have hx := HX1.out
      rw [q1, Bool.true_or] at hx
      subst hx
      go_wp2
      go_meet
      exact ⟨by first | rfl | simp, Ext.refl _⟩
    · have q1 : decide (r.rn = 0) = false := decide_eq_false h0
      have q2 : (r.rn == 0) = false := by simp [h0]
      have q3 : decide ((r.rn : Int) = 0) = false := decide_eq_false (by omega)
      have hx := HX1.out
      rw [q1, Bool.false_or] at hx
      have hcf := hid (containsFS_c (memT a.roles) 107 #[.pointer (some ⟨w.heap.size + 1, 0, none⟩)] r.roles r.ra r.rn r.rc wA (enters_ofU Try.func107 (by kernel_rfl) rfl) RA.out.rl (by have := RA.out.rnc; have := RA.out.rm; omega) RA.out.rcell (fun y hy w2 e2 => meets1_c a (w.heap.size + 1) y w2 (QA.out.ext e2) (GA.out.ext e2)))
      rw [hx] at hcf
      clear hx
      go_wp2_with fail
      refine hcf.out.mono ?_
      rintro e wB ⟨rfl, eB⟩
      have EB := hid eB
      clear eB hcf
      go_wp2_with fail
      go_meet
      exact ⟨by first | rfl | (simp; done) | (simp; intro h; exact absurd h h0), EB.out⟩
  case rest =>
    obtain ⟨rfl, eB⟩ := hcut
    have BB := hid (BA.out.ext eB)
    have GB := hid (GA.out.ext eB)
    have EB := hid (EA.out.ext eB)
    have RB := hid (RA.out.ext eB)
    have QB := hid (QA.out.ext eB)
    clear eB BA GA EA RA QA
    go_upto_region 2 with (fail)
    go_cut [6] (fun v wx => v = .bool x2 ∧ wx = wc)
    case first =>
      have c2 := BB.out.cell' (i := 2) rfl
      have c17 := GB.out.cell' H17.out
      by_cases h0 : r.an = 0
      · have q1 : decide (r.an = 0) = true := decide_eq_true h0
        have q2 : (r.an == 0) = true := by simp [h0]
        have q3 : decide ((r.an : Int) = 0) = true := decide_eq_true (by omega)
        have hx := HX2.out
        rw [q1, Bool.true_or] at hx
        subst hx
        go_wp2
        go_meet
        exact ⟨by first | rfl | (simp; done) | (simp; intro h; exact absurd h h0), rfl⟩
      · have q1 : decide (r.an = 0) = false := decide_eq_false h0
        have q2 : (r.an == 0) = false := by simp [h0]
        have q3 : decide ((r.an : Int) = 0) = false := decide_eq_false (by omega)
        have hx := HX2.out
        rw [q1, Bool.false_or] at hx
        have HXX := hid hx
        have hcf := hid (containsI_c a.act r.acts r.aa r.an r.ac wc RB.out.al (by have := RB.out.anc; have := RB.out.am; omega) RB.out.acell)
        clear hx
        go_wp2_with fail
        refine hcf.out.mono ?_
        rintro e wD ⟨b, rfl, hb, rfl⟩
        have hbx : b = x2 := (memT_of hb).trans HXX.out
        subst hbx
        clear hb hcf
        go_wp2_with fail
        go_meet
        exact ⟨by first | rfl | (simp; done) | (simp; intro h; exact absurd h h0), rfl⟩
    case rest =>
      obtain ⟨rfl, rfl⟩ := hcut
      obtain ⟨wP, hwP⟩ : ∃ wP, wP = wc := ⟨_, rfl⟩
      go_upto_region 3 with (fail)
      go_cut [7] (fun v wx => v = .bool x3 ∧ Ext wc wx)
      case first =>
        clear hwP
        have c3 := BB.out.cell' (i := 3) rfl
        by_cases h0 : r.ln = 0
        · have q1 : decide (r.ln = 0) = true := decide_eq_true h0
          have q2 : (r.ln == 0) = true := by simp [h0]
          have q3 : decide ((r.ln : Int) = 0) = true := decide_eq_true (by omega)
          have hx := HX3.out
          rw [q1, Bool.true_or] at hx
          subst hx
          go_wp2
          go_meet
          exact ⟨by first | rfl | simp, Ext.refl _⟩
        · have q1 : decide (r.ln = 0) = false := decide_eq_false h0
          have q2 : (r.ln == 0) = false := by simp [h0]
          have q3 : decide ((r.ln : Int) = 0) = false := decide_eq_false (by omega)
          have hx := HX3.out
          rw [q1, Bool.false_or] at hx
          have hcf := hid (containsFS_c (fitB a.label) 108 #[.pointer (some ⟨w.heap.size + 1, 0, none⟩)] r.labels r.la r.ln r.lc wc (enters_ofU Try.func108 (by kernel_rfl) rfl) RB.out.ll (by have := RB.out.lnc; have := RB.out.lm; omega) RB.out.lcell (fun y hy w2 e2 => meets2_c a (w.heap.size + 1) y w2 (QB.out.ext e2) (RB.out.ls y hy) (GB.out.ext e2)))
          rw [hx] at hcf
          clear hx
          go_wp2_with fail
          refine hcf.out.mono ?_
          rintro e wD ⟨rfl, eD⟩
          have ED := hid eD
          clear eD hcf
          go_wp2_with fail
          go_meet
          exact ⟨by first | rfl | (simp; done) | (simp; intro h; exact absurd h h0), ED.out⟩
      case rest =>
        obtain ⟨rfl, eC⟩ := hcut
        subst hwP
        have BC := hid (BB.out.ext eC)
        have GC := hid (GB.out.ext eC)
        have EC := hid (EB.out.ext eC)
        have HRV := hid (RuleR.len r)
        clear eC BB GB EB RB QB HX1 HX2 HX3
        have c35 := GC.out.cell' H35.out
        have hrem := HREM.out
        have hquo := HQUO.out
        have hm := HM.out
        clear HM
        cases x1 with
        | false =>
          simp at hm
          subst hm
          go_wp2
          go_ret
          exact ⟨rfl, EC.out⟩
        | true =>
        cases x2 with
        | false =>
          simp at hm
          subst hm
          go_wp2
          go_ret
          exact ⟨rfl, EC.out⟩
        | true =>
        cases x3 with
        | false =>
          simp at hm
          subst hm
          go_wp2
          go_ret
          exact ⟨rfl, EC.out⟩
        | true =>
          simp at hm
          subst hm
          have c0 := BC.out.cell' (i := 0) rfl
          have c1 := BC.out.cell' (i := 1) rfl
          have c2 := BC.out.cell' (i := 2) rfl
          have c3 := BC.out.cell' (i := 3) rfl
          have c4 := BC.out.cell' (i := 4) rfl
          have c5 := BC.out.cell' (i := 5) rfl
          have c6 := BC.out.cell' (i := 6) rfl
          have c7 := BC.out.cell' (i := 7) rfl
          go_wp2_with fail
          refine (hih.out _).mono ?_
          rintro e wD ⟨rfl, eD⟩
          have ED := hid (EC.out.ext eD)
          clear eD
          go_wp2_with fail
          go_ret
          exact ⟨by first | rfl | simp, ED.out⟩
end

section
open Go Go.RowKit

set_option maxRecDepth 100000 in
set_option maxHeartbeats 2000000 in
theorem rmeets_c (r : RuleR) (a : AskR) (T : Nat) (w : World) (hr : r.Ok w) (ha : a.Ok w) (hT : a.time = (T : Int)) (hTb : T ≤ 1099511627776) (hlab : ∀ s ∈ r.labels, patL s.data.toList = true) (hfz : r.fr = r.tt → r.fr = 0) :
    Calls Try.prog 31 #[.agg r.v.toArray, .agg a.v.toArray] w fun e w' => e = .returned (.bool (meetsB r a)) ∧ Ext w w' := by
  have hrem : IntKind.i64.wrap ((T : Int).tmod 86400) = ((T % 86400 : Nat) : Int) := by rw [show (T : Int).tmod 86400 = ((T % 86400 : Nat) : Int) by rw [Int.tmod_eq_emod_of_nonneg (by omega)]; omega, IntWalk.i64_in _ (by omega)]
  have hquo : IntKind.i64.wrap (((T % 86400 : Nat) : Int).tdiv 3600) = ((T % 86400 / 3600 : Nat) : Int) := by rw [show ((T % 86400 : Nat) : Int).tdiv 3600 = ((T % 86400 / 3600 : Nat) : Int) by rw [Int.tdiv_eq_ediv_of_nonneg (by omega)]; omega, IntWalk.i64_in _ (by omega)]
  have hhn : hourN a.time.toNat = T % 86400 / 3600 := by rw [hT]; rfl
  have HHN := hid hhn
  have HREM := hid hrem
  have HQUO := hid hquo
  have HR := hid hr
  have HA := hid ha
  have H16 := hid (AskR.at16 ha)
  have H17 := hid (AskR.at17 ha)
  have H18 := hid (AskR.at18 ha)
  have H35 := hid (AskR.at35 ha)
  rw [hT] at H35
  have HLEN := hid (AskR.len ha)
  obtain ⟨x1, hx1⟩ : ∃ x1, (decide (r.rn = 0) || r.roles.any (memT a.roles)) = x1 := ⟨_, rfl⟩
  obtain ⟨x2, hx2⟩ : ∃ x2, (decide (r.an = 0) || memT r.acts a.act) = x2 := ⟨_, rfl⟩
  obtain ⟨x3, hx3⟩ : ∃ x3, (decide (r.ln = 0) || r.labels.any (fitB a.label)) = x3 := ⟨_, rfl⟩
  obtain ⟨x4, hx4⟩ : ∃ x4, hoursB r.fr r.tt (hourN a.time.toNat) = x4 := ⟨_, rfl⟩
  have HM := hid (show meetsB r a = (x1 && x2 && x3 && x4) by unfold meetsB; rw [hx1, hx2, hx3, hx4])
  have HX4 := hid hx4
  rw [hhn] at HX4
  have HX1 := hid hx1
  have HX2 := hid hx2
  have HX3 := hid hx3
  have HLAB := hid hlab
  have HFZ := hid hfz
  clear hlab hfz
  clear hr ha hT hTb hrem hquo hhn hx1 hx2 hx3 hx4
  obtain ⟨M, hM⟩ : ∃ M, meetsB r a = M := ⟨_, rfl⟩
  rw [hM] at HM
  rw [hM]
  clear hM
  go_enter Try.func31, Try.ntmps31
  go_upto_region 1 with (fail)
  generalize hwA : World.alloc (World.alloc w _) _ = wA
  have bA : Blk wA w.heap.size r.v 50 := by rw [← hwA]; exact (Blk.mk_alloc rfl rfl).alloc _
  have gA : Blk wA (w.heap.size + 1) a.v 42 := by rw [← hwA]; exact Blk.mk_alloc (by simp) rfl
  have eA : Ext w wA := by rw [← hwA]; exact ((Ext.refl w).alloc _).alloc _
  have BA := hid bA
  have GA := hid gA
  have EA := hid eA
  have RA := hid (HR.out.ext eA)
  have QA := hid (HA.out.ext eA)
  clear hwA bA gA eA HR HA
  go_cut [16] (fun v wx => v = .bool (!x1) ∧ Ext wA wx)
  case first =>
    have c1 := BA.out.cell' (i := 1) rfl
    by_cases h0 : r.rn = 0
    · have q1 : decide (r.rn = 0) = true := decide_eq_true h0
      have q4 : decide (0 < r.rn) = false := decide_eq_false (by omega)
      have q2 : (r.rn == 0) = true := by simp [h0]
      have q3 : decide ((r.rn : Int) = 0) = true := decide_eq_true (by omega)
      have hx := HX1.out
      rw [q1, Bool.true_or] at hx
      subst hx
      go_wp2
      go_meet
      exact ⟨by first | rfl | simp, Ext.refl _⟩
    · have q1 : decide (r.rn = 0) = false := decide_eq_false h0
      have q4 : decide (0 < r.rn) = true := decide_eq_true (by omega)
      have q2 : (r.rn == 0) = false := by simp [h0]
      have q3 : decide ((r.rn : Int) = 0) = false := decide_eq_false (by omega)
      have hx := HX1.out
      rw [q1, Bool.false_or] at hx
      have hcf := hid (containsFS_c (memT a.roles) 79 #[.pointer (some ⟨w.heap.size + 1, 0, none⟩)] r.roles r.ra r.rn r.rc wA (enters_ofU Try.func79 (by kernel_rfl) rfl) RA.out.rl (by have := RA.out.rnc; have := RA.out.rm; omega) RA.out.rcell (fun y hy w2 e2 => rmeets1_c a (w.heap.size + 1) y w2 (QA.out.ext e2) (GA.out.ext e2)))
      rw [hx] at hcf
      clear hx
      go_wp2_with fail
      refine hcf.out.mono ?_
      rintro e wB ⟨rfl, eB⟩
      have EB := hid eB
      clear eB hcf
      go_wp2_with fail
      go_meet
      exact ⟨by first | rfl | (simp; done) | (simp; intro h; exact absurd h h0), EB.out⟩
  case rest =>
    obtain ⟨rfl, eB⟩ := hcut
    have BB := hid (BA.out.ext eB)
    have GB := hid (GA.out.ext eB)
    have EB := hid (EA.out.ext eB)
    have RB := hid (RA.out.ext eB)
    have QB := hid (QA.out.ext eB)
    clear eB BA GA EA RA QA
    cases x1 with
    | false =>
      have hm1 := HM.out
      simp at hm1
      subst hm1
      go_wp2
      go_ret
      exact ⟨rfl, EB.out⟩
    | true =>
    go_upto_region 3 with (fail)
    go_cut [28] (fun v wx => v = .bool (!x2) ∧ wx = wc)
    case first =>
      have c2 := BB.out.cell' (i := 2) rfl
      have c17 := GB.out.cell' H17.out
      by_cases h0 : r.an = 0
      · have q1 : decide (r.an = 0) = true := decide_eq_true h0
        have q4 : decide (0 < r.an) = false := decide_eq_false (by omega)
        have q2 : (r.an == 0) = true := by simp [h0]
        have q3 : decide ((r.an : Int) = 0) = true := decide_eq_true (by omega)
        have hx := HX2.out
        rw [q1, Bool.true_or] at hx
        subst hx
        go_wp2
        go_meet
        exact ⟨by first | rfl | (simp; done) | (simp; intro h; exact absurd h h0), rfl⟩
      · have q1 : decide (r.an = 0) = false := decide_eq_false h0
        have q4 : decide (0 < r.an) = true := decide_eq_true (by omega)
        have q2 : (r.an == 0) = false := by simp [h0]
        have q3 : decide ((r.an : Int) = 0) = false := decide_eq_false (by omega)
        have hx := HX2.out
        rw [q1, Bool.false_or] at hx
        have HXX := hid hx
        have hcf := hid (containsI_c a.act r.acts r.aa r.an r.ac wc RB.out.al (by have := RB.out.anc; have := RB.out.am; omega) RB.out.acell)
        clear hx
        go_wp2_with fail
        refine hcf.out.mono ?_
        rintro e wD ⟨b, rfl, hb, rfl⟩
        have hbx : b = x2 := (memT_of hb).trans HXX.out
        subst hbx
        clear hb hcf
        go_wp2_with fail
        go_meet
        exact ⟨by first | rfl | (simp; done) | (simp; intro h; exact absurd h h0), rfl⟩
    case rest =>
      obtain ⟨rfl, rfl⟩ := hcut
      obtain ⟨wP, hwP⟩ : ∃ wP, wP = wc := ⟨_, rfl⟩
      cases x2 with
      | false =>
        have hm1 := HM.out
        simp at hm1
        subst hm1
        go_wp2
        go_ret
        exact ⟨rfl, EB.out⟩
      | true =>
      go_upto_region 5 with (fail)
      go_cut [39] (fun v wx => v = .bool (!x3) ∧ Ext wc wx)
      case first =>
        clear hwP
        have c3 := BB.out.cell' (i := 3) rfl
        by_cases h0 : r.ln = 0
        · have q1 : decide (r.ln = 0) = true := decide_eq_true h0
          have q4 : decide (0 < r.ln) = false := decide_eq_false (by omega)
          have q2 : (r.ln == 0) = true := by simp [h0]
          have q3 : decide ((r.ln : Int) = 0) = true := decide_eq_true (by omega)
          have hx := HX3.out
          rw [q1, Bool.true_or] at hx
          subst hx
          go_wp2
          go_meet
          exact ⟨by first | rfl | simp, Ext.refl _⟩
        · have q1 : decide (r.ln = 0) = false := decide_eq_false h0
          have q4 : decide (0 < r.ln) = true := decide_eq_true (by omega)
          have q2 : (r.ln == 0) = false := by simp [h0]
          have q3 : decide ((r.ln : Int) = 0) = false := decide_eq_false (by omega)
          have hx := HX3.out
          rw [q1, Bool.false_or] at hx
          have hcf := hid (containsFS_c (fitB a.label) 81 #[.pointer (some ⟨w.heap.size + 1, 0, none⟩)] r.labels r.la r.ln r.lc wc (enters_ofU Try.func81 (by kernel_rfl) rfl) RB.out.ll (by have := RB.out.lnc; have := RB.out.lm; omega) RB.out.lcell (fun y hy w2 e2 => rmeets2_c a (w.heap.size + 1) y w2 (QB.out.ext e2) (RB.out.ls y hy) (HLAB.out y hy) (GB.out.ext e2)))
          rw [hx] at hcf
          clear hx
          go_wp2_with fail
          refine hcf.out.mono ?_
          rintro e wD ⟨rfl, eD⟩
          have ED := hid eD
          clear eD hcf
          go_wp2_with fail
          go_meet
          exact ⟨by first | rfl | (simp; done) | (simp; intro h; exact absurd h h0), ED.out⟩
      case rest =>
        obtain ⟨rfl, eC⟩ := hcut
        subst hwP
        have BC := hid (BB.out.ext eC)
        have GC := hid (GB.out.ext eC)
        have EC := hid (EB.out.ext eC)
        have HRV := hid (RuleR.len r)
        clear eC BB GB EB RB QB HX1 HX2 HX3
        cases x3 with
        | false =>
          have hm1 := HM.out
          simp at hm1
          subst hm1
          go_wp2
          go_ret
          exact ⟨rfl, EC.out⟩
        | true =>
        have hm := HM.out
        simp at hm
        subst hm
        have c35 := GC.out.cell' H35.out
        have hrem := HREM.out
        have hquo := HQUO.out
        go_upto_region 7 with (fail)
        go_cut [5] (fun v wx => v = .int .i64 ((T % 86400 / 3600 : Nat) : Int) ∧ wx = wc)
        case first =>
          go_wp2
          go_meet
          exact ⟨by first | rfl | (congr 1; omega) | (simp; done), rfl⟩
        case rest =>
        obtain ⟨rfl, rfl⟩ := hcut
        clear c35 hrem hquo
        have c4 := BC.out.cell' (i := 4) rfl
        have c5 := BC.out.cell' (i := 5) rfl
        have hmv := HX4.out
        have hfz2 := HFZ.out
        generalize hnat : ((T % 86400 / 3600 : Nat) : Int) = N at *
        clear HM HHN H16 H17 H18 H35 HLEN HRV BC GC HX4 HFZ HLAB HREM HQUO hnat
        generalize r.fr = fr at *
        generalize r.tt = tt at *
        by_cases hz : fr = 0 ∧ tt = 0
        · obtain ⟨rfl, rfl⟩ := hz
          have HV := hid (show M = true by rw [← hmv]; rfl)
          clear hmv hfz2
          go_wp2
          go_ret
          exact ⟨by rw [HV.out]; rfl, EC.out⟩
        · have hne : fr ≠ tt := fun h => hz ⟨hfz2 h, by rw [← h]; exact hfz2 h⟩
          have hmv2 : M = (if fr < tt then decide (fr ≤ N) && decide (N < tt) else decide (fr ≤ N) || decide (N < tt)) := by
            rw [← hmv]; unfold hoursB; rw [if_neg hne]
          have HMV := hid hmv2
          clear hmv hmv2 hne hfz2
          by_cases hf0 : fr = 0
          · have ht0 : tt ≠ 0 := fun h => hz ⟨hf0, h⟩
            have q1 : (fr == 0) = true := by simp [hf0]
            have q2 : decide (fr = 0) = true := decide_eq_true hf0
            have q3 : (tt == 0) = false := by simp [ht0]
            have q4 : decide (tt = 0) = false := decide_eq_false ht0
            clear hz hf0
            by_cases hlt : fr < tt
            · have q5 : decide (fr < tt) = true := decide_eq_true hlt
              have HV := hid (show M = (decide (fr ≤ N) && decide (N < tt)) by rw [HMV.out, if_pos hlt])
              clear HMV
              cases q6 : decide (fr ≤ N)
              all_goals
                go_wp2
                go_ret
                exact ⟨by rw [HV.out]; first | rfl | (rw [q6]; rfl) | (simp_all; done), EC.out⟩
            · have q5 : decide (fr < tt) = false := decide_eq_false hlt
              have HV := hid (show M = (decide (fr ≤ N) || decide (N < tt)) by rw [HMV.out, if_neg hlt])
              clear HMV
              cases q6 : decide (fr ≤ N)
              all_goals
                go_wp2
                go_ret
                exact ⟨by rw [HV.out]; first | rfl | (rw [q6]; rfl) | (simp_all; done), EC.out⟩
          · have q1 : (fr == 0) = false := by simp [hf0]
            have q2 : decide (fr = 0) = false := decide_eq_false hf0
            clear hz
            by_cases hlt : fr < tt
            · have q5 : decide (fr < tt) = true := decide_eq_true hlt
              have HV := hid (show M = (decide (fr ≤ N) && decide (N < tt)) by rw [HMV.out, if_pos hlt])
              clear HMV
              cases q6 : decide (fr ≤ N)
              all_goals
                go_wp2
                go_ret
                exact ⟨by rw [HV.out]; first | rfl | (rw [q6]; rfl) | (simp_all; done), EC.out⟩
            · have q5 : decide (fr < tt) = false := decide_eq_false hlt
              have HV := hid (show M = (decide (fr ≤ N) || decide (N < tt)) by rw [HMV.out, if_neg hlt])
              clear HMV
              cases q6 : decide (fr ≤ N)
              all_goals
                go_wp2
                go_ret
                exact ⟨by rw [HV.out]; first | rfl | (rw [q6]; rfl) | (simp_all; done), EC.out⟩
end

section
open Go Go.RowKit

set_option maxRecDepth 100000 in
set_option maxHeartbeats 2000000 in
theorem ruleFault_c (r : RuleR) (w : World) (hr : r.Ok w) :
    Calls Try.prog 70 #[.agg r.v.toArray] w fun e w' => e = .returned (.int .i64 (ruleE r)) ∧ Ext w w' := by
  have hf1 := hid (fun w' (h : r.Ok w') => containsFS_c badS 48 #[] r.roles r.ra r.rn r.rc w' (enters_ofU Try.func48 (by kernel_rfl) rfl) h.rl (by have := h.rnc; have := h.rm; omega) h.rcell (fun y hy w2 _ => (notName_p y w2 (h.rs y hy)).mono fun e w3 ⟨he, hw⟩ => ⟨he, hw ▸ Ext.refl _⟩))
  have hf2 := hid (fun w' => notName_p r.ow w' hr.os)
  have hf3 := hid (fun w' (h : r.Ok w') => containsFI_c badA 103 #[] r.acts r.aa r.an r.ac w' (enters_ofU Try.func103 (by kernel_rfl) rfl) h.al (by have := h.anc; have := h.am; omega) h.acell (fun y hy w2 _ => (fault1_c y w2).mono fun e w3 ⟨he, hw⟩ => ⟨he, hw ▸ Ext.refl _⟩))
  have hf4 := hid (fun w' (h : r.Ok w') => containsFS_c badP 104 #[] r.labels r.la r.ln r.lc w' (enters_ofU Try.func104 (by kernel_rfl) rfl) h.ll (by have := h.lnc; have := h.lm; omega) h.lcell (fun y hy w2 _ => (fault2_c y w2 (h.ls y hy)).mono fun e w3 ⟨he, hw⟩ => ⟨he, hw ▸ Ext.refl _⟩))
  have ht1 := hid (fun w' (h : r.Ok w') => twiceS_c r.roles r.ra r.rn r.rc w' h.rl (by have := h.rnc; have := h.rm; omega) h.rcell (keysS h.rs))
  have ht2 := hid (fun w' (h : r.Ok w') => twiceI_c r.acts r.aa r.an r.ac w' h.al (by have := h.anc; have := h.am; omega) h.acell (keysI h.awf))
  have ht3 := hid (fun w' (h : r.Ok w') => twiceS_c r.labels r.la r.ln r.lc w' h.ll (by have := h.lnc; have := h.lm; omega) h.lcell (keysS h.ls))
  have HR := hid hr
  clear hr
  go_enter Try.func70, Try.ntmps70
  go_upto_region 1 with (fail)
  generalize hwA : World.alloc w _ = wA
  have bA : Blk wA w.heap.size r.v 50 := by rw [← hwA]; exact Blk.mk_alloc rfl rfl
  have eA : Ext w wA := by rw [← hwA]; exact (Ext.refl w).alloc _
  have BA := hid bA
  have EA := hid eA
  clear hwA bA eA
  go_cut [3] (fun v wx => v = .bool (k1 r) ∧ Ext wA wx)
  case first =>
    have c1 := BA.out.cell' (i := 1) rfl
    have c2 := BA.out.cell' (i := 2) rfl
    have c3 := BA.out.cell' (i := 3) rfl
    go_wp2
    all_goals
      go_meet
      refine ⟨?_, Ext.refl _⟩
      unfold k1
      first | rfl | (congr 1; simp_all; done) | (congr 1; simp_all; omega)
  case rest =>
    obtain ⟨rfl, eB⟩ := hcut
    have BB := hid (BA.out.ext eB)
    have EB := hid (EA.out.ext eB)
    clear eB BA EA
    cases h1 : k1 r with
    | true =>
      go_wp2
      go_ret
      exact ⟨by simp [ruleE, h1], EB.out⟩
    | false =>
    have HRB := hid (HR.out.ext EB.out)
    go_upto_region 3 with (fail)
    go_cut [20] (fun v wx => v = .bool (k2 r) ∧ Ext wc wx)
    case first =>
      have c1 := BB.out.cell' (i := 1) rfl
      go_wp2_with fail
      refine (hf1.out wc HRB.out).mono ?_
      rintro e wD ⟨rfl, eD⟩
      generalize hb1 : r.roles.any badS = b1
      have HB1 := hid hb1
      clear hb1
      have c7 := (BB.out.ext eD).cell' (i := 7) rfl
      have ED := hid eD
      clear eD c1
      go_wp2_with (refine (hf2.out _).mono ?_; rintro e w4 ⟨rfl, rfl⟩)
      all_goals
        go_meet
        refine ⟨?_, ED.out⟩
        unfold k2
        rw [HB1.out]
        unfold emptyB badS
        first | rfl | (congr 1; simp_all; done)
    case rest =>
      obtain ⟨rfl, eC⟩ := hcut
      have BC := hid (BB.out.ext eC)
      have EC := hid (EB.out.ext eC)
      have HRC := hid (HRB.out.ext eC)
      clear eC BB EB HRB hf1 hf2
      cases h2 : k2 r with
      | true =>
        go_wp2
        go_ret
        exact ⟨by simp [ruleE, h1, h2], EC.out⟩
      | false =>
      have c2 := BC.out.cell' (i := 2) rfl
      go_wp2_with fail
      refine (hf3.out wc HRC.out).mono ?_
      rintro e wD ⟨rfl, eD⟩
      have BD := hid (BC.out.ext eD)
      have ED := hid (EC.out.ext eD)
      have HRD := hid (HRC.out.ext eD)
      clear eD BC EC HRC
      clear c2 hf3
      cases h3 : k3 r with
      | true =>
        have h3' : r.acts.any badA = true := h3
        rw [h3']
        go_wp2
        go_ret
        exact ⟨by simp [ruleE, h1, h2, h3], ED.out⟩
      | false =>
      have h3' : r.acts.any badA = false := h3
      rw [h3']
      have c3 := BD.out.cell' (i := 3) rfl
      go_wp2_with fail
      refine (hf4.out wD HRD.out).mono ?_
      rintro e wE ⟨rfl, eE⟩
      have BE := hid (BD.out.ext eE)
      have EE := hid (ED.out.ext eE)
      have HRE := hid (HRD.out.ext eE)
      clear eE BD ED HRD
      clear c3 hf4
      cases h4 : k4 r with
      | true =>
        have h4' : r.labels.any badP = true := h4
        rw [h4']
        go_wp2
        go_ret
        exact ⟨by simp [ruleE, h1, h2, h3, h4], EE.out⟩
      | false =>
      have h4' : r.labels.any badP = false := h4
      rw [h4']
      clear h3' h4'
      go_upto_region 9 with (fail)
      go_cut [42] (fun v wx => v = .bool (k5 r) ∧ Ext wE wx)
      case first =>
        have c1 := BE.out.cell' (i := 1) rfl
        go_wp2_with fail
        refine (ht1.out wE HRE.out).mono ?_
        rintro e wF ⟨b1, rfl, hb1, eF⟩
        have HB1 := hid (dupB_of hb1)
        have BF := hid (BE.out.ext eF)
        have HRF := hid (HRE.out.ext eF)
        have EF := hid eF
        clear hb1 eF c1
        have c2 := BF.out.cell' (i := 2) rfl
        cases b1 with
        | true =>
          go_wp2
          go_meet
          exact ⟨by unfold k5; rw [← HB1.out]; rfl, EF.out⟩
        | false =>
          go_wp2_with fail
          refine (ht2.out wF HRF.out).mono ?_
          rintro e wG ⟨b2, rfl, hb2, eG⟩
          have HB2 := hid (dupB_of hb2)
          have BG := hid (BF.out.ext eG)
          have HRG := hid (HRF.out.ext eG)
          have EG := hid (EF.out.ext eG)
          clear hb2 eG c2
          have c3 := BG.out.cell' (i := 3) rfl
          cases b2 with
          | true =>
            go_wp2
            go_meet
            exact ⟨by unfold k5; rw [← HB1.out, ← HB2.out]; rfl, EG.out⟩
          | false =>
            go_wp2_with fail
            refine (ht3.out wG HRG.out).mono ?_
            rintro e wI ⟨b3, rfl, hb3, eI⟩
            have HB3 := hid (dupB_of hb3)
            have EI := hid (EG.out.ext eI)
            clear hb3 eI c3
            go_wp2_with fail
            go_meet
            exact ⟨by unfold k5; rw [← HB1.out, ← HB2.out, ← HB3.out]; first | rfl | simp, EI.out⟩
      case rest =>
        obtain ⟨rfl, eF⟩ := hcut
        have BF := hid (BE.out.ext eF)
        have EF := hid (EE.out.ext eF)
        clear eF BE EE HRE ht1 ht2 ht3
        cases h5 : k5 r with
        | true =>
          go_wp2
          go_ret
          exact ⟨by simp [ruleE, h1, h2, h3, h4, h5], EF.out⟩
        | false =>
        have c4 := BF.out.cell' (i := 4) rfl
        have c5 := BF.out.cell' (i := 5) rfl
        have c6 := BF.out.cell' (i := 6) rfl
        have c7 := BF.out.cell' (i := 7) rfl
        have c0 := BF.out.cell' (i := 0) rfl
        go_upto_region 11 with (fail)
        go_cut [56] (fun v wx => v = .bool (k6 r) ∧ wx = wc)
        case first =>
          have ho1 := hid (fun w' => outsideP_c r.fr 0 24 w')
          have ho2 := hid (fun w' => outsideP_c r.tt 0 24 w')
          have ho3 := hid (fun w' => outsideP_c r.nd 0 16 w')
          have hk6 := hid (show k6 r = (((decide (r.fr < 0) || decide (24 < r.fr)) || (decide (r.tt < 0) || decide (24 < r.tt)) || (decide (r.fr = r.tt) && decide (r.fr ≠ 0))) || (decide (r.nd < 0) || decide (16 < r.nd))) from rfl)
          generalize hk : k6 r = kk at *
          clear hk
          generalize (decide (r.fr < 0) || decide (24 < r.fr)) = b1 at *
          generalize (decide (r.tt < 0) || decide (24 < r.tt)) = b2 at *
          generalize (decide (r.nd < 0) || decide (16 < r.nd)) = b3 at *
          cases b1 with
          | true =>
            have hv : kk = true := by rw [hk6.out]; rfl
            subst hv
            clear hk6 ho2 ho3
            go_wp2_with fail
            refine (ho1.out _).mono ?_
            rintro e w4 ⟨rfl, rfl⟩
            go_wp2_with fail
            go_meet
            exact ⟨rfl, rfl⟩
          | false =>
          cases b2 with
          | true =>
            have hv : kk = true := by rw [hk6.out]; rfl
            subst hv
            clear hk6 ho3
            go_wp2_with fail
            refine (ho1.out _).mono ?_
            rintro e w4 ⟨rfl, rfl⟩
            go_wp2_with fail
            refine (ho2.out _).mono ?_
            rintro e w4 ⟨rfl, rfl⟩
            go_wp2_with fail
            go_meet
            exact ⟨rfl, rfl⟩
          | false =>
          by_cases hft : r.fr = r.tt
          · by_cases hf0 : r.fr = 0
            · have hv : kk = b3 := by rw [hk6.out, decide_eq_true hft, decide_eq_false (show ¬ r.fr ≠ 0 from fun h => h hf0)]; rfl
              subst hv
              have q1 : decide (r.fr = r.tt) = true := decide_eq_true hft
              have q2 : (r.fr == r.tt) = true := by simp [hft]
              have q3 : decide (r.fr = 0) = true := decide_eq_true hf0
              have q4 : (r.fr != 0) = false := by simp [hf0]
              clear hk6 hft hf0
              go_wp2_with fail
              refine (ho1.out _).mono ?_
              rintro e w4 ⟨rfl, rfl⟩
              go_wp2_with fail
              refine (ho2.out _).mono ?_
              rintro e w4 ⟨rfl, rfl⟩
              go_wp2_with fail
              refine (ho3.out _).mono ?_
              rintro e w4 ⟨rfl, rfl⟩
              go_wp2_with fail
              go_meet
              exact ⟨by first | rfl | simp, rfl⟩
            · have hv : kk = true := by rw [hk6.out, decide_eq_true hft, decide_eq_true (show r.fr ≠ 0 from hf0)]; rfl
              subst hv
              have q1 : decide (r.fr = r.tt) = true := decide_eq_true hft
              have q2 : (r.fr == r.tt) = true := by simp [hft]
              have q3 : decide (r.fr = 0) = false := decide_eq_false hf0
              have q4 : (r.fr != 0) = true := by simp [hf0]
              clear hk6 hft hf0 ho3
              go_wp2_with fail
              refine (ho1.out _).mono ?_
              rintro e w4 ⟨rfl, rfl⟩
              go_wp2_with fail
              refine (ho2.out _).mono ?_
              rintro e w4 ⟨rfl, rfl⟩
              go_wp2_with fail
              go_meet
              exact ⟨by first | rfl | simp, rfl⟩
          · have hv : kk = b3 := by rw [hk6.out, decide_eq_false hft]; rfl
            subst hv
            have q1 : decide (r.fr = r.tt) = false := decide_eq_false hft
            have q2 : (r.fr == r.tt) = false := by simp [hft]
            clear hk6 hft
            go_wp2_with fail
            refine (ho1.out _).mono ?_
            rintro e w4 ⟨rfl, rfl⟩
            go_wp2_with fail
            refine (ho2.out _).mono ?_
            rintro e w4 ⟨rfl, rfl⟩
            go_wp2_with fail
            refine (ho3.out _).mono ?_
            rintro e w4 ⟨rfl, rfl⟩
            go_wp2_with fail
            go_meet
            exact ⟨by first | rfl | simp, rfl⟩
        case rest =>
          obtain ⟨rfl, rfl⟩ := hcut
          cases h6 : k6 r with
          | true =>
            go_wp2
            go_ret
            exact ⟨by simp [ruleE, h1, h2, h3, h4, h5, h6], EF.out⟩
          | false =>
          go_upto_region 13 with (fail)
          go_cut [82] (fun v wx => v = .bool (k7 r) ∧ wx = wc)
          case first =>
            have hk7 := hid (show k7 r = ((decide (r.nd = 0) != emptyB r.ow) || (r.deny && decide (0 < r.nd))) from rfl)
            generalize hk : k7 r = kk at *
            clear hk
            have hem := hid (show emptyB r.ow = r.ow.toList.isEmpty from rfl)
            generalize emptyB r.ow = em at *
            generalize r.deny = dn at *
            by_cases hn0 : r.nd = 0
            · have n1 : decide (r.nd = 0) = true := decide_eq_true hn0
              have n2 : (r.nd == 0) = true := by simp [hn0]
              have n3 : decide (0 < r.nd) = false := decide_eq_false (by omega)
              rw [n1, n3] at hk7
              clear hn0
              cases em with
              | true =>
                have e1 : r.ow.toList.isEmpty = true := hem.out.symm
                have e2 : r.ow.toList = [] := List.isEmpty_iff.1 e1
                have hv : kk = false := by rw [hk7.out]; cases dn <;> rfl
                subst hv
                clear hk7 hem
                cases dn
                all_goals
                  go_wp2
                  go_meet
                  exact ⟨by first | rfl | simp, rfl⟩
              | false =>
                have e1 : r.ow.toList.isEmpty = false := hem.out.symm
                have e2 : r.ow.toList ≠ [] := fun h => by rw [h] at e1; cases e1
                have hv : kk = true := by rw [hk7.out]; cases dn <;> rfl
                subst hv
                clear hk7 hem
                go_wp2
                go_meet
                exact ⟨by first | rfl | simp, rfl⟩
            · have n1 : decide (r.nd = 0) = false := decide_eq_false hn0
              have n2 : (r.nd == 0) = false := by simp [hn0]
              rw [n1] at hk7
              clear hn0
              cases em with
              | true =>
                have e1 : r.ow.toList.isEmpty = true := hem.out.symm
                have e2 : r.ow.toList = [] := List.isEmpty_iff.1 e1
                have hv : kk = true := by rw [hk7.out]; cases dn <;> rfl
                subst hv
                clear hk7 hem
                go_wp2
                go_meet
                exact ⟨by first | rfl | simp, rfl⟩
              | false =>
                have e1 : r.ow.toList.isEmpty = false := hem.out.symm
                have e2 : r.ow.toList ≠ [] := fun h => by rw [h] at e1; cases e1
                cases dn with
                | true =>
                  have hv : kk = decide (0 < r.nd) := by rw [hk7.out]; simp
                  subst hv
                  clear hk7 hem
                  go_wp2
                  go_meet
                  exact ⟨by first | rfl | simp, rfl⟩
                | false =>
                  have hv : kk = false := by rw [hk7.out]; rfl
                  subst hv
                  clear hk7 hem
                  go_wp2
                  go_meet
                  exact ⟨by first | rfl | simp, rfl⟩
          case rest =>
            obtain ⟨rfl, rfl⟩ := hcut
            cases h7 : k7 r with
            | true =>
              go_wp2
              go_ret
              exact ⟨by simp [ruleE, h1, h2, h3, h4, h5, h6, h7], EF.out⟩
            | false =>
              go_wp2
              go_ret
              exact ⟨by simp [ruleE, h1, h2, h3, h4, h5, h6, h7], EF.out⟩
end

section
open Go Go.RowKit

def rulesV (rs : List RuleR) : List Value := rs.flatMap RuleR.v
theorem rulesV_length (rs : List RuleR) : (rulesV rs).length = 8 * rs.length := by
  induction rs with
  | nil => rfl
  | cons r rs ih => unfold rulesV at ih ⊢; rw [List.flatMap_cons, List.length_append, ih, RuleR.len, List.length_cons]; omega
theorem rulesV_at {rs : List RuleR} {k : Nat} {r : RuleR} (h : rs[k]? = some r) : ((rulesV rs).drop (k * 8)).take 8 = r.v := by
  induction rs generalizing k with
  | nil => simp at h
  | cons x rs ih =>
    unfold rulesV at ih ⊢
    rw [List.flatMap_cons]
    cases k with
    | zero =>
      simp only [List.getElem?_cons_zero, Option.some.injEq] at h
      subst h
      rw [Nat.zero_mul, List.drop_zero, List.take_append_of_le_length (by rw [RuleR.len]; exact Nat.le_refl _), List.take_of_length_le (by rw [RuleR.len]; exact Nat.le_refl _)]
    | succ k =>
      rw [List.getElem?_cons_succ] at h
      rw [List.drop_append, RuleR.len, List.drop_of_length_le (by rw [RuleR.len]; omega), List.nil_append, show (k + 1) * 8 - 8 = k * 8 by omega]
      exact ih h
structure PolOk (w : World) (pa : Option Addr) (pn pc : Nat) (rs : List RuleR) : Prop where
  hl : rs.length = pn
  hnc : pn ≤ pc
  hm : pn ≤ 140737488355328
  cell : Cells w pa (rulesV rs)
  ok : ∀ r ∈ rs, r.Ok w
theorem PolOk.ext {w w' : World} {pa : Option Addr} {pn pc : Nat} {rs : List RuleR} (h : PolOk w pa pn pc rs) (e : Ext w w') : PolOk w' pa pn pc rs := ⟨h.hl, h.hnc, h.hm, h.cell.ext e, fun r hr => (h.ok r hr).ext e⟩
theorem PolOk.at {w : World} {pa : Option Addr} {pn pc : Nat} {rs : List RuleR} (h : PolOk w pa pn pc rs) {k : Nat} {r : RuleR} (hk : rs[k]? = some r) : ∃ A, pa = some A ∧ CellsAt w (A.add (k * 8)) r.v := by
  have hk2 := (List.getElem?_eq_some_iff.1 hk).1
  obtain ⟨b, o, rfl, hc⟩ := h.cell.some_of (by rw [rulesV_length]; omega)
  refine ⟨_, rfl, fun j u hu => ?_⟩
  rw [addr_add, addr_add, Nat.add_assoc]
  refine hc _ _ ?_
  rw [← rulesV_at hk] at hu
  have hj : j < 8 := by
    have := (List.getElem?_eq_some_iff.1 hu).1
    rw [List.length_take] at this; omega
  rw [List.getElem?_take_of_lt hj, List.getElem?_drop] at hu
  exact hu
noncomputable def firstE : List RuleR → Int
  | [] => 0
  | r :: rs => if ruleE r = 0 then firstE rs else ruleE r
theorem firstE_hit {rs : List RuleR} {k : Nat} {r : RuleR} (h : rs[k]? = some r) (hp : ∀ x ∈ rs.take k, ruleE x = 0) (hr : ruleE r ≠ 0) : firstE rs = ruleE r := by
  induction rs generalizing k with
  | nil => simp at h
  | cons x rs ih =>
    cases k with
    | zero =>
      simp only [List.getElem?_cons_zero, Option.some.injEq] at h
      subst h
      unfold firstE; rw [if_neg hr]
    | succ k =>
      rw [List.getElem?_cons_succ] at h
      unfold firstE
      rw [if_pos (hp x (by simp))]
      exact ih h (fun y hy => hp y (by rw [List.take_succ_cons]; exact List.mem_cons_of_mem _ hy))
theorem firstE_zero {rs : List RuleR} (h : ∀ x ∈ rs, ruleE x = 0) : firstE rs = 0 := by
  induction rs with
  | nil => rfl
  | cons x rs ih => unfold firstE; rw [if_pos (h x (by simp))]; exact ih fun y hy => h y (List.mem_cons_of_mem _ hy)
theorem firstE_all {rs : List RuleR} (h : firstE rs = 0) : ∀ x ∈ rs, ruleE x = 0 := by
  induction rs with
  | nil => simp
  | cons x rs ih =>
    unfold firstE at h
    by_cases h0 : ruleE x = 0
    · rw [if_pos h0] at h
      intro y hy
      rcases List.mem_cons.1 hy with rfl | hy
      · exact h0
      · exact ih h y hy
    · rw [if_neg h0] at h; exact absurd h h0
noncomputable def polE (rs : List RuleR) (pn : Nat) : Int := if (100 : Int) < (pn : Int) then 5 else firstE rs
theorem size_rule : (Try.prog.info? 50).map (·.size) = some 8 := by kernel_rfl
theorem ruleV_one (r : RuleR) : ∀ v ∈ r.v, v.oneCell' = true := by
  intro v hv
  unfold RuleR.v at hv
  simp at hv
  rcases hv with rfl | rfl | rfl | rfl | rfl | rfl | rfl | rfl <;> rfl
def zeroRule : List Value := [.bool false, .slice none 0 0, .slice none 0 0, .slice none 0 0, .int .i64 0, .int .i64 0, .int .i64 0, .string ⟨#[]⟩]

set_option maxRecDepth 100000 in
set_option maxHeartbeats 2000000 in
theorem check_c (pa : Option Addr) (pn pc : Nat) (rs : List RuleR) (w : World) (hp : PolOk w pa pn pc rs) :
    Calls Try.prog 57 #[.agg #[.slice pa pn pc]] w fun e w' => e = .returned (.int .i64 (polE rs pn)) ∧ Ext w w' := by
  have HPO := hid hp
  have hn63 : pn ≤ 140737488355328 := by have := hp.hnc; have := hp.hm; omega
  have hrf := hid (fun r w' h => ruleFault_c r w' h)
  clear hp
  obtain ⟨E, hE⟩ : ∃ E, polE rs pn = E := ⟨_, rfl⟩
  have HE := hid hE
  rw [hE]
  clear hE
  go_enter Try.func57, Try.ntmps57
  go_upto_region 1 with (fail)
  generalize hwA : World.alloc w _ = wA
  have bA : Blk wA w.heap.size [.slice pa pn pc] 38 := by rw [← hwA]; exact Blk.mk_alloc rfl rfl
  have eA : Ext w wA := by rw [← hwA]; exact (Ext.refl w).alloc _
  have EA := hid eA
  have c0 := bA.cell' (i := 0) rfl
  clear hwA bA eA
  by_cases hbig : (100 : Int) < (pn : Int)
  · have d1 : decide ((100 : Int) < (pn : Int)) = true := decide_eq_true hbig
    have d2 : decide (100 < pn) = true := decide_eq_true (by omega)
    have HV := hid (show E = 5 by rw [← HE.out]; unfold polE; rw [if_pos hbig])
    clear hbig HE
    go_wp2
    go_ret
    exact ⟨by rw [HV.out]; rfl, EA.out⟩
  have d1 : decide ((100 : Int) < (pn : Int)) = false := decide_eq_false hbig
  have d2 : decide (100 < pn) = false := decide_eq_false (by omega)
  have HV := hid (show E = firstE rs by rw [← HE.out]; unfold polE; rw [if_neg hbig])
  clear HE
  go_wp2
  go_loopw [13] (fun i wr => ∃ k : Nat, k ≤ pn ∧ i = .int .i64 (k : Int) ∧ (∀ x ∈ rs.take k, ruleE x = 0) ∧ Ext w wr) (fun i _ => pn - (intOf i).toNat)
  case atStart => exact ⟨0, by omega, rfl, by simp, EA.out⟩
  case round =>
    obtain ⟨k, hk, rfl, hpre, e1⟩ := hrel
    have E1 := hid e1
    have HPR := hid hpre
    clear e1 hpre
    by_cases hlt : k < pn
    · obtain ⟨r, hrk⟩ : ∃ r, rs[k]? = some r := ⟨rs[k]'(by rw [HPO.out.hl]; exact hlt), by simp⟩
      obtain ⟨A, rfl, hca⟩ := (HPO.out.ext E1.out).at hrk
      have HCA := hid hca
      have HOK := hid ((HPO.out.ok r (List.mem_of_getElem? hrk)).ext E1.out)
      have HRL := hid (RuleR.len r)
      have HRK := hid hrk
      clear hca hrk
      have hro := ruleV_one r
      go_wp2_with (first | (refine wpl_run rfl (exec_index (i := k) rfl rfl rfl Try.underlying36 size_rule hlt _) ?_) | (refine wpl_run rfl (exec_load_at rfl rfl HCA.out agg_rule HRL.out) ?_) | (refine wpl_storew rfl _ (.tmp 4) _ rfl rfl rfl (Blk.mk_alloc (vs := zeroRule) rfl rfl) agg_rule rfl HRL.out hro ?_))
      intro wB bB uB
      have eB : Ext wr wB := uB.ext ((Ext.refl wr).alloc _) (Nat.le_refl _)
      have BB := hid bB
      have EB := hid (E1.out.ext eB)
      have HOB := hid (HOK.out.ext eB)
      clear bB uB eB HOK HCA
      generalize wr.heap.size = gr at *
      go_wp2_with (refine wpl_loadw rfl 50 (.tmp 4) rfl rfl BB.out agg_rule HRL.out ?_)
      refine (hrf.out r wB HOB.out).mono ?_
      rintro e wC ⟨rfl, eC⟩
      have EC := hid (EB.out.ext eC)
      clear eC BB EB HOB
      by_cases h0 : ruleE r = 0
      · have q1 : (ruleE r != 0) = false := by simp [h0]
        have q2 : decide (ruleE r = 0) = true := decide_eq_true h0
        have HN := hid (show ∀ x ∈ rs.take (k + 1), ruleE x = 0 from fun x hx => by
          rw [List.take_add_one, HRK.out, List.mem_append] at hx
          rcases hx with hx | hx
          · exact HPR.out x hx
          · simp at hx; rw [hx]; exact h0)
        generalize ruleE r = er at *
        subst h0
        clear HPR HRK
        go_wp2
        go_roundw
        case rel => exact ⟨k + 1, by omega, by go_num, HN.out, EC.out⟩
        case measure => simp [intOf]; omega
      · have q1 : (ruleE r != 0) = true := by simp [h0]
        have q2 : decide (ruleE r = 0) = false := decide_eq_false h0
        have HN := hid (HV.out.trans (firstE_hit HRK.out HPR.out h0))
        generalize ruleE r = er at *
        clear HPR HRK
        go_wp2
        go_ret
        exact ⟨by rw [HN.out]; rfl, EC.out⟩
    · obtain rfl : k = pn := by omega
      have hres := HPR.out
      rw [List.take_of_length_le (by rw [HPO.out.hl]; exact Nat.le_refl _)] at hres
      have HR := hid (HV.out.trans (firstE_zero hres))
      clear hres
      go_wp2
      go_ret
      exact ⟨by rw [HR.out]; rfl, E1.out⟩
end

section
open Go Go.RowKit

set_option maxRecDepth 100000 in
set_option maxHeartbeats 2000000 in
theorem checkPolicy_c (pa : Option Addr) (pn pc : Nat) (rs : List RuleR) (w : World) (hp : PolOk w pa pn pc rs) :
    Calls Try.prog 21 #[.agg #[.slice pa pn pc]] w fun e w' => e = .returned (.int .i64 (polE rs pn)) ∧ Ext w w' := by
  have HPO := hid hp
  have hn63 : pn ≤ 140737488355328 := by have := hp.hnc; have := hp.hm; omega
  have hrf := hid (fun r w' h => ruleError_c r w' h)
  clear hp
  obtain ⟨E, hE⟩ : ∃ E, polE rs pn = E := ⟨_, rfl⟩
  have HE := hid hE
  rw [hE]
  clear hE
  go_enter Try.func21, Try.ntmps21
  go_upto_region 1 with (fail)
  generalize hwA : World.alloc w _ = wA
  have bA : Blk wA w.heap.size [.slice pa pn pc] 38 := by rw [← hwA]; exact Blk.mk_alloc rfl rfl
  have eA : Ext w wA := by rw [← hwA]; exact (Ext.refl w).alloc _
  have EA := hid eA
  have c0 := bA.cell' (i := 0) rfl
  clear hwA bA eA
  by_cases hbig : (100 : Int) < (pn : Int)
  · have d1 : decide ((100 : Int) < (pn : Int)) = true := decide_eq_true hbig
    have d2 : decide (100 < pn) = true := decide_eq_true (by omega)
    have HV := hid (show E = 5 by rw [← HE.out]; unfold polE; rw [if_pos hbig])
    clear hbig HE
    go_wp2
    go_ret
    exact ⟨by rw [HV.out]; rfl, EA.out⟩
  have d1 : decide ((100 : Int) < (pn : Int)) = false := decide_eq_false hbig
  have d2 : decide (100 < pn) = false := decide_eq_false (by omega)
  have HV := hid (show E = firstE rs by rw [← HE.out]; unfold polE; rw [if_neg hbig])
  clear HE
  go_wp2
  go_loopw [13] (fun i wr => ∃ k : Nat, k ≤ pn ∧ i = .int .i64 (k : Int) ∧ (∀ x ∈ rs.take k, ruleE x = 0) ∧ Ext w wr) (fun i _ => pn - (intOf i).toNat)
  case atStart => exact ⟨0, by omega, rfl, by simp, EA.out⟩
  case round =>
    obtain ⟨k, hk, rfl, hpre, e1⟩ := hrel
    have E1 := hid e1
    have HPR := hid hpre
    clear e1 hpre
    by_cases hlt : k < pn
    · obtain ⟨r, hrk⟩ : ∃ r, rs[k]? = some r := ⟨rs[k]'(by rw [HPO.out.hl]; exact hlt), by simp⟩
      obtain ⟨A, rfl, hca⟩ := (HPO.out.ext E1.out).at hrk
      have HCA := hid hca
      have HOK := hid ((HPO.out.ok r (List.mem_of_getElem? hrk)).ext E1.out)
      have HRL := hid (RuleR.len r)
      have HRK := hid hrk
      clear hca hrk
      have hro := ruleV_one r
      go_wp2_with (first | (refine wpl_run rfl (exec_index (i := k) rfl rfl rfl Try.underlying36 size_rule hlt _) ?_) | (refine wpl_run rfl (exec_load_at rfl rfl HCA.out agg_rule HRL.out) ?_) | (refine wpl_storew rfl _ (.tmp 4) _ rfl rfl rfl (Blk.mk_alloc (vs := zeroRule) rfl rfl) agg_rule rfl HRL.out hro ?_))
      intro wB bB uB
      have eB : Ext wr wB := uB.ext ((Ext.refl wr).alloc _) (Nat.le_refl _)
      have BB := hid bB
      have EB := hid (E1.out.ext eB)
      have HOB := hid (HOK.out.ext eB)
      clear bB uB eB HOK HCA
      generalize wr.heap.size = gr at *
      go_wp2_with (refine wpl_loadw rfl 50 (.tmp 4) rfl rfl BB.out agg_rule HRL.out ?_)
      refine (hrf.out r wB HOB.out).mono ?_
      rintro e wC ⟨rfl, eC⟩
      have EC := hid (EB.out.ext eC)
      clear eC BB EB HOB
      by_cases h0 : ruleE r = 0
      · have q1 : (ruleE r != 0) = false := by simp [h0]
        have q2 : decide (ruleE r = 0) = true := decide_eq_true h0
        have HN := hid (show ∀ x ∈ rs.take (k + 1), ruleE x = 0 from fun x hx => by
          rw [List.take_add_one, HRK.out, List.mem_append] at hx
          rcases hx with hx | hx
          · exact HPR.out x hx
          · simp at hx; rw [hx]; exact h0)
        generalize ruleE r = er at *
        subst h0
        clear HPR HRK
        go_wp2
        go_roundw
        case rel => exact ⟨k + 1, by omega, by go_num, HN.out, EC.out⟩
        case measure => simp [intOf]; omega
      · have q1 : (ruleE r != 0) = true := by simp [h0]
        have q2 : decide (ruleE r = 0) = false := decide_eq_false h0
        have HN := hid (HV.out.trans (firstE_hit HRK.out HPR.out h0))
        generalize ruleE r = er at *
        clear HPR HRK
        go_wp2
        go_ret
        exact ⟨by rw [HN.out]; rfl, EC.out⟩
    · obtain rfl : k = pn := by omega
      have hres := HPR.out
      rw [List.take_of_length_le (by rw [HPO.out.hl]; exact Nat.le_refl _)] at hres
      have HR := hid (HV.out.trans (firstE_zero hres))
      clear hres
      go_wp2
      go_ret
      exact ⟨by rw [HR.out]; rfl, E1.out⟩
end

section
open Go Go.RowKit

structure DecR where
  al : Bool
  ru : Int
  nd : Int
  ow : ByteArray
def DecR.v (d : DecR) : List Value := [.bool d.al, .int .i64 d.ru, .int .i64 d.nd, .string d.ow]
theorem DecR.len (d : DecR) : d.v.length = 4 := rfl
theorem decV_one (d : DecR) : ∀ v ∈ d.v, v.oneCell' = true := by
  intro v hv
  unfold DecR.v at hv
  simp at hv
  rcases hv with rfl | rfl | rfl | rfl <;> rfl
def zeroDec : DecR := ⟨false, 0, 0, ⟨#[]⟩⟩
def noneDec : DecR := ⟨false, -1, 0, ⟨#[]⟩⟩
def denyDec (i : Nat) : DecR := ⟨false, i, 0, ⟨#[]⟩⟩
def bestDec : Option (Nat × RuleR) → DecR
  | none => noneDec
  | some (b, r) => ⟨true, b, r.nd, r.ow⟩
def betterB (r : RuleR) : Option (Nat × RuleR) → Bool
  | none => true
  | some (_, q) => decide (r.nd < q.nd)
noncomputable def decF (a : AskR) : List RuleR → Nat → Option (Nat × RuleR) → DecR
  | [], _, best => bestDec best
  | r :: rs, i, best => if meetsB r a then (if r.deny then denyDec i else decF a rs (i + 1) (if betterB r best then some (i, r) else best)) else decF a rs (i + 1) best

theorem drop_at {rs : List RuleR} {k : Nat} {r : RuleR} (h : rs[k]? = some r) : rs.drop k = r :: rs.drop (k + 1) := by
  obtain ⟨hk, rfl⟩ := List.getElem?_eq_some_iff.1 h
  exact List.drop_eq_getElem_cons hk
theorem decF_no {a : AskR} {rs : List RuleR} {k : Nat} {r : RuleR} {best : Option (Nat × RuleR)} (h : rs[k]? = some r) (hm : meetsB r a = false) : decF a (rs.drop k) k best = decF a (rs.drop (k + 1)) (k + 1) best := by
  rw [drop_at h]; conv => lhs; unfold decF
  rw [hm]; simp
theorem decF_deny {a : AskR} {rs : List RuleR} {k : Nat} {r : RuleR} {best : Option (Nat × RuleR)} (h : rs[k]? = some r) (hm : meetsB r a = true) (hd : r.deny = true) : decF a (rs.drop k) k best = denyDec k := by
  rw [drop_at h]; unfold decF
  rw [hm, hd]; simp
theorem decF_yes {a : AskR} {rs : List RuleR} {k : Nat} {r : RuleR} {best : Option (Nat × RuleR)} (h : rs[k]? = some r) (hm : meetsB r a = true) (hd : r.deny = false) : decF a (rs.drop k) k best = decF a (rs.drop (k + 1)) (k + 1) (if betterB r best then some (k, r) else best) := by
  rw [drop_at h]; conv => lhs; unfold decF
  rw [hm, hd]; simp
theorem decF_end {a : AskR} {rs : List RuleR} {k : Nat} {best : Option (Nat × RuleR)} (h : rs.length ≤ k) : decF a (rs.drop k) k best = bestDec best := by
  rw [List.drop_of_length_le h]; rfl
/-- a refusal that is met is the answer, whatever was best before -/
theorem decF_first {a : AskR} : ∀ (rs : List RuleR) (i k : Nat) (r : RuleR) (best : Option (Nat × RuleR)), rs[k]? = some r → (∀ x ∈ rs.take k, ¬ (meetsB x a = true ∧ x.deny = true)) → meetsB r a = true → r.deny = true → decF a rs i best = denyDec (i + k)
  | [], i, k, r, best, h, _, _, _ => by simp at h
  | x :: rs, i, 0, r, best, h, _, hm, hd => by
    simp only [List.getElem?_cons_zero, Option.some.injEq] at h
    subst h
    unfold decF
    rw [hm, hd]; simp
  | x :: rs, i, k + 1, r, best, h, hp, hm, hd => by
    rw [List.getElem?_cons_succ] at h
    have hx := hp x (by simp)
    have hrest : ∀ y ∈ rs.take k, ¬ (meetsB y a = true ∧ y.deny = true) := fun y hy => hp y (by rw [List.take_succ_cons]; exact List.mem_cons_of_mem _ hy)
    unfold decF
    cases hmx : meetsB x a with
    | false =>
      simp only [Bool.false_eq_true, if_false]
      rw [decF_first rs (i + 1) k r best h hrest hm hd]; congr 1; omega
    | true =>
      cases hdx : x.deny with
      | true => exact absurd ⟨hmx, hdx⟩ hx
      | false =>
        simp only [Bool.false_eq_true, if_false, if_true]
        rw [decF_first rs (i + 1) k r _ h hrest hm hd]; congr 1; omega
noncomputable def decideD (a : AskR) (rs : List RuleR) : DecR := decF a rs 0 none
end

section
open Go Go.RowKit

theorem eq_arr {t : TypeId} {n : Nat} (ht : Try.prog.underlying t = some (.array n 5)) (xs ys : List UInt8) (hx : xs.length = n) (hy : ys.length = n) (w : World) :
    (binOp .eql t (.agg (xs.map u8v).toArray) (.agg (ys.map u8v).toArray)).run Try.prog w = .ok (.bool (xs == ys)) w :=
  run_eql_bytes w t 5 n ht Try.underlying5 (fun w => by kernel_rfl) xs ys hx hy
theorem neq_arr {t : TypeId} {n : Nat} (ht : Try.prog.underlying t = some (.array n 5)) (xs ys : List UInt8) (hx : xs.length = n) (hy : ys.length = n) (w : World) :
    (binOp .neq t (.agg (xs.map u8v).toArray) (.agg (ys.map u8v).toArray)).run Try.prog w = .ok (.bool (!(xs == ys))) w := by
  have h := run_equalIn_bytes w 9998 t 5 n ht Try.underlying5 (fun w => by kernel_rfl) xs ys hx hy
  rw [run_neq_struct]
  have h2 : (Op.equalIn 10000 t (.agg (xs.map u8v).toArray) (.agg (ys.map u8v).toArray)).run Try.prog w = .ok (xs == ys) w := h
  rw [h2]; rfl
theorem eq_self {t : TypeId} {n : Nat} (ht : Try.prog.underlying t = some (.array n 5)) (xs : List UInt8) (hx : xs.length = n) (w : World) :
    (binOp .eql t (.agg (xs.map u8v).toArray) (.agg (xs.map u8v).toArray)).run Try.prog w = .ok (.bool true) w := by
  rw [eq_arr ht xs xs hx hx]; simp
end

section
open Go Go.RowKit

theorem guard_sum : Try.prog.eqGuardType Try.prog.depth 40 = false := by kernel_rfl
end

section
open Go Go.RowKit

theorem guard_seal : Try.prog.eqGuardType Try.prog.depth 72 = false := by kernel_rfl
section
variable {P : Program} {ops : Array Oper} {rest : List Oper} {o : Oper} {a : Act} {w : World} {Q : Exit → Act → World → Prop}
theorem wpList_want (hw : Region.wanted o (yielded ops a.tmps) = true) (h : ∀ K : Act → World → Prop, (∀ a w, wpList P ops Q rest a w → K a w) → o.wp P a w K Q) : wpList P ops Q (o :: rest) a w :=
  wpList_step fun K hK => by rw [if_pos hw]; exact h K hK
/-- a load that stands behind a guard -/
theorem wpg_loadw (hw : Region.wanted o (yielded ops a.tmps) = true) (ty : TypeId) (x : Operand) (ho : o.op = .load ty x) {g : Nat} {vs : List Value} {T : TypeId}
    (hx : a.eval x = .pointer (some ⟨g, 0, none⟩)) (hb : Blk w g vs T) {n : Nat} (ht : AggT P ty n) (hn : vs.length = n)
    (h : wpList P ops Q rest (a.put o.dst (.agg vs.toArray)) w) : wpList P ops Q (o :: rest) a w :=
  wpList_want hw fun K hK => by
    have h1 := run_load_sub (P := P) (off := 0) hb ht (by omega)
    have h2 : (vs.drop 0).take n = vs := by simp [← hn]
    rw [h2] at h1
    unfold Oper.wp execOp
    simp only [ho, hx, Instr.loadAt, Instr.sureAddr, Sem.run_bind, Sem.run_pure, Result.andThen_ok, h1]
    exact hK _ _ h
/-- a comparison of arrays, whether behind a guard or not -/
theorem wpg_cmp (hw : Region.wanted o (yielded ops a.tmps) = true) (op : BinOp) (t u : TypeId) (x y : Operand) (ho : o.op = .binOp op t x y u) {xs ys : Array Value} {b : Value} (hx : a.eval x = .agg xs) (hy : a.eval y = .agg ys)
    (hg : P.eqGuardType P.depth t = false) (hr : ∀ w, (binOp op t (.agg xs) (.agg ys)).run P w = .ok b w)
    (h : wpList P ops Q rest (a.put o.dst b) w) : wpList P ops Q (o :: rest) a w :=
  wpList_want hw fun K hK => by
    unfold Oper.wp execOp
    simp only [ho, hx, hy, Sem.run_bind, run_eqGuard_agg w op t x y xs ys hg, Result.andThen_ok, hr, Sem.run_pure]
    exact hK _ _ h
end
theorem zeros_u8 (n : Nat) : List.replicate n (Value.int .u8 0) = (List.replicate n (0 : UInt8)).map u8v := by simp [u8v]
end

section
open Go Go.RowKit

theorem field_at {w : World} {p : Addr} {xs : List Value} {j : Nat} {v : Value} (h : CellsAt w p xs) (hv : xs[j]? = some v) : w.cell? ⟨p.block, p.off + j, none⟩ = some v := by
  have h2 := h j v hv
  obtain ⟨b, o, s⟩ := p
  cases s with
  | none => rw [addr_add] at h2; exact h2
  | some s =>
    exfalso
    have hj := (List.getElem?_eq_some_iff.1 hv).1
    have h0 := h 0 (xs[0]'(by omega)) (by simp)
    have h3 := World.cell?_spot h0
    simp [Addr.add] at h3
theorem agg_dec : AggT Try.prog 44 4 := ⟨⟨_, Try.underlying44, rfl⟩, by kernel_rfl⟩
theorem always_c (n : Int) (w : World) : Calls Try.prog 59 #[.int .i64 n] w fun e w' => e = .returned (.bool true) ∧ w = w' := by
  go_enter Try.func59, Try.ntmps59
  go_wp2
  go_ret
  exact ⟨rfl, rfl⟩
def bestI : Option (Nat × RuleR) → Int
  | none => -1
  | some (b, _) => b
theorem built_dec1 (k : Int) : Try.prog.built 44 [(1, .int .i64 k)] = some (DecR.v ⟨false, k, 0, ⟨#[]⟩⟩).toArray := by kernel_rfl
theorem built_dec4 (b : Bool) (k n : Int) (s : ByteArray) : Try.prog.built 44 [(0, .bool b), (1, .int .i64 k), (2, .int .i64 n), (3, .string s)] = some (DecR.v ⟨b, k, n, s⟩).toArray := by kernel_rfl

set_option maxRecDepth 100000 in
set_option maxHeartbeats 2000000 in
theorem decide_c (pa : Option Addr) (pn pc : Nat) (rs : List RuleR) (a : AskR) (T : Nat) (w : World) (hp : PolOk w pa pn pc rs) (ha : a.Ok w) (hT : a.time = (T : Int)) (hTb : T ≤ 1099511627776) :
    Calls Try.prog 58 #[.agg #[.slice pa pn pc], .agg a.v.toArray, .func (.func 59) #[] #[]] w fun e w' => e = .returned (.agg (decideD a rs).v.toArray) ∧ Ext w w' := by
  have hme := hid (fun r w' h1 h2 => meets_c r a T w' h1 h2 hT hTb)
  have HPO := hid hp
  have hn63 : pn ≤ 140737488355328 := by have := hp.hnc; have := hp.hm; omega
  have HLEN := hid (AskR.len ha)
  have HAO := hid ha
  have HAG := hid agg_ask
  clear hp ha hT hTb
  obtain ⟨D, hD⟩ : ∃ D, decideD a rs = D := ⟨_, rfl⟩
  have HD := hid hD
  rw [hD]
  clear hD
  go_enter Try.func58, Try.ntmps58
  go_upto_region 1 with (fail)
  generalize hwA : World.alloc (World.alloc (World.alloc w _) _) _ = wA
  have bA : Blk wA w.heap.size [.slice pa pn pc] 38 := by rw [← hwA]; exact ((Blk.mk_alloc rfl rfl).alloc _).alloc _
  have gA : Blk wA (w.heap.size + 1) a.v 42 := by rw [← hwA]; exact (Blk.mk_alloc (by simp) rfl).alloc _
  have zA : Blk wA (w.heap.size + 2) zeroDec.v 44 := by rw [← hwA]; exact Blk.mk_alloc (by simp) rfl
  have eA : Ext w wA := by rw [← hwA]; exact (((Ext.refl w).alloc _).alloc _).alloc _
  have BA := hid bA
  have GA := hid gA
  have ZA := hid zA
  have EA := hid eA
  have PA := hid (HPO.out.ext eA)
  have QA := hid (HAO.out.ext eA)
  have c0 := bA.cell' (i := 0) rfl
  clear hwA bA gA zA eA HPO HAO
  go_wp2
  go_loopw [7, 14] (fun b i wr => ∃ (k : Nat) (best : Option (Nat × RuleR)), k ≤ pn ∧ i = .int .i64 (k : Int) ∧ b = .int .i64 (bestI best) ∧ (∀ b q, best = some (b, q) → b < pn ∧ rs[b]? = some q) ∧ decF a (rs.drop k) k best = D ∧ Ext wA wr) (fun _ i _ => pn - (intOf i).toNat)
  case atStart => exact ⟨0, none, by omega, rfl, rfl, fun b q h => (by cases h), by rw [List.drop_zero]; exact HD.out, Ext.refl _⟩
  case round =>
    obtain ⟨k, best, hk, rfl, rfl, hbest, hdec, e1⟩ := hrel
    have E1 := hid e1
    have HDC := hid hdec
    have HBE := hid hbest
    clear e1 hdec hbest
    by_cases hlt : k < pn
    · obtain ⟨r, hrk⟩ : ∃ r, rs[k]? = some r := ⟨rs[k]'(by rw [PA.out.hl]; exact hlt), by simp⟩
      obtain ⟨A, rfl, hca⟩ := (PA.out.ext E1.out).at hrk
      have HCA := hid hca
      have HOK := hid ((PA.out.ok r (List.mem_of_getElem? hrk)).ext E1.out)
      have HRL := hid (RuleR.len r)
      have HRK := hid hrk
      clear hca hrk
      have hro := ruleV_one r
      go_wp2_with (first | (refine wpl_run rfl (exec_index (i := k) rfl rfl rfl Try.underlying36 size_rule hlt _) ?_) | (refine wpl_run rfl (exec_load_at rfl rfl HCA.out agg_rule HRL.out) ?_) | (refine wpl_storew rfl _ (.tmp 9) _ rfl rfl rfl (Blk.mk_alloc (vs := zeroRule) rfl rfl) agg_rule rfl HRL.out hro ?_))
      intro wB bB uB
      have eB : Ext wr wB := uB.ext ((Ext.refl wr).alloc _) (Nat.le_refl _)
      have BB := hid bB
      have EB := hid (E1.out.ext eB)
      have HOB := hid (HOK.out.ext eB)
      have GB := hid (GA.out.ext EB.out)
      have QB := hid (QA.out.ext EB.out)
      clear bB uB eB HOK
      generalize wr.heap.size = gr at *
      go_wp2_with (first | (refine (always_c _ _).mono ?_; rintro e w4 ⟨rfl, rfl⟩) | (refine wpg_loadw rfl 50 (.tmp 9) rfl rfl BB.out agg_rule HRL.out ?_) | (refine wpg_loadw rfl 42 (.tmp 4) rfl rfl GB.out agg_ask HLEN.out ?_))
      refine (hme.out r wB HOB.out QB.out).mono ?_
      rintro e wC ⟨rfl, eC⟩
      have EC := hid (EB.out.ext eC)
      have BC := hid (BB.out.ext eC)
      clear eC BB EB HOB GB QB
      cases hm : meetsB r a with
      | false =>
        have HN := hid ((decF_no HRK.out hm).symm.trans HDC.out)
        clear hm HDC HRK
        go_wp2
        go_roundw
        case rel => exact ⟨k + 1, best, by omega, by go_num, rfl, HBE.out, HN.out, EC.out⟩
        case measure => simp [intOf]; omega
      | true =>
      have c9 := BC.out.cell' (i := 0) rfl
      cases hd : r.deny with
      | true =>
        have HN := hid ((decF_deny HRK.out hm hd).symm.trans HDC.out)
        have ZC := hid (ZA.out.ext EC.out)
        rw [hd] at c9
        have hbu := fun w => run_build (P := Try.prog) w 44 #[(1, .int .i64 (k : Int))] _ (built_dec1 (k : Int))
        clear hm HDC HRK
        clear hbu
        go_wp2_with (refine wpl_storew rfl _ (.tmp 6) _ rfl rfl rfl ZC.out agg_dec rfl (DecR.len (denyDec k)) (decV_one (denyDec k)) ?_)
        intro wD bD uD
        have ED := hid (uD.ext (EA.out.ext EC.out) (by omega))
        go_wp2_with fail
        exact ret_row rfl rfl bD agg_dec rfl rfl ⟨by rw [← HN.out]; rfl, ED.out⟩
      | false =>
        have HN := hid ((decF_yes HRK.out hm hd).symm.trans HDC.out)
        rw [hd] at c9
        clear hm HDC
        cases best with
        | none =>
          have hN := HN.out
          rw [show (if betterB r none then some (k, r) else none) = some (k, r) from rfl] at hN
          have HN2 := hid hN
          clear hN HN
          go_upto_region 8 with (fail)
          obtain ⟨C, hC⟩ : ∃ C : World → Prop, C = fun w' => Ext wC w' := ⟨_, rfl⟩
          have hC0 : ∀ w', C w' ↔ Ext wC w' := fun w' => by rw [hC]
          clear hC
          have HCC := hid hC0
          clear hC0
          have hCx : ∀ w w', C w → Ext w w' → C w' := fun w w' h1 h2 => (HCC.out w').2 (((HCC.out w).1 h1).ext h2)
          have hCA : C wC := (HCC.out _).2 (Ext.refl wC)
          have hneg : decide (bestI none < 0) = true := rfl
          refine wp_region_held_drew (S := C) (by kernel_rfl) (hCx _ _ hCA (Ext.refl _).drew) (fun hS0 => ?_)
          refine held_take 0 (v := ?tv1) rfl (by kernel_rfl) (by kernel_rfl) (by kernel_rfl) (fun _ _ _ h => h) (.inl ⟨rfl, ?ty1⟩) hS0 ?tr1
          case ty1 => (intro _ _; go_simp; try with_reducible rfl)
          case tr1 =>
          simp only [Act.put, List.setIfInBounds_toArray, List.set_cons_succ, List.set_cons_zero]
          refine held_take 1 (v := ?tv2) rfl (by kernel_rfl) (by kernel_rfl) (by kernel_rfl) (fun _ _ _ h => h) (.inl ⟨rfl, ?ty2⟩) hS0 ?tr2
          case ty2 => (intro _ _; go_simp; try with_reducible rfl)
          case tr2 =>
          simp only [Act.put, List.setIfInBounds_toArray, List.set_cons_succ, List.set_cons_zero]
          refine held_take 2 (v := ?tv3) rfl (by kernel_rfl) (by kernel_rfl) (by kernel_rfl) (fun _ _ _ h => h) (.inl ⟨rfl, ?ty3⟩) hS0 ?tr3
          case ty3 => (intro _ _; go_simp; try with_reducible rfl)
          case tr3 =>
          simp only [Act.put, List.setIfInBounds_toArray, List.set_cons_succ, List.set_cons_zero]
          refine held_take 3 (v := undef) rfl (by kernel_rfl) (by kernel_rfl) (by kernel_rfl) (fun _ _ _ h => h) (.inr ⟨rfl, rfl⟩) hS0 ?_
          simp only [Act.put, List.setIfInBounds_toArray, List.set_cons_succ, List.set_cons_zero]
          refine held_take 4 (v := undef) rfl (by kernel_rfl) (by kernel_rfl) (by kernel_rfl) (fun _ _ _ h => h) (.inr ⟨rfl, rfl⟩) hS0 ?_
          simp only [Act.put, List.setIfInBounds_toArray, List.set_cons_succ, List.set_cons_zero]
          refine held_take 5 (v := undef) rfl (by kernel_rfl) (by kernel_rfl) (by kernel_rfl) (fun _ _ _ h => h) (.inr ⟨rfl, rfl⟩) hS0 ?_
          simp only [Act.put, List.setIfInBounds_toArray, List.set_cons_succ, List.set_cons_zero]
          refine held_take 6 (v := undef) rfl (by kernel_rfl) (by kernel_rfl) (by kernel_rfl) (fun _ _ _ h => h) (.inr ⟨rfl, rfl⟩) hS0 ?_
          simp only [Act.put, List.setIfInBounds_toArray, List.set_cons_succ, List.set_cons_zero]
          refine held_take 7 (v := undef) rfl (by kernel_rfl) (by kernel_rfl) (by kernel_rfl) (fun _ _ _ h => h) (.inr ⟨rfl, rfl⟩) hS0 ?_
          simp only [Act.put, List.setIfInBounds_toArray, List.set_cons_succ, List.set_cons_zero]
          refine held_take 8 (v := undef) rfl (by kernel_rfl) (by kernel_rfl) (by kernel_rfl) (fun _ _ _ h => h) (.inr ⟨rfl, rfl⟩) hS0 ?_
          simp only [Act.put, List.setIfInBounds_toArray, List.set_cons_succ, List.set_cons_zero]
          refine held_take 9 (v := undef) rfl (by kernel_rfl) (by kernel_rfl) (by kernel_rfl) (fun _ _ _ h => h) (.inr ⟨rfl, rfl⟩) hS0 ?_
          simp only [Act.put, List.setIfInBounds_toArray, List.set_cons_succ, List.set_cons_zero]
          refine held_take 10 (v := undef) rfl (by kernel_rfl) (by kernel_rfl) (by kernel_rfl) (fun _ _ _ h => h) (.inr ⟨rfl, rfl⟩) hS0 ?_
          simp only [Act.put, List.setIfInBounds_toArray, List.set_cons_succ, List.set_cons_zero]
          refine held_take 11 (v := undef) rfl (by kernel_rfl) (by kernel_rfl) (by kernel_rfl) (fun _ _ _ h => h) (.inr ⟨rfl, rfl⟩) hS0 ?_
          simp only [Act.put, List.setIfInBounds_toArray, List.set_cons_succ, List.set_cons_zero]
          refine held_take 12 (v := ?tv4) rfl (by kernel_rfl) (by kernel_rfl) (by kernel_rfl) (fun _ _ _ h => h) (.inl ⟨rfl, ?ty4⟩) hS0 ?tr4
          case ty4 => (intro _ _; go_simp; try with_reducible rfl)
          case tr4 =>
          simp only [Act.put, List.setIfInBounds_toArray, List.set_cons_succ, List.set_cons_zero]
          refine wpAnyH_done (by kernel_rfl) ?_ _
          have E2 := hid (EC.out.ext ((HCC.out _).1 hS0))
          clear hS0 hCx hCA HCC
          go_wp2
          go_roundw
          case rel =>
            refine ⟨k + 1, some (k, r), by omega, by go_num, rfl, ?_, HN2.out, E2.out⟩
            intro b q hbq
            cases hbq
            exact ⟨hlt, HRK.out⟩
          case measure => simp [intOf]; omega
        | some bq =>
          obtain ⟨b, q⟩ := bq
          obtain ⟨hbn, hbq⟩ := HBE.out b q rfl
          obtain ⟨A2, hA2, hcq⟩ := PA.out.at hbq
          injection hA2 with hA2
          subst hA2
          have HCQ := hid hcq
          have HBQ := hid hbq
          have HPC := hid (BA.out.ext EC.out)
          clear hcq hbq
          go_upto_region 8 with (fail)
          obtain ⟨C, hC⟩ : ∃ C : World → Prop, C = fun w' => Ext wC w' := ⟨_, rfl⟩
          have hC0 : ∀ w', C w' ↔ Ext wC w' := fun w' => by rw [hC]
          clear hC
          have HCC := hid hC0
          clear hC0
          have hCx : ∀ w w', C w → Ext w w' → C w' := fun w w' h1 h2 => (HCC.out w').2 (((HCC.out w).1 h1).ext h2)
          have hCA : C wC := (HCC.out _).2 (Ext.refl wC)
          have hb0 : decide (((b : Nat) : Int) < 0) = false := decide_eq_false (by omega)
          have hbi : bestI (some (b, q)) = (b : Int) := rfl
          rw [hbi]
          have hc6 : ∀ w1, C w1 → w1.cell? ⟨gr, 6, none⟩ = some (.int .i64 r.nd) := fun w1 h1 => (BC.out.ext ((HCC.out w1).1 h1)).cell' (i := 6) rfl
          have hcp : ∀ w1, C w1 → w1.cell? ⟨w.heap.size, 0, none⟩ = some (.slice (some A) pn pc) := fun w1 h1 => (HPC.out.ext ((HCC.out w1).1 h1)).cell' (i := 0) rfl
          have hcz : ∀ w1, C w1 → w1.cell? ⟨(A.add (b * 8)).block, (A.add (b * 8)).off + 6, none⟩ = some (.int .i64 q.nd) := fun w1 h1 => field_at (HCQ.out.ext (EC.out.ext ((HCC.out w1).1 h1))) (j := 6) rfl
          refine wp_region_held_drew (S := C) (by kernel_rfl) (hCx _ _ hCA (Ext.refl _).drew) (fun hS0 => ?_)
          refine held_take 0 (v := ?tv5) rfl (by kernel_rfl) (by kernel_rfl) (by kernel_rfl) (fun _ _ _ h => h) (.inl ⟨rfl, ?ty5⟩) hS0 ?tr5
          case ty5 => (intro _ _; go_simp; try with_reducible rfl)
          case tr5 =>
          simp only [Act.put, List.setIfInBounds_toArray, List.set_cons_succ, List.set_cons_zero]
          refine held_take 1 (v := ?tv6) rfl (by kernel_rfl) (by kernel_rfl) (by kernel_rfl) (fun _ _ _ h => h) (.inl ⟨rfl, ?ty6⟩) hS0 ?tr6
          case ty6 => (intro _ _; go_simp; try with_reducible rfl)
          case tr6 =>
          simp only [Act.put, List.setIfInBounds_toArray, List.set_cons_succ, List.set_cons_zero]
          refine held_take 2 (v := ?tv7) rfl (by kernel_rfl) (by kernel_rfl) (by kernel_rfl) (fun _ _ _ h => h) (.inl ⟨rfl, ?ty7⟩) hS0 ?tr7
          case ty7 => (intro _ _; go_simp; try with_reducible rfl)
          case tr7 =>
          simp only [Act.put, List.setIfInBounds_toArray, List.set_cons_succ, List.set_cons_zero]
          refine held_take 3 (v := ?tv8) rfl (by kernel_rfl) (by kernel_rfl) (by kernel_rfl) (fun _ _ _ h => h) (.inl ⟨rfl, ?ty8⟩) hS0 ?tr8
          case ty8 => (intro _ _; go_simp; try with_reducible rfl)
          case tr8 =>
          simp only [Act.put, List.setIfInBounds_toArray, List.set_cons_succ, List.set_cons_zero]
          refine held_take 4 (v := ?tv9) rfl (by kernel_rfl) (by kernel_rfl) (by kernel_rfl) (fun _ _ _ h => h) (.inl ⟨rfl, ?ty9⟩) hS0 ?tr9
          case ty9 => (intro wq hwq; have hcq := (hc6) wq hwq; go_simp; try with_reducible rfl)
          case tr9 =>
          simp only [Act.put, List.setIfInBounds_toArray, List.set_cons_succ, List.set_cons_zero]
          refine held_take 5 (v := ?tv10) rfl (by kernel_rfl) (by kernel_rfl) (by kernel_rfl) (fun _ _ _ h => h) (.inl ⟨rfl, ?ty10⟩) hS0 ?tr10
          case ty10 => (intro _ _; go_simp; try with_reducible rfl)
          case tr10 =>
          simp only [Act.put, List.setIfInBounds_toArray, List.set_cons_succ, List.set_cons_zero]
          refine held_take 6 (v := ?tv11) rfl (by kernel_rfl) (by kernel_rfl) (by kernel_rfl) (fun _ _ _ h => h) (.inl ⟨rfl, ?ty11⟩) hS0 ?tr11
          case ty11 => (intro wq hwq; have hcq := (hcp) wq hwq; go_simp; try with_reducible rfl)
          case tr11 =>
          simp only [Act.put, List.setIfInBounds_toArray, List.set_cons_succ, List.set_cons_zero]
          refine held_take 7 (v := ?tv12) rfl (by kernel_rfl) (by kernel_rfl) (by kernel_rfl) (fun _ _ _ h => h) (.inl ⟨rfl, ?ty12⟩) hS0 ?tr12
          case ty12 => (intro _ _; go_simp; try with_reducible rfl)
          case tr12 =>
          simp only [Act.put, List.setIfInBounds_toArray, List.set_cons_succ, List.set_cons_zero]
          refine held_take 8 (v := _) rfl (by kernel_rfl) (by kernel_rfl) (by kernel_rfl) (fun _ _ _ h => h) (yieldsI_run rfl (fun w1 _ => exec_index (i := b) rfl rfl rfl Try.underlying36 size_rule hbn w1)) hS0 ?_
          simp only [Act.put, List.setIfInBounds_toArray, List.set_cons_succ, List.set_cons_zero]
          refine held_take 9 (v := ?tv13) rfl (by kernel_rfl) (by kernel_rfl) (by kernel_rfl) (fun _ _ _ h => h) (.inl ⟨rfl, ?ty13⟩) hS0 ?tr13
          case ty13 => (intro _ _; go_simp; try with_reducible rfl)
          case tr13 =>
          simp only [Act.put, List.setIfInBounds_toArray, List.set_cons_succ, List.set_cons_zero]
          refine held_take 10 (v := ?tv14) rfl (by kernel_rfl) (by kernel_rfl) (by kernel_rfl) (fun _ _ _ h => h) (.inl ⟨rfl, ?ty14⟩) hS0 ?tr14
          case ty14 => (intro wq hwq; have hcq := (hcz) wq hwq; go_simp; try with_reducible rfl)
          case tr14 =>
          simp only [Act.put, List.setIfInBounds_toArray, List.set_cons_succ, List.set_cons_zero]
          refine held_take 11 (v := ?tv15) rfl (by kernel_rfl) (by kernel_rfl) (by kernel_rfl) (fun _ _ _ h => h) (.inl ⟨rfl, ?ty15⟩) hS0 ?tr15
          case ty15 => (intro _ _; go_simp; try with_reducible rfl)
          case tr15 =>
          simp only [Act.put, List.setIfInBounds_toArray, List.set_cons_succ, List.set_cons_zero]
          refine held_take 12 (v := ?tv16) rfl (by kernel_rfl) (by kernel_rfl) (by kernel_rfl) (fun _ _ _ h => h) (.inl ⟨rfl, ?ty16⟩) hS0 ?tr16
          case ty16 => (intro _ _; go_simp; try with_reducible rfl)
          case tr16 =>
          simp only [Act.put, List.setIfInBounds_toArray, List.set_cons_succ, List.set_cons_zero]
          refine wpAnyH_done (by kernel_rfl) ?_ _
          have E2 := hid (EC.out.ext ((HCC.out _).1 hS0))
          clear hS0 hCx hCA HCC hc6 hcp hcz hb0
          have hN := HN.out
          by_cases hbt : r.nd < q.nd
          · have q1 : decide (r.nd < q.nd) = true := decide_eq_true hbt
            rw [show betterB r (some (b, q)) = true from q1, if_pos rfl] at hN
            have HN2 := hid hN
            have HRK2 := hid HRK.out
            clear hN HN
            go_wp2
            go_roundw
            case rel =>
              refine ⟨k + 1, some (k, r), by omega, by go_num, rfl, ?_, HN2.out, E2.out⟩
              intro b q hbq
              cases hbq
              exact ⟨hlt, HRK2.out⟩
            case measure => simp [intOf]; omega
          · have q1 : decide (r.nd < q.nd) = false := decide_eq_false hbt
            rw [show betterB r (some (b, q)) = false from q1] at hN
            simp only [Bool.false_eq_true, if_false] at hN
            have HN2 := hid hN
            clear hN HN
            go_wp2
            go_roundw
            case rel => exact ⟨k + 1, some (b, q), by omega, by go_num, by first | rfl | (simp [bestI]; done), HBE.out, HN2.out, E2.out⟩
            case measure => simp [intOf]; omega
    · obtain rfl : k = pn := by omega
      have HN := hid ((decF_end (by rw [PA.out.hl]; exact Nat.le_refl _)).symm.trans HDC.out)
      have ZC := hid (ZA.out.ext E1.out)
      cases best with
      | none =>
        have hneg : decide (bestI none < 0) = true := rfl
        go_wp2_with (refine wpl_storew rfl _ (.tmp 6) _ rfl rfl rfl ZC.out agg_dec rfl (DecR.len noneDec) (decV_one noneDec) ?_)
        intro wD bD uD
        have ED := hid (uD.ext (EA.out.ext E1.out) (by omega))
        go_wp2_with fail
        exact ret_row rfl rfl bD agg_dec rfl rfl ⟨by rw [← HN.out]; rfl, ED.out⟩
      | some bq =>
        obtain ⟨b, q⟩ := bq
        obtain ⟨hbn, hbq⟩ := HBE.out b q rfl
        obtain ⟨A, rfl, hcq⟩ := PA.out.at hbq
        have HCQ := hid (hcq.ext E1.out)
        have c0' := (BA.out.ext E1.out).cell' (i := 0) rfl
        have hbi : bestI (some (b, q)) = (b : Int) := rfl
        rw [hbi]
        have hb0 : decide (((b : Nat) : Int) < 0) = false := decide_eq_false (by omega)
        have HQL := hid (RuleR.len q)
        have hqo := ruleV_one q
        clear hcq hbq
        go_wp2_with (first | (refine wpl_run rfl (exec_index (i := b) rfl rfl rfl Try.underlying36 size_rule hbn _) ?_) | (refine wpl_run rfl (exec_load_at rfl rfl HCQ.out agg_rule HQL.out) ?_) | (refine wpl_storew rfl _ (.tmp 10) _ rfl rfl rfl (Blk.mk_alloc (vs := zeroRule) rfl rfl) agg_rule rfl HQL.out hqo ?_))
        intro wB bB uB
        have eB : Ext wr wB := uB.ext ((Ext.refl wr).alloc _) (Nat.le_refl _)
        have c6 := bB.cell' (i := 6) rfl
        have c7 := bB.cell' (i := 7) rfl
        have EB := hid (E1.out.ext eB)
        have ZB := hid (ZC.out.ext eB)
        clear bB uB eB c0'
        generalize wr.heap.size = gr at *
        go_wp2_with (refine wpl_storew rfl _ (.tmp 6) _ rfl rfl rfl ZB.out agg_dec rfl (DecR.len (bestDec (some (b, q)))) (decV_one (bestDec (some (b, q)))) ?_)
        intro wD bD uD
        have ED := hid (uD.ext (EA.out.ext EB.out) (by omega))
        go_wp2_with fail
        exact ret_row rfl rfl bD agg_dec rfl rfl ⟨by rw [← HN.out]; rfl, ED.out⟩
end
end Go.Proofs.Ytelhnimdfepmdaa
