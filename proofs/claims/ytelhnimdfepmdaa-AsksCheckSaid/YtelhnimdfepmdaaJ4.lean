/- Contracts and laws that the claim's row leans on (32 texts, joined): policy.Meets and policy.Decide; conditions: the memory of the arguments. Plain laws of lists' trees: parts, paths, growth; no condition. Blocks of a stream: what streamBlock computes; conditions: the lengths. Stream: what it computes; conditions: the lengths. Stream and Cover: what they compute; conditions: the lengths. The reference's Stream: what it computes; conditions: the lengths. The reference's Cover: what it computes; conditions: the lengths. And: what is covered twice. The law StreamsMatch, walked; conditions: the lengths. Appends of which the row's block is told; conditions: the lengths. SumOf, short and Framed: what they compute; conditions: the sizes. Node and the reference's: what they compute; conditions: the lengths. split and the reference's half: the greatest power of two less than n; bits.Len by the shelf's template; conditions: n's bounds. How many sums a path has; conditions: place and size. The reference's Node: what it computes; conditions: the lengths. lead: the root to which a path leads; conditions: place, size, the rows' lengths. sides: on which side each sum of a path stands; conditions: place and size. RootBy: the root to which a proof leads, of any proof; conditions: the rows' lengths. The reference's RootBy, of any proof; conditions: the rows' lengths. Proved, of any proof; conditions: the rows' lengths. A head: its cells, its octets; ledger.outside, ledger.PrintHead; no condition. policy.AskSum; conditions: the ask's memory. Two chains of two operations in any order; no condition. keyref1.PrintHead; no condition. keyref1.AskSum of a right ask; conditions: the ask's memory. The reference's Derive: what it computes, where IsName's answer is known; conditions: the key's length, the label's. Two operations that make memory, in either order; mix.Derive; conditions: the lengths. Derive at every input; the law KeysAreDerived, walked; conditions: the lengths, the string's size. AsksCheck answers true; condition: the memory of the arguments. Readings of arguments are opened; no condition. Readings of slices of octets are opened; no condition. Readings of slices of rows of 32 octets, and of a struct of two ints and such a slice, are opened; no condition. Readings of rules and asks are opened; no condition. -/
import Derived.Test.YtelhnimdfepmdaaJ3
import Derived.WalkKit
import Derived.Laws.OwnMore
import Derived.Deep.DeepCutAuto
import Derived.Deep.CutBlock
import Derived.Test.YtelhnimdfepmdaaB1
import Derived.Lib.ItoaNum
import Derived.IntWalk
import Derived.Lib.SlBytesConst
import Derived.Lib.AppendStr
import Derived.Laws.IdiomStrings
import Derived.ProofKit
import Derived.OpenShut
import Derived.ChangeSlices
import Derived.WideShapes
import Derived.SizedLaws
import Derived.Deep.Strs
namespace Go.Proofs.Ytelhnimdfepmdaa
section
open Go Go.RowKit

theorem askE_time {a : AskR} (h : askE a = 0) : ∃ T : Nat, a.time = (T : Int) ∧ T ≤ 1099511627776 := by
  have h6 : j6 a = false := by
    cases hj : j6 a with
    | false => rfl
    | true =>
      exfalso
      unfold askE at h
      rw [hj] at h
      repeat' split at h
      all_goals (first | (revert h; decide) | contradiction)
  unfold j6 at h6
  simp only [Bool.or_eq_false_iff, decide_eq_false_iff_not] at h6
  obtain ⟨T, hT⟩ := Int.eq_ofNat_of_zero_le (show 0 ≤ a.time by omega)
  exact ⟨T, hT, by omega⟩
theorem ruleE_parts {r : RuleR} (h : ruleE r = 0) : k4 r = false ∧ k6 r = false := by
  constructor
  · cases hk : k4 r with
    | false => rfl
    | true =>
      exfalso
      unfold ruleE at h
      rw [hk] at h
      repeat' split at h
      all_goals (first | (revert h; decide) | contradiction)
  · cases hk : k6 r with
    | false => rfl
    | true =>
      exfalso
      unfold ruleE at h
      rw [hk] at h
      repeat' split at h
      all_goals (first | (revert h; decide) | contradiction)
theorem ruleE_labels {r : RuleR} (h : ruleE r = 0) : ∀ s ∈ r.labels, patL s.data.toList = true := by
  have h4 := (ruleE_parts h).1
  unfold k4 at h4
  rw [List.any_eq_false] at h4
  intro s hs
  have := h4 s hs
  unfold badP at this
  simpa using this
theorem ruleE_hours {r : RuleR} (h : ruleE r = 0) : r.fr = r.tt → r.fr = 0 := by
  have h6 := (ruleE_parts h).2
  unfold k6 at h6
  simp only [Bool.or_eq_false_iff, Bool.and_eq_false_iff, decide_eq_false_iff_not] at h6
  intro he
  rcases h6.1.2 with h | h
  · exact absurd he h
  · exact Decidable.not_not.1 h

noncomputable def pMeetsV (r : RuleR) (a : AskR) : Value := if ruleE r = 0 then (if askE a = 0 then .tuple #[.bool (meetsB r a), .int .i64 0] else .tuple #[.bool false, .int .i64 (askE a)]) else .tuple #[.bool false, .int .i64 (ruleE r)]

set_option maxRecDepth 100000 in
set_option maxHeartbeats 2000000 in
theorem pMeets_c (r : RuleR) (a : AskR) (w : World) (hr : r.Ok w) (ha : a.Ok w) :
    Calls Try.prog 29 #[.agg r.v.toArray, .agg a.v.toArray] w fun e w' => e = .returned (pMeetsV r a) ∧ Ext w w' := by
  have hrf := hid (fun w' h => ruleFault_c r w' h)
  have hak := hid (fun w' h => checkAsk_c a w' h)
  have hme := hid (fun (h : askE a = 0) w' h1 h2 => (askE_time h).elim fun T hT => meets_c r a T w' h1 h2 hT.1 hT.2)
  have HRO := hid hr
  have HAO := hid ha
  have HLEN := hid (AskR.len ha)
  have HRL := hid (RuleR.len r)
  clear hr ha
  obtain ⟨V, hV⟩ : ∃ V, pMeetsV r a = V := ⟨_, rfl⟩
  have HV := hid hV
  rw [hV]
  clear hV
  go_enter Try.func29, Try.ntmps29
  go_upto_region 1 with (fail)
  generalize hwA : World.alloc (World.alloc w _) _ = wA
  have bA : Blk wA w.heap.size r.v 50 := by rw [← hwA]; exact (Blk.mk_alloc rfl rfl).alloc _
  have gA : Blk wA (w.heap.size + 1) a.v 42 := by rw [← hwA]; exact Blk.mk_alloc (by simp) rfl
  have eA : Ext w wA := by rw [← hwA]; exact ((Ext.refl w).alloc _).alloc _
  have BA := hid bA
  have GA := hid gA
  have EA := hid eA
  have RA := hid (HRO.out.ext eA)
  have QA := hid (HAO.out.ext eA)
  clear hwA bA gA eA HRO HAO
  go_wp2_with (refine wpl_loadw rfl 50 (.tmp 2) rfl rfl BA.out agg_rule HRL.out ?_)
  refine (hrf.out wA RA.out).mono ?_
  rintro e wB ⟨rfl, eB⟩
  have BB := hid (BA.out.ext eB)
  have GB := hid (GA.out.ext eB)
  have EB := hid (EA.out.ext eB)
  have RB := hid (RA.out.ext eB)
  have QB := hid (QA.out.ext eB)
  clear eB BA GA EA RA QA
  by_cases h0 : ruleE r = 0
  case neg =>
    have q1 : (ruleE r != 0) = true := by simp [h0]
    have q2 : decide (ruleE r = 0) = false := decide_eq_false h0
    have HN := hid (show V = .tuple #[.bool false, .int .i64 (ruleE r)] by rw [← HV.out]; unfold pMeetsV; rw [if_neg h0])
    generalize ruleE r = er at *
    clear HV hrf hak hme
    go_wp2
    go_ret2
    exact ⟨by rw [HN.out]; rfl, EB.out⟩
  have HN1 := hid (show V = (if askE a = 0 then .tuple #[.bool (meetsB r a), .int .i64 0] else .tuple #[.bool false, .int .i64 (askE a)]) by rw [← HV.out]; unfold pMeetsV; rw [if_pos h0])
  rw [h0]
  clear h0 HV hrf
  go_wp2_with (refine wpl_loadw rfl 42 (.tmp 3) rfl rfl GB.out agg_ask HLEN.out ?_)
  refine (hak.out wB QB.out).mono ?_
  rintro e wC ⟨rfl, eC⟩
  have BC := hid (BB.out.ext eC)
  have GC := hid (GB.out.ext eC)
  have EC := hid (EB.out.ext eC)
  have RC := hid (RB.out.ext eC)
  have QC := hid (QB.out.ext eC)
  clear eC BB GB EB RB QB
  by_cases h1 : askE a = 0
  case neg =>
    have q1 : (askE a != 0) = true := by simp [h1]
    have q2 : decide (askE a = 0) = false := decide_eq_false h1
    have HN := hid (show V = .tuple #[.bool false, .int .i64 (askE a)] by rw [HN1.out, if_neg h1])
    generalize askE a = er at *
    clear HN1 hak hme
    go_wp2
    go_ret2
    exact ⟨by rw [HN.out]; rfl, EC.out⟩
  have HN := hid (show V = .tuple #[.bool (meetsB r a), .int .i64 0] by rw [HN1.out, if_pos h1])
  have hm2 := hid (hme.out h1)
  rw [h1]
  clear h1 HN1 hak hme
  go_wp2_with (first | (refine wpl_loadw rfl 50 (.tmp 2) rfl rfl BC.out agg_rule HRL.out ?_) | (refine wpl_loadw rfl 42 (.tmp 3) rfl rfl GC.out agg_ask HLEN.out ?_))
  refine (hm2.out wC RC.out QC.out).mono ?_
  rintro e wD ⟨rfl, eD⟩
  have ED := hid (EC.out.ext eD)
  clear eD
  go_wp2_with fail
  go_ret2
  exact ⟨by rw [HN.out]; rfl, ED.out⟩

noncomputable def pDecD (rs : List RuleR) (pn : Nat) (a : AskR) : DecR := if polE rs pn = 0 then (if askE a = 0 then decideD a rs else zeroDec) else zeroDec
noncomputable def pDecE (rs : List RuleR) (pn : Nat) (a : AskR) : Int := if polE rs pn = 0 then askE a else polE rs pn
theorem built_dec0 : Try.prog.built 44 [] = some zeroDec.v.toArray := by kernel_rfl

set_option maxRecDepth 100000 in
set_option maxHeartbeats 2000000 in
theorem pDecide_c (pa : Option Addr) (pn pc : Nat) (rs : List RuleR) (a : AskR) (w : World) (hp : PolOk w pa pn pc rs) (ha : a.Ok w) :
    Calls Try.prog 18 #[.agg #[.slice pa pn pc], .agg a.v.toArray] w fun e w' => e = .returned (.tuple #[.agg (pDecD rs pn a).v.toArray, .int .i64 (pDecE rs pn a)]) ∧ Ext w w' := by
  have hck := hid (fun w' h => check_c pa pn pc rs w' h)
  have hak := hid (fun w' h => checkAsk_c a w' h)
  have hde := hid (fun (h : askE a = 0) w' h1 h2 => (askE_time h).elim fun T hT => decide_c pa pn pc rs a T w' h1 h2 hT.1 hT.2)
  have HPO := hid hp
  have HAO := hid ha
  have HLEN := hid (AskR.len ha)
  clear hp ha
  obtain ⟨D, hD⟩ : ∃ D, pDecD rs pn a = D := ⟨_, rfl⟩
  obtain ⟨E, hE⟩ : ∃ E, pDecE rs pn a = E := ⟨_, rfl⟩
  have HD := hid hD
  have HE := hid hE
  rw [hD, hE]
  clear hD hE
  go_enter Try.func18, Try.ntmps18
  go_upto_region 1 with (fail)
  generalize hwA : World.alloc (World.alloc (World.alloc w _) _) _ = wA
  have bA : Blk wA w.heap.size [.slice pa pn pc] 38 := by rw [← hwA]; exact ((Blk.mk_alloc rfl rfl).alloc _).alloc _
  have gA : Blk wA (w.heap.size + 1) a.v 42 := by rw [← hwA]; exact (Blk.mk_alloc (by simp) rfl).alloc _
  have zA : Blk wA (w.heap.size + 2) zeroDec.v 44 := by rw [← hwA]; exact Blk.mk_alloc (by simp) rfl
  have eA : Ext w wA := by rw [← hwA]; exact (((Ext.refl w).alloc _).alloc _).alloc _
  have BA := hid bA
  have GA := hid gA
  have ZA := hid zA
  have EA := hid eA
  have PA := hid (HPO.out.ext eA)
  have QA := hid (HAO.out.ext eA)
  have c0 := bA.cell' (i := 0) rfl
  clear hwA bA gA zA eA HPO HAO
  go_wp2_with fail
  refine (hck.out wA PA.out).mono ?_
  rintro e wB ⟨rfl, eB⟩
  have BB := hid (BA.out.ext eB)
  have GB := hid (GA.out.ext eB)
  have ZB := hid (ZA.out.ext eB)
  have EB := hid (EA.out.ext eB)
  have PB := hid (PA.out.ext eB)
  have QB := hid (QA.out.ext eB)
  clear eB BA GA ZA EA PA QA
  clear c0
  by_cases h0 : polE rs pn = 0
  case neg =>
    have q1 : (polE rs pn != 0) = true := by simp [h0]
    have q2 : decide (polE rs pn = 0) = false := decide_eq_false h0
    have HN := hid (show D = zeroDec by rw [← HD.out]; unfold pDecD; rw [if_neg h0])
    have HM := hid (show E = polE rs pn by rw [← HE.out]; unfold pDecE; rw [if_neg h0])
    generalize polE rs pn = er at *
    clear HD HE hck hak hde
    go_wp2_with (refine wpl_storew rfl _ (.tmp 4) _ rfl rfl rfl ZB.out agg_dec rfl (DecR.len zeroDec) (decV_one zeroDec) ?_)
    intro wD bD uD
    have ED := hid (uD.ext EB.out (by omega))
    go_wp2_with fail
    exact ret_row2 rfl rfl bD agg_dec rfl rfl ⟨by rw [HN.out, HM.out]; rfl, ED.out⟩
  have HN1 := hid (show D = (if askE a = 0 then decideD a rs else zeroDec) by rw [← HD.out]; unfold pDecD; rw [if_pos h0])
  have HM1 := hid (show E = askE a by rw [← HE.out]; unfold pDecE; rw [if_pos h0])
  rw [h0]
  clear h0 HD HE hck
  go_wp2_with (refine wpl_loadw rfl 42 (.tmp 3) rfl rfl GB.out agg_ask HLEN.out ?_)
  refine (hak.out wB QB.out).mono ?_
  rintro e wC ⟨rfl, eC⟩
  have BC := hid (BB.out.ext eC)
  have GC := hid (GB.out.ext eC)
  have ZC := hid (ZB.out.ext eC)
  have EC := hid (EB.out.ext eC)
  have PC := hid (PB.out.ext eC)
  have QC := hid (QB.out.ext eC)
  clear eC BB GB ZB EB PB QB
  by_cases h1 : askE a = 0
  case neg =>
    have q1 : (askE a != 0) = true := by simp [h1]
    have q2 : decide (askE a = 0) = false := decide_eq_false h1
    have HN := hid (show D = zeroDec by rw [HN1.out, if_neg h1])
    generalize askE a = er at *
    clear HN1 hak hde
    go_wp2_with (refine wpl_storew rfl _ (.tmp 4) _ rfl rfl rfl ZC.out agg_dec rfl (DecR.len zeroDec) (decV_one zeroDec) ?_)
    intro wD bD uD
    have ED := hid (uD.ext EC.out (by omega))
    go_wp2_with fail
    exact ret_row2 rfl rfl bD agg_dec rfl rfl ⟨by rw [HN.out, HM1.out]; rfl, ED.out⟩
  have HN := hid (show D = decideD a rs by rw [HN1.out, if_pos h1])
  have hm2 := hid (hde.out h1)
  rw [h1] at HM1
  rw [h1]
  clear h1 HN1 hak hde
  have c0 := BC.out.cell' (i := 0) rfl
  go_wp2_with (refine wpl_loadw rfl 42 (.tmp 3) rfl rfl GC.out agg_ask HLEN.out ?_)
  refine (hm2.out wC PC.out QC.out).mono ?_
  rintro e wD ⟨rfl, eD⟩
  have ED := hid (EC.out.ext eD)
  have ZD := hid (ZC.out.ext eD)
  clear eD c0
  generalize decideD a rs = DD at *
  go_wp2_with (refine wpl_storew rfl _ (.tmp 4) _ rfl rfl rfl ZD.out agg_dec rfl (DecR.len DD) (decV_one DD) ?_)
  intro wF bF uF
  have EF := hid (uF.ext ED.out (by omega))
  go_wp2_with fail
  exact ret_row2 rfl rfl bF agg_dec (DecR.len DD) rfl ⟨by rw [HN.out, HM1.out]; rfl, EF.out⟩
end

section
open Go

/-- the greatest power of two less than n (n from 2 on) -/
def splitN (n : Nat) : Nat := 2 ^ Nat.log2 (n - 1)

theorem splitN_spec {n : Nat} (h : 2 ≤ n) : 1 ≤ splitN n ∧ splitN n < n ∧ n ≤ 2 * splitN n := by
  unfold splitN
  have h1 := Nat.log2_self_le (n := n - 1) (by omega)
  have h2 := Nat.lt_log2_self (n := n - 1)
  rw [Nat.pow_succ] at h2
  have h3 : 0 < 2 ^ Nat.log2 (n - 1) := Nat.pow_pos (by omega)
  omega

theorem splitN_eq {n j : Nat} (h1 : 2 ^ j < n) (h2 : n ≤ 2 * 2 ^ j) : 2 ^ j = splitN n := by
  have hp : 0 < 2 ^ j := Nat.pow_pos (by omega)
  have : Nat.log2 (n - 1) = j := (Nat.log2_eq_iff (by omega)).2 ⟨by omega, by rw [Nat.pow_succ]; omega⟩
  rw [splitN, this]

/-- for each sum of a path, from the leaf on: whether it stands on the left -/
def sidesL (i n : Nat) : List Bool :=
  if h : n < 2 then [] else if i < splitN n then sidesL i (splitN n) ++ [false] else sidesL (i - splitN n) (n - splitN n) ++ [true]
termination_by n
decreasing_by
  · have := splitN_spec (n := n) (by omega); omega
  · have := splitN_spec (n := n) (by omega); omega

theorem sidesL_one (i n : Nat) (h : n < 2) : sidesL i n = [] := by rw [sidesL, dif_pos h]
theorem sidesL_left {i n : Nat} (h : 2 ≤ n) (hi : i < splitN n) : sidesL i n = sidesL i (splitN n) ++ [false] := by
  rw [sidesL, dif_neg (by omega), if_pos hi]
theorem sidesL_right {i n : Nat} (h : 2 ≤ n) (hi : ¬ i < splitN n) : sidesL i n = sidesL (i - splitN n) (n - splitN n) ++ [true] := by
  rw [sidesL, dif_neg (by omega), if_neg hi]

theorem sidesL_le (i n : Nat) : (sidesL i n).length ≤ n := by
  induction n using Nat.strongRecOn generalizing i with
  | ind n ih =>
    by_cases h : n < 2
    · rw [sidesL_one _ _ h]; simp
    · have hs := splitN_spec (n := n) (by omega)
      by_cases hi : i < splitN n
      · rw [sidesL_left (by omega) hi, List.length_append]
        have := ih (splitN n) (by omega) i
        simp only [List.length_cons, List.length_nil]; omega
      · rw [sidesL_right (by omega) hi, List.length_append]
        have := ih (n - splitN n) (by omega) (i - splitN n)
        simp only [List.length_cons, List.length_nil]; omega

section
variable (nd : List UInt8 → List UInt8 → List UInt8)
def stepN (x : List UInt8) (p : Bool × List UInt8) : List UInt8 := if p.1 then nd p.2 x else nd x p.2
def leadS (x : List UInt8) (s : List Bool) (path : List (List UInt8)) : List UInt8 := (s.zip path).foldl (stepN nd) x
theorem leadS_nil (x : List UInt8) (path : List (List UInt8)) : leadS nd x [] path = x := rfl
theorem leadS_snoc (x : List UInt8) (s : List Bool) (b : Bool) (path : List (List UInt8)) (y : List UInt8) (h : s.length = path.length) :
    leadS nd x (s ++ [b]) (path ++ [y]) = if b then nd y (leadS nd x s path) else nd (leadS nd x s path) y := by
  unfold leadS
  rw [List.zip_append h, List.foldl_append]
  rfl
theorem leadS_take (x : List UInt8) (s : List Bool) (path : List (List UInt8)) (k : Nat) (hs : k < s.length) (hp : k < path.length) :
    leadS nd x (s.take (k + 1)) (path.take (k + 1)) = if s[k] then nd path[k] (leadS nd x (s.take k) (path.take k)) else nd (leadS nd x (s.take k) (path.take k)) path[k] := by
  rw [List.take_succ_eq_append_getElem hs, List.take_succ_eq_append_getElem hp, leadS_snoc]
  simp; omega
theorem leadS_length (hnd : ∀ a b, (nd a b).length = 32) (x : List UInt8) (s : List Bool) (path : List (List UInt8)) (hx : x.length = 32) : (leadS nd x s path).length = 32 := by
  unfold leadS
  generalize s.zip path = z
  induction z generalizing x with
  | nil => exact hx
  | cons p z ih =>
    rw [List.foldl_cons]
    apply ih
    unfold stepN
    split <;> exact hnd _ _

/-- how many sums a path of growth has -/
def growN (m n : Nat) (whole : Bool) : Nat :=
  if h : n < 2 then (if whole then 0 else 1) else if m = n then (if whole then 0 else 1) else if m ≤ splitN n then growN m (splitN n) whole + 1 else growN (m - splitN n) (n - splitN n) false + 1
termination_by n
decreasing_by
  · have := splitN_spec (n := n) (by omega); omega
  · have := splitN_spec (n := n) (by omega); omega
/-- the older and the newer root -/
def followL (older : List UInt8) (m n : Nat) (whole : Bool) (path : List (List UInt8)) : List UInt8 × List UInt8 :=
  if h : n < 2 then (if whole then (older, older) else (path.headD [], path.headD [])) else if m = n then (if whole then (older, older) else (path.headD [], path.headD [])) else
    if m ≤ splitN n then ((followL older m (splitN n) whole path.dropLast).1, nd (followL older m (splitN n) whole path.dropLast).2 (path.getLastD []))
    else (nd (path.getLastD []) (followL older (m - splitN n) (n - splitN n) false path.dropLast).1, nd (path.getLastD []) (followL older (m - splitN n) (n - splitN n) false path.dropLast).2)
termination_by n
decreasing_by
  all_goals have := splitN_spec (n := n) (by omega); omega
end

theorem growN_eq {n : Nat} (whole : Bool) : growN n n whole = if whole then 0 else 1 := by
  rw [growN]; split
  · rfl
  · rw [if_pos rfl]
theorem growN_left {m n : Nat} {whole : Bool} (h1 : 1 ≤ m) (h : m < n) (hm : m ≤ splitN n) : growN m n whole = growN m (splitN n) whole + 1 := by
  rw [growN, dif_neg (by omega), if_neg (by omega), if_pos hm]
theorem growN_right {m n : Nat} {whole : Bool} (h1 : 1 ≤ m) (h : m < n) (hm : ¬ m ≤ splitN n) : growN m n whole = growN (m - splitN n) (n - splitN n) false + 1 := by
  rw [growN, dif_neg (by omega), if_neg (by omega), if_neg hm]
theorem followL_eq (nd : List UInt8 → List UInt8 → List UInt8) (older : List UInt8) (n : Nat) (whole : Bool) (path : List (List UInt8)) : followL nd older n n whole path = if whole then (older, older) else (path.headD [], path.headD []) := by
  rw [followL]; split
  · rfl
  · rw [if_pos rfl]
theorem followL_left (nd : List UInt8 → List UInt8 → List UInt8) (older : List UInt8) {m n : Nat} (whole : Bool) (rest : List (List UInt8)) (last : List UInt8) (h1 : 1 ≤ m) (h : m < n) (hm : m ≤ splitN n) :
    followL nd older m n whole (rest ++ [last]) = ((followL nd older m (splitN n) whole rest).1, nd (followL nd older m (splitN n) whole rest).2 last) := by
  rw [followL, dif_neg (by omega), if_neg (by omega), if_pos hm]; simp
theorem followL_right (nd : List UInt8 → List UInt8 → List UInt8) (older : List UInt8) {m n : Nat} (whole : Bool) (rest : List (List UInt8)) (last : List UInt8) (h1 : 1 ≤ m) (h : m < n) (hm : ¬ m ≤ splitN n) :
    followL nd older m n whole (rest ++ [last]) = (nd last (followL nd older (m - splitN n) (n - splitN n) false rest).1, nd last (followL nd older (m - splitN n) (n - splitN n) false rest).2) := by
  rw [followL, dif_neg (by omega), if_neg (by omega), if_neg hm]; simp
theorem growN_le (m n : Nat) (whole : Bool) (h : m ≤ n) (h1 : 1 ≤ m) : growN m n whole ≤ n := by
  induction n using Nat.strongRecOn generalizing m whole with
  | ind n ih =>
    rcases Nat.lt_or_ge m n with h2 | h2
    · have hs := splitN_spec (n := n) (by omega)
      by_cases hm : m ≤ splitN n
      · rw [growN_left h1 h2 hm]
        have := ih (splitN n) (by omega) m whole hm h1
        omega
      · rw [growN_right h1 h2 hm]
        have := ih (n - splitN n) (by omega) (m - splitN n) false (by omega) (by omega)
        omega
    · obtain rfl : m = n := by omega
      rw [growN_eq]; split <;> omega
end

section
open Go Go.RowKit

/-- block i of a stream -/
def blkL (k n : List UInt8) (i : Nat) : List UInt8 := stirL (k ++ n ++ List.replicate 8 0 ++ longL (UInt64.ofNat i))
theorem blkL_length (k n : List UInt8) (i : Nat) : (blkL k n i).length = 64 := stirL_length _
/-- the octets of a stream from a place on -/
def strmL (k n : List UInt8) (a m : Nat) : List UInt8 := (List.range m).map fun j => (blkL k n ((a + j) / 64))[(a + j) % 64]?.getD 0
theorem strmL_length (k n : List UInt8) (a m : Nat) : (strmL k n a m).length = m := by simp [strmL]
theorem strmL_more (k n : List UInt8) (a m c : Nat) (hc : (a + m) % 64 + c ≤ 64) :
    strmL k n a (m + c) = strmL k n a m ++ ((blkL k n ((a + m) / 64)).drop ((a + m) % 64)).take c := by
  apply List.ext_getElem?
  intro j
  rw [List.getElem?_append, strmL_length]
  unfold strmL
  by_cases h1 : j < m
  · rw [if_pos h1, List.getElem?_map, List.getElem?_map, List.getElem?_range h1, List.getElem?_range (by omega)]
  · rw [if_neg h1]
    by_cases h2 : j < m + c
    · rw [List.getElem?_map, List.getElem?_range h2, List.getElem?_take_of_lt (by omega), List.getElem?_drop]
      have e1 : (a + j) / 64 = (a + m) / 64 := by omega
      have e2 : (a + j) % 64 = (a + m) % 64 + (j - m) := by omega
      simp only [Option.map_some, e1, e2]
      have hl := blkL_length k n ((a + m) / 64)
      rw [List.getElem?_eq_getElem (by omega)]
      rfl
    · rw [List.getElem?_eq_none (by simp; omega), List.getElem?_eq_none (by rw [List.length_take, List.length_drop, blkL_length]; omega)]

theorem zer8 : List.replicate 8 (Value.int .u8 0) = (List.replicate 8 (0 : UInt8)).map u8v := by simp [u8v]

theorem splice3 (k n l : List Value) (hk : k.length = 32) (hn : n.length = 16) (hl : l.length = 8) :
    splice (splice (splice (List.replicate 64 (.int .u8 0)) 0 k) 32 n) 56 l = k ++ n ++ List.replicate 8 (.int .u8 0) ++ l := by
  have h1 : splice (List.replicate 64 (.int .u8 0)) 0 k = k ++ List.replicate 32 (.int .u8 0) := by
    unfold splice
    rw [List.take_zero, List.nil_append, Nat.zero_add, hk, List.drop_replicate]
  have h2 : splice (k ++ List.replicate 32 (Value.int .u8 0)) 32 n = k ++ n ++ List.replicate 16 (.int .u8 0) := by
    unfold splice
    rw [List.take_append_of_le_length (by omega), List.take_of_length_le (by omega), hn, List.drop_append, List.drop_of_length_le (by omega), List.nil_append, hk, List.drop_replicate]
  have hkn : (k ++ n).length = 48 := by rw [List.length_append, hk, hn]
  rw [h1, h2]
  unfold splice
  rw [hl, List.take_append, List.take_of_length_le (by omega), hkn, List.drop_append, List.drop_of_length_le (by omega), hkn, List.nil_append, List.take_replicate, List.drop_replicate]
  simp
end

section
open Go Go.RowKit

def streamPost (k n : List UInt8) (a m : Int) (w : World) (e : Ending) (w' : World) : Prop :=
  (if a < 0 ∨ 1099511627776 < a ∨ m < 0 then e = .returned (.tuple #[.slice none 0 0, .int .i64 4])
  else if 1048576 < m then e = .returned (.tuple #[.slice none 0 0, .int .i64 5])
  else ∃ v, e = .returned (.tuple #[v, .int .i64 0]) ∧ w'.ownsRow w.heap.size 5 1 v m.toNat ((strmL k n a.toNat m.toNat).map u8v)) ∧ Ext w w'
end

section
open Go Go.RowKit

theorem own_some {w : World} {B n : Nat} {v : Value} {xs : List Value} (h : w.ownsRow B 5 1 v n xs) (hn : 0 < n) :
    ∃ g cap, v = .slice (some ⟨g, 0, none⟩) n cap ∧ B ≤ g ∧ n ≤ cap ∧ cap ≤ maxLen := by
  rcases h.2 with ⟨_, h0⟩ | ⟨g, cap, cur, h1, h2, _, h4, h5, _⟩
  · omega
  · exact ⟨g, cap, h1, h2, h4, h5⟩

/-- a text, covered -/
def coverL (k n t : List UInt8) : List UInt8 := mixTo (strmL k n 0 t.length) t t.length
theorem coverL_length (k n t : List UInt8) : (coverL k n t).length = t.length := by rw [coverL, mixTo_length, strmL_length]
end

section
open Go Go.RowKit

theorem own_block_lt {w : World} {B : Nat} {e : TypeId} {size n : Nat} {v : Value} {xs : List Value} (h : w.ownsRow B e size v n xs) : ∀ g, v.ownBlock = some g → g < w.heap.size := by
  intro g hg
  rcases h.2 with ⟨rfl, _⟩ | ⟨g', cap, cur, rfl, hb, hc, _⟩
  · cases hg
  · simp [Value.ownBlock] at hg
    subst hg
    exact (Array.getElem?_eq_some_iff.1 hc).1
end

section
open Go Go.RowKit

theorem mixTo_get (s t : List UInt8) (i j : Nat) : (mixTo s t i)[j]? = if j < i then (s[j]?).map (fun x => xor8 x (t[j]?.getD 0)) else s[j]? := by
  induction i generalizing j with
  | zero => simp [mixTo]
  | succ i ih =>
    rw [mixTo, List.getElem?_set, mixTo_length]
    by_cases h : i = j
    · subst h
      by_cases hl : i < s.length
      · simp [ih, hl]
      · simp [hl]
    · rw [if_neg h, ih]
      by_cases h1 : j < i
      · rw [if_pos h1, if_pos (by omega)]
      · rw [if_neg h1, if_neg (by omega)]
theorem cover_twice (k n t : List UInt8) : coverL k n (coverL k n t) = t := by
  apply List.ext_getElem?
  intro j
  have hl := coverL_length k n t
  have hs := strmL_length k n 0 t.length
  rw [coverL, hl, mixTo_get]
  by_cases hj : j < t.length
  · have h1 : t[j]? = some t[j] := List.getElem?_eq_getElem hj
    have h2 : (strmL k n 0 t.length)[j]? = some ((strmL k n 0 t.length)[j]'(by omega)) := List.getElem?_eq_getElem (by omega)
    rw [if_pos hj, coverL, mixTo_get, if_pos hj, h1, h2]
    simp only [Option.map_some, Option.getD_some, xor8]
    congr 1
    rw [← UInt8.xor_assoc]; simp
  · rw [if_neg hj, List.getElem?_eq_none (by omega), List.getElem?_eq_none (by omega)]
end

section
open Go Go.RowKit

theorem addr_add0 (x : Addr) : x.add 0 = x := by unfold Addr.add; split <;> simp_all
section
variable {P : Program} {ops : Array Oper} {rest : List Oper} {o : Oper} {a : Act} {w : World} {Q : Exit → Act → World → Prop}
theorem run_sliceAt_high {t e : TypeId} {p : Option Addr} {n c k : Nat} (hu : P.underlying t = some (.slice e)) (hs : (P.info? e).map (·.size) = some 1) (hk : k ≤ c) :
    (Instr.sliceAt t (.slice p n c) none (some (.int .i64 (k : Int))) none).run P w = .ok (.slice p k c) w := by
  cases hq : P.info? e with
  | none => simp [hq] at hs
  | some i =>
    have hi : i.size = 1 := by simpa [hq] using hs
    have h1 : (0 : Int) ≤ k ∧ (k : Int) ≤ c := by omega
    have ha : p.map (fun x => x.add 0) = p := by cases p <;> simp [addr_add0]
    simp [Instr.sliceAt, Instr.slice, Instr.sliceBounds, Instr.sliceBound, asIntOf, run_underlying hu, sizeOf, typeInfo, hq, hi, hk, ha]
/-- b[:k] -/
theorem wpl_slice_high (hgd : o.guard = none) (t e : TypeId) (x y : Operand) (ho : o.op = .slice t x none (some y) none) {p : Option Addr} {n c k : Nat}
    (hx : a.eval x = .slice p n c) (hy : a.eval y = .int .i64 (k : Int)) (hu : P.underlying t = some (.slice e)) (hs : (P.info? e).map (·.size) = some 1) (hk : k ≤ c)
    (h : wpList P ops Q rest (a.put o.dst (.slice p k c)) w) : wpList P ops Q (o :: rest) a w :=
  wpList_plain hgd fun K hK => by
    unfold Oper.wp execOp
    simp only [ho, hx, hy, Option.map_some, Option.map_none, run_sliceAt_high hu hs hk, Result.andThen_ok, Sem.run_bind, Sem.run_pure]
    exact hK _ _ h
end
end

section
open Go Go.RowKit

theorem ok_block {r : Result Value} {v v' : Value} {w w' : World} {x : Option Nat} (h1 : r = .ok v w) (h2 : r = .ok v' w') (hv : v.ownBlock = x) : v'.ownBlock = x := by
  rw [h1] at h2
  injection h2 with e1 e2
  rw [← e1, hv]

theorem append8_block (w : World) (B : Nat) (ty : TypeId) {v : Value} {n m c : Nat} {xs ys : List UInt8} {y : Addr} (hown : w.ownsRow B 5 1 v n (xs.map u8v)) (hm : ys.length = m) (hc : Cells w (some y) (ys.map u8v))
    (hb : n + m ≤ 140737488355328) (hbase : B ≤ w.heap.size) :
    ∃ v' w', (Builtin.append_ #[73, 73] ty #[v, .slice (some y) m c]).run Try.prog w = .ok v' w' ∧ w'.ownsRow B 5 1 v' (n + m) ((xs ++ ys).map u8v) ∧ w.grownBy w' v.ownBlock ∧
      (v'.ownBlock = v.ownBlock ∨ v'.ownBlock = some w.heap.size) := by
  obtain ⟨i0, hi, hz, hsz, hb1⟩ := info_parts info_u8
  have hl : (ys.map u8v).length = m * 1 := by rw [List.length_map, hm, Nat.mul_one]
  have hl' : (ys.map u8v).length = m * i0.size := by rw [hsz]; exact hl
  obtain ⟨v', w', hr, h1, h2, h3⟩ := run_append_own (P := Try.prog) w B 73 ty 5 i0 (.int .u8 0) 1 1 Try.underlying73 hi hz hsz hb1 rfl (by decide) v n (xs.map u8v) hown y m c (ys.map u8v) hl (news_cells hc) (one_u8 _) (by unfold maxLen; omega) (by omega) hbase
  refine ⟨v', w', hr, by rw [List.map_append]; exact h1, h2, ?_⟩
  rcases hown.2 with ⟨rfl, rfl⟩ | ⟨g, cap, cur, rfl, hbg, hg, hnc, hcm, hcs, htake⟩
  · by_cases hm0 : m = 0
    · left
      rw [h3.2 ⟨rfl, hm0⟩]
    · right
      have hr2 := run_append_nil (P := Try.prog) w 73 ty 5 i0 (.int .u8 0) Try.underlying73 hi hz y m c (ys.map u8v) hl' (news_cells hc) (by omega) (by omega) (by rw [hb1]; omega)
      exact ok_block hr2 hr rfl
  · by_cases hroom : n + m ≤ cap
    · left
      obtain ⟨w2, hr2, _⟩ := run_append_fits (P := Try.prog) w B 73 ty 5 i0 1 Try.underlying73 hi hsz g n cap (xs.map u8v) hown y m c (ys.map u8v) hl (news_cells hc) (one_u8 _) hroom
      exact ok_block hr2 hr rfl
    · right
      have hr2 := run_append_grow (P := Try.prog) w 73 ty 5 i0 (.int .u8 0) Try.underlying73 hi hz ⟨g, 0, none⟩ n cap (xs.map u8v) (by rw [hsz]; exact hown.1) (hown.cells (g := g) rfl) y m c (ys.map u8v) hl' (news_cells hc) (by omega) (by omega) (growslice_fits (by omega) (by rw [hb1]; omega))
      exact ok_block hr2 hr rfl

section
variable {ops : Array Oper} {rest : List Oper} {o : Oper} {a : Act} {w : World} {Q : Exit → Act → World → Prop}
/-- append onto a row of one's own, whether behind a guard or not -/
theorem wpg_append8 (hw : Region.wanted o (yielded ops a.tmps) = true) (s x : Operand)
    (ho : o.op = .call { callee := .builtin .append, args := #[s, x], argTypes := #[73, 73] }) (base : Nat) {v : Value} {n m c : Nat} {xs ys : List UInt8} {ad : Option Addr}
    (hs : a.eval s = v) (hx : a.eval x = .slice ad m c) (hown : w.ownsRow base 5 1 v n (xs.map u8v)) (hm : ys.length = m) (had : ad = none → m = 0 ∧ c = 0) (hc : Cells w ad (ys.map u8v))
    (hb : n + m ≤ 140737488355328) (hbase : base ≤ w.heap.size)
    (h : ∀ v' w', w'.ownsRow base 5 1 v' (n + m) ((xs ++ ys).map u8v) → w.grownBy w' v.ownBlock → (v'.ownBlock = v.ownBlock ∨ v'.ownBlock = some w.heap.size) → wpList Try.prog ops Q rest (a.put o.dst v') w') : wpList Try.prog ops Q (o :: rest) a w := by
  obtain ⟨i0, hi, hz, hsz, hb1⟩ := info_parts info_u8
  refine wpList_want hw fun K hK => ?_
  cases ad with
  | none =>
    obtain ⟨rfl, rfl⟩ := had rfl
    have hy : ys = [] := List.length_eq_zero_iff.1 hm
    subst hy
    have h' := h v w (by simpa using hown) (grown_refl w _) (.inl rfl)
    have hrun := run_append_owned_none (P := Try.prog) (w := w) base 73 o.type 5 i0 1 Try.underlying73 hi v n (xs.map u8v) hown
    unfold Oper.wp
    simp [execOp, ho, resolve, invoke, builtin, hs, hx, hrun, Result.andThen]
    exact hK _ _ h'
  | some y =>
    obtain ⟨v', w', hr, h1, h2, h3⟩ := append8_block w base o.type (c := c) hown hm hc hb hbase
    exact Lib.wp_append_run w s x _ _ ho v _ hs hx v' w' hr (hK _ _ (h v' w' h1 h2 h3))
end
end

section
open Go Go.RowKit

def sumOfV (d : Int) (t : List UInt8) (n : Nat) : Value :=
  if d < 0 ∨ 255 < d then .tuple #[zeros 32, .int .i64 3] else if n ≤ 1048576 then .tuple #[.agg ((sumL d t).map u8v).toArray, .int .i64 0] else .tuple #[zeros 32, .int .i64 5]

set_option maxRecDepth 100000 in
set_option maxHeartbeats 1000000 in
theorem sumOf_c (d : Int) (t : List UInt8) (n c : Nat) (a : Option Addr) (w : World) (ht : t.length = n) (hnc : n ≤ c) (hc : c ≤ 9223372036854775807) (h0 : a = none → c = 0) (hcl : Cells w a (t.map u8v)) :
    Calls Try.prog 65 #[.int .i64 d, .slice a n c] w fun e w' => e = .returned (sumOfV d t n) ∧ Ext w w' := by
  obtain ⟨V, hV⟩ : ∃ V, sumOfV d t n = V := ⟨_, rfl⟩
  rw [hV]
  unfold sumOfV at hV
  have HV := hid hV
  have HT := hid ht
  have HC := hid hcl
  have H0 := hid h0
  clear ht hcl h0 hV
  go_enter Try.func65, Try.ntmps65
  go_wp2_with fail
  generalize hwA : World.alloc (World.alloc w _) _ = wA
  have zA : Blk wA w.heap.size (List.replicate 32 (.int .u8 0)) 40 := by rw [← hwA]; exact (Blk.mk_alloc rfl rfl).alloc _
  have gA : Blk wA (w.heap.size + 1) [.slice a n c] 73 := by rw [← hwA]; exact Blk.mk_alloc (by simp) rfl
  have eA : Ext w wA := by rw [← hwA]; exact ((Ext.refl w).alloc _).alloc _
  clear hwA
  have hcat : cat [(a, c, t)] = t := by simp [cat]
  refine (summed_c [(a, c, t)] d (w.heap.size + 1) 1 1 wA rfl (by omega) ?hg gA.lt ?hc ?hn ?hnc ?hcm).mono ?_
  case hg =>
    intro i it hit
    match i, hit with
    | 0, hit => cases hit; rw [itemV]; simp only; rw [HT.out]; exact gA.cell' rfl
  case hc =>
    intro it hit
    simp only [List.mem_cons, List.not_mem_nil, or_false] at hit
    subst hit
    exact HC.out.ext eA
  case hn =>
    intro it hit
    simp only [List.mem_cons, List.not_mem_nil, or_false] at hit
    subst hit
    exact H0.out
  case hnc =>
    intro it hit
    simp only [List.mem_cons, List.not_mem_nil, or_false] at hit
    subst hit
    simp only
    rw [HT.out]; exact hnc
  case hcm =>
    intro it hit
    simp only [List.mem_cons, List.not_mem_nil, or_false] at hit
    subst hit
    exact hc
  intro e w1 h
  rw [hcat] at h
  unfold summedPost at h
  rw [HT.out] at h
  obtain ⟨h, e1⟩ := h
  have HZ1 := hid (zA.ext e1)
  have HE1 := hid (eA.ext e1)
  have hlA : w.heap.size < wA.heap.size := zA.lt
  clear zA gA eA e1 hcat
  by_cases hd : d < 0 ∨ 255 < d
  · rw [if_pos hd] at h
    have hv := HV.out
    rw [if_pos hd] at hv
    subst h
    have HV2 := hid hv
    clear hd hv HV
    go_wp2_with (refine wpl_storew rfl _ _ _ rfl rfl rfl HZ1.out agg_apisum (by simp) (xs := List.replicate 32 (.int .u8 0)) (by simp) (one_zeros 32) ?_)
    intro w4 b4 u4
    go_wp2
    refine ret_row2 rfl rfl b4 agg_apisum (by simp) rfl ⟨by rw [← HV2.out]; unfold zeros; rfl, u4.ext HE1.out (by omega)⟩
  · rw [if_neg hd] at h
    have hv := HV.out
    rw [if_neg hd] at hv
    by_cases hfit : n ≤ 1048576
    · rw [if_pos hfit] at h hv
      obtain ⟨rfl, h1⟩ := h
      have hsm := sum_c (initS d) t n wA.heap.size SmT w1 (initS_length d) (by omega) h1
      rw [show (finL (initS d) t n).take 32 = sumL d t by rw [sumL, HT.out]] at hsm
      have HSL : Hid (((sumL d t).map u8v).length = 32) := hid (by rw [List.length_map, sumL_length])
      have o1 := one_u8 (sumL d t)
      generalize (sumL d t).map u8v = sv at *
      have HV2 := hid hv
      have HSM := hid hsm
      clear hd hv HV hsm h1 hfit
      go_wp2_with fail
      refine HSM.out.mono ?_
      rintro e w2 ⟨rfl, e2⟩
      have HZ2 := hid (HZ1.out.ext e2)
      have HE2 := hid (HE1.out.ext e2)
      clear e2 HSM
      go_wp2_with (refine wpl_storew rfl _ _ _ rfl rfl rfl HZ2.out agg_apisum (by simp) HSL.out o1 ?_)
      intro w4 b4 u4
      go_wp2
      refine ret_row2 rfl rfl b4 agg_apisum HSL.out rfl ⟨by rw [← HV2.out]; rfl, u4.ext HE2.out (by omega)⟩
    · rw [if_neg hfit] at h hv
      subst h
      have HV2 := hid hv
      clear hd hv HV hfit
      go_wp2_with (refine wpl_storew rfl _ _ _ rfl rfl rfl HZ1.out agg_apisum (by simp) (xs := List.replicate 32 (.int .u8 0)) (by simp) (one_zeros 32) ?_)
      intro w4 b4 u4
      go_wp2
      refine ret_row2 rfl rfl b4 agg_apisum (by simp) rfl ⟨by rw [← HV2.out]; unfold zeros; rfl, u4.ext HE1.out (by omega)⟩

theorem longL_drop (u : UInt64) : (longL u).drop 4 = octL (UInt32.ofNat u.toNat) := rfl

/-- parts, each with its length ahead -/
def frameL (its : List Item) : List UInt8 := (its.map fun it => octL (UInt32.ofNat it.2.2.length) ++ it.2.2).flatten
theorem frameL_succ {its : List Item} {k : Nat} {it : Item} (h : its[k]? = some it) : frameL (its.take (k + 1)) = frameL (its.take k) ++ octL (UInt32.ofNat it.2.2.length) ++ it.2.2 := by
  unfold frameL
  rw [List.take_add_one, h]; simp
theorem frameL_le (its : List Item) (k : Nat) : (frameL (its.take k)).length ≤ (frameL its).length := by
  have h2 : frameL its = frameL (its.take k) ++ frameL (its.drop k) := by
    unfold frameL
    rw [← List.flatten_append, ← List.map_append, List.take_append_drop]
  rw [h2, List.length_append]
  omega
end

section
open Go Go.RowKit

def nodeL (x y : List UInt8) : List UInt8 := sumL 2 (x ++ y)
theorem nodeL_length (x y : List UInt8) : (nodeL x y).length = 32 := sumL_length _ _
end

section
open Go Go.RowKit

theorem bitLen_split {n : Nat} (h : 2 ≤ n) (h2 : n ≤ 4611686018427387904) : ∃ j, Lib.bitLen (n - 1) = j + 1 ∧ j ≤ 61 ∧ 2 ^ j = splitN n := by
  have hb := Lib.bitLenAux_bounds 64 (n - 1) (by omega) (by omega)
  have hle := Lib.bitLen_le (n - 1) 62 (by omega) (by omega)
  unfold Lib.bitLen at *
  obtain ⟨h3, h4, h5⟩ := hb
  generalize Lib.bitLenAux 64 (n - 1) = m at *
  obtain ⟨j, rfl⟩ : ∃ j, m = j + 1 := ⟨m - 1, by omega⟩
  rw [Nat.add_sub_cancel] at h4
  rw [Nat.pow_succ] at h5
  exact ⟨j, rfl, by omega, splitN_eq (by omega) (by omega)⟩
end

section
open Go Go.RowKit
end

section
open Go Go.RowKit
end

section
open Go Go.RowKit

theorem size_apisum : (Try.prog.info? 40).map (·.size) = some 32 := by kernel_rfl
end

section
open Go Go.RowKit

theorem info_bool : (Try.prog.info? 4).map (fun i => (i.zero, i.size, i.bytes)) = some (some (.bool false), 1, 1) := by kernel_rfl
theorem own_sliceT {w : World} {B : Nat} {T : TypeId} {z : Nat} {v : Value} {n : Nat} {xs : List Value} (hz : 0 < z) (h : w.ownsRow B T z v n xs) :
    ∃ a c, v = .slice a n c ∧ n ≤ c ∧ c ≤ maxLen ∧ (a = none → c = 0) ∧ Cells w a xs := by
  obtain ⟨hl, h⟩ := h
  rcases h with ⟨rfl, rfl⟩ | ⟨g, cap, cur, rfl, hb, hg, h1, h2, h3, h4⟩
  · refine ⟨none, 0, rfl, Nat.le_refl _, by unfold maxLen; omega, fun _ => rfl, .inl ?_⟩
    exact List.length_eq_zero_iff.1 (by omega)
  · refine ⟨_, cap, rfl, h1, h2, (fun h => by cases h), .inr ⟨g, 0, rfl, fun i u hu => ?_⟩⟩
    rw [← h4] at hu
    have hi : i < n * z := by
      have := (List.getElem?_eq_some_iff.1 hu).1
      simp only [List.length_take] at this; omega
    rw [List.getElem?_take_of_lt hi] at hu
    rw [Nat.zero_add]
    exact Blk.cell' (vs := cur.toList) (T := T) (by simpa [Blk] using hg) hu
end

section
open Go Go.RowKit

def zero32 : List UInt8 := List.replicate 32 0
theorem zero32_map : zero32.map u8v = List.replicate 32 (.int .u8 0) := by simp [zero32, u8v]
theorem zero32_length : zero32.length = 32 := by simp [zero32]
def rootByL (x : List UInt8) (I Z : Int) (ls : List (List UInt8)) : List UInt8 × Int :=
  if Z < 1 ∨ 65536 < Z then (zero32, 4) else if I < 0 ∨ Z ≤ I then (zero32, 7) else if ls.length = (sidesL I.toNat Z.toNat).length then (leadS nodeL x (sidesL I.toNat Z.toNat) ls, 0) else (zero32, 12)
def sumErr (p : List UInt8 × Int) : Value := .tuple #[.agg (p.1.map u8v).toArray, .int .i64 p.2]
end

section
open Go Go.RowKit
end

section
open Go Go.RowKit

theorem rootByL_length (x : List UInt8) (I Z : Int) (ls : List (List UInt8)) (hx : x.length = 32) : (rootByL x I Z ls).1.length = 32 := by
  unfold rootByL
  split
  · exact zero32_length
  · split
    · exact zero32_length
    · split
      · exact leadS_length _ nodeL_length _ _ _ hx
      · exact zero32_length
def provedL (root x : List UInt8) (I Z : Int) (ls : List (List UInt8)) : Int := if (rootByL x I Z ls).2 = 0 then (if (rootByL x I Z ls).1 == root then 0 else 12) else (rootByL x I Z ls).2
end

section
open Go Go.RowKit

def headE (C T : Int) : Int := if C < 0 ∨ 65536 < C ∨ T < 0 ∨ 1099511627776 < T then 4 else 0
def headV (C T : Int) (r1 r2 : List UInt8) : List Value := .int .i64 C :: .int .i64 T :: (r1.map u8v ++ r2.map u8v)
def headO (C T : Int) (r1 r2 : List UInt8) : List UInt8 := [75, 87, 72, 49] ++ longL (UInt64.ofNat C.toNat) ++ longL (UInt64.ofNat T.toNat) ++ r1 ++ r2
def headPost (C T : Int) (r1 r2 : List UInt8) (w : World) (e : Ending) (w' : World) : Prop :=
  ∃ v, e = .returned (.tuple #[v, .int .i64 (headE C T)]) ∧ (if headE C T = 0 then w'.ownsRow w.heap.size 5 1 v 84 ((headO C T r1 r2).map u8v) else v = .slice none 0 0) ∧ Ext w w'
theorem headV_length (C T : Int) {r1 r2 : List UInt8} (h1 : r1.length = 32) (h2 : r2.length = 32) : (headV C T r1 r2).length = 66 := by simp [headV, h1, h2]
theorem headV_r1 (C T : Int) {r1 r2 : List UInt8} (h1 : r1.length = 32) : ((headV C T r1 r2).drop 2).take 32 = r1.map u8v := by
  simp [headV, ← h1]
theorem headV_r2 (C T : Int) {r1 r2 : List UInt8} (h1 : r1.length = 32) (h2 : r2.length = 32) : ((headV C T r1 r2).drop 34).take 32 = r2.map u8v := by
  have : (headV C T r1 r2).drop 34 = r2.map u8v := by
    show (Value.int .i64 C :: Value.int .i64 T :: (r1.map u8v ++ r2.map u8v)).drop 34 = _
    rw [List.drop_succ_cons, List.drop_succ_cons, List.drop_left' (by simp [h1])]
  rw [this, List.take_of_length_le (by simp [h2])]
theorem agg_head : AggT Try.prog 70 66 := ⟨⟨_, Try.underlying70, rfl⟩, by kernel_rfl⟩

theorem Cls.grownF {w0 W w w' : World} {L : List Nat} {row : Option Nat} (h : Cls w0 W L [] w) (k : w.grownBy w' row) (hr : ∀ g, row = some g → g ∉ L) (h0 : ∀ g, row = some g → w0.heap.size ≤ g) : Cls w0 W L [] w' :=
  ⟨h.base.grown k h0, ⟨Nat.le_trans h.kept.1 k.size, h.kept.2.1, fun g hg => (k.block g (Nat.lt_of_lt_of_le (h.kept.2.1 g hg) h.kept.1) (fun e => hr g e.symm hg)).trans (h.kept.2.2 g hg)⟩, fun x hx => by cases hx⟩
theorem cells_const (ys : List Value) (T : TypeId) (w : World) (z : Nat × Nat) : Cells (w.alloc (.cells ys.toArray T z)) (some ⟨w.heap.size, 0, none⟩) ys := by
  refine .inr ⟨w.heap.size, 0, rfl, fun i u hu => ?_⟩
  have hh : (w.alloc (.cells ys.toArray T z)).heap[w.heap.size]? = some (.cells ys.toArray T z) := by
    show (w.heap.push _)[w.heap.size]? = _
    simp
  rw [Nat.zero_add]
  simp only [World.cell?, hh]
  simpa using hu

theorem outside_c (n a b : Int) (w : World) :
    Calls Try.prog 82 #[.int .i64 n, .int .i64 a, .int .i64 b] w fun e w' => e = .returned (.bool (decide (n < a) || decide (b < n))) ∧ w = w' := by
  by_cases h : n < a
  · have d1 : decide (n < a) = true := decide_eq_true h
    go_enter Try.func82, Try.ntmps82
    go_wp2
    go_ret
    exact ⟨by first | rfl | (rw [d1]; rfl), rfl⟩
  · have d1 : decide (n < a) = false := decide_eq_false h
    go_enter Try.func82, Try.ntmps82
    go_wp2
    go_ret
    exact ⟨by first | rfl | (rw [d1]; rfl), rfl⟩

set_option maxRecDepth 100000 in
set_option maxHeartbeats 2000000 in
theorem printHead_c (C T : Int) (r1 r2 : List UInt8) (w : World) (h1 : r1.length = 32) (h2 : r2.length = 32) :
    Calls Try.prog 32 #[.agg (headV C T r1 r2).toArray] w (headPost C T r1 r2 w) := by
  obtain ⟨E, hE⟩ : ∃ E, headE C T = E := ⟨_, rfl⟩
  have HE := hid hE
  unfold headE at hE
  have hv0 : (headV C T r1 r2)[0]? = some (.int .i64 C) := rfl
  have hv1 : (headV C T r1 r2)[1]? = some (.int .i64 T) := rfl
  have HVL := hid (headV_length C T h1 h2)
  have HR1 := hid (headV_r1 C T (r2 := r2) h1)
  have HR2 := hid (headV_r2 C T h1 h2)
  have HL1 := hid h1
  have HL2 := hid h2
  clear h1 h2
  generalize headV C T r1 r2 = hv at *
  go_enter Try.func32, Try.ntmps32
  go_upto_region 1 with (fail)
  generalize hwA : World.alloc w _ = wA
  have pA : Blk wA w.heap.size hv 70 := by rw [← hwA]; exact Blk.mk_alloc rfl rfl
  have eA : Ext w wA := by rw [← hwA]; exact (Ext.refl w).alloc _
  have c0 : wA.cell? ⟨w.heap.size, 0, none⟩ = some (.int .i64 C) := pA.cell' hv0
  have c1 : wA.cell? ⟨w.heap.size, 1, none⟩ = some (.int .i64 T) := pA.cell' hv1
  have PA := hid pA
  have EA := hid eA
  have HV0 := hid hv0
  have HV1 := hid hv1
  clear hwA pA eA hv0 hv1
  by_cases hbad : C < 0 ∨ 65536 < C
  · rw [if_pos (by omega)] at hE
    have db : (decide (C < 0) || decide (65536 < C)) = true := by simpa using hbad
    subst hE
    go_wp2_with (first | (go_at_call 82; refine (outside_c _ _ _ _).mono ?_; rintro e w' ⟨rfl, rfl⟩; rw [db]))
    go_ret2
    exact ⟨_, by rw [HE.out]; rfl, by rw [HE.out]; rfl, EA.out⟩
  · have db : (decide (C < 0) || decide (65536 < C)) = false := by simp at hbad ⊢; omega
    by_cases hbad2 : T < 0 ∨ 1099511627776 < T
    · rw [if_pos (by omega)] at hE
      have db2 : (decide (T < 0) || decide (1099511627776 < T)) = true := by simpa using hbad2
      subst hE
      go_wp2_with (first | (go_at_call 82; refine (outside_c _ _ _ _).mono ?_; rintro e w' ⟨rfl, rfl⟩; first | rw [db] | rw [db2]))
      go_ret2
      exact ⟨_, by rw [HE.out]; rfl, by rw [HE.out]; rfl, EA.out⟩
    · have db2 : (decide (T < 0) || decide (1099511627776 < T)) = false := by simp at hbad2 ⊢; omega
      rw [if_neg (by omega)] at hE
      subst hE
      obtain ⟨i, rfl⟩ := Int.eq_ofNat_of_zero_le (show 0 ≤ C by omega)
      obtain ⟨z, rfl⟩ := Int.eq_ofNat_of_zero_le (show 0 ≤ T by omega)
      have hlI : longNat (i : Int) = i := by unfold longNat; rw [if_neg (by omega)]; rfl
      have hlZ : longNat (z : Int) = z := by unfold longNat; rw [if_neg (by omega)]; rfl
      have hp1 := hid (fun g w' h => putLong_c [75, 87, 72, 49] (some ⟨g, 0, none⟩) 4 4 (i : Int) w' rfl (by omega) h (fun h => by cases h))
      have hp2 := hid (fun a' c' w' h h0 => putLong_c ([75, 87, 72, 49] ++ longL (UInt64.ofNat i)) a' 12 c' (z : Int) w' rfl (by omega) h h0)
      rw [hlI] at hp1
      rw [hlZ] at hp2
      clear hlI hlZ
      go_wp2_with (first | (go_at_call 82; refine (outside_c _ _ _ _).mono ?_; rintro e w' ⟨rfl, rfl⟩; first | rw [db] | rw [db2]))
      obtain ⟨C, hC⟩ : ∃ C : World → Prop, C = Cls w wA [w.heap.size] [] := ⟨_, rfl⟩
      have hC0 : ∀ w', C w' ↔ Cls w wA [w.heap.size] [] w' := fun w' => by rw [hC]
      clear hC
      have HCC := hid hC0
      clear hC0
      have hCx : ∀ w w', C w → Ext w w' → C w' := fun w w' h1 h2 => (HCC.out w').2 (((HCC.out w).1 h1).ext h2)
      have hCA : C wA := (HCC.out _).2 (Cls.no_room EA.out (Kept.one PA.out.lt))
      have e0 : ∀ w1, C w1 → w1.cell? ⟨w.heap.size, 0, none⟩ = some (.int .i64 (i : Int)) := fun w1 h1 => (((HCC.out w1).1 h1).blk PA.out (by simp)).cell' HV0.out
      have e1 : ∀ w1, C w1 → w1.cell? ⟨w.heap.size, 1, none⟩ = some (.int .i64 (z : Int)) := fun w1 h1 => (((HCC.out w1).1 h1).blk PA.out (by simp)).cell' HV1.out
      clear c0 c1 hbad hbad2 db db2
      refine wp_region_held_drew (S := C) (by kernel_rfl) (hCx _ _ hCA (Ext.refl _).drew) (fun hS0 => ?_)
      refine held_take 2 (v := ?tv1) rfl (by kernel_rfl) (by kernel_rfl) (by kernel_rfl) (fun _ _ _ h => h) (.inl ⟨rfl, ?ty1⟩) hS0 ?tr1
      case ty1 => (intro _ _; go_simp; try with_reducible rfl)
      case tr1 =>
      simp only [Act.put, List.setIfInBounds_toArray, List.set_cons_succ, List.set_cons_zero]
      refine held_take 3 (v := ?tv2) rfl (by kernel_rfl) (by kernel_rfl) (by kernel_rfl) (fun _ _ _ h => h) (.inl ⟨rfl, ?ty2⟩) hS0 ?tr2
      case ty2 => (intro wq hwq; have hcq := (e0) wq hwq; go_simp; try with_reducible rfl)
      case tr2 =>
      simp only [Act.put, List.setIfInBounds_toArray, List.set_cons_succ, List.set_cons_zero]
      refine held_take 5 (v := ?tv3) rfl (by kernel_rfl) (by kernel_rfl) (by kernel_rfl) (fun _ _ _ h => h) (.inl ⟨rfl, ?ty3⟩) hS0 ?tr3
      case ty3 => (intro _ _; go_simp; try with_reducible rfl)
      case tr3 =>
      simp only [Act.put, List.setIfInBounds_toArray, List.set_cons_succ, List.set_cons_zero]
      refine held_take 6 (v := ?tv4) rfl (by kernel_rfl) (by kernel_rfl) (by kernel_rfl) (fun _ _ _ h => h) (.inl ⟨rfl, ?ty4⟩) hS0 ?tr4
      case ty4 => (intro wq hwq; have hcq := (e1) wq hwq; go_simp; try with_reducible rfl)
      case tr4 =>
      simp only [Act.put, List.setIfInBounds_toArray, List.set_cons_succ, List.set_cons_zero]
      generalize wA.drew = wD at *
      have hwD : wA.heap.size ≤ wD.heap.size := ((HCC.out wD).1 hS0).kept.1
      have kc := fun (w : World) (C : Array Value) (n c : Nat) => Lib.run_convert_bytes_const (P := Try.prog) w 73 5 C n c Try.underlying73 Try.underlying5
      refine held_one (i := 0) (by kernel_rfl) rfl ?_
      intro Q' hQ
      go_wp2_with fail
      refine hQ _ _ (hCx _ _ hS0 ((Ext.refl wD).alloc _)) ?_
      clear hQ Q'
      try dsimp only
      try simp only [Act.put, List.setIfInBounds_toArray, List.set_cons_succ, List.set_cons_zero]
      refine held_one (i := 1) (by kernel_rfl) rfl ?_
      intro Q' hQ
      go_wp2_with fail
      refine hQ _ _ (hCx _ _ hS0 ((Ext.refl wD).alloc _)) ?_
      clear hQ Q' kc
      have C4 := hid (show Cells (wD.alloc (.cells #[Value.int .u8 75, Value.int .u8 87, Value.int .u8 72, Value.int .u8 49] 5 (4, 5))) (some ⟨wD.heap.size, 0, none⟩) (List.map u8v [75, 87, 72, 49]) from cells_const ([75, 87, 72, 49].map u8v) 5 wD (4, 5))
      have hE4 := hCx _ _ hS0 ((Ext.refl wD).alloc (.cells #[Value.int .u8 75, Value.int .u8 87, Value.int .u8 72, Value.int .u8 49] 5 (4, 5)))
      clear hS0
      generalize wD.alloc (.cells #[Value.int .u8 75, Value.int .u8 87, Value.int .u8 72, Value.int .u8 49] 5 (4, 5)) = wE at *
      generalize wD.heap.size = g4 at *
      try dsimp only
      try simp only [Act.put, List.setIfInBounds_toArray, List.set_cons_succ, List.set_cons_zero]
      have hS0 := hE4
      clear hE4
      refine held_one (i := 4) (by kernel_rfl) rfl ?_
      intro Q' hQ
      go_wp2_with fail
      refine (hp1.out g4 wE C4.out).mono ?_
      rintro e wF ⟨v1, rfl, own1, eF⟩
      obtain ⟨a1, k1, rfl, -, -, hn1, hc1⟩ := own_slice own1
      have hF := hCx _ _ hS0 eF
      go_wp2_with fail
      refine hQ _ _ hF ?_
      clear hQ Q' hS0 eF own1 hp1 C4
      have C1 := hid hc1
      have N1 := hid hn1
      clear hc1 hn1
      try dsimp only
      try simp only [Act.put, List.setIfInBounds_toArray, List.set_cons_succ, List.set_cons_zero]
      refine held_one (i := 7) (by kernel_rfl) rfl ?_
      intro Q' hQ
      go_wp2_with fail
      refine (hp2.out a1 k1 wF C1.out N1.out).mono ?_
      rintro e wG ⟨v2, rfl, own2, eG⟩
      have hG := hCx _ _ hF eG
      have own3 := own_lower own2 (show w.heap.size + 1 ≤ wF.heap.size from by have := PA.out.lt; have := ((HCC.out wF).1 hF).kept.1; omega)
      obtain ⟨a2, k2, rfl, -, -, hn2, hc2⟩ := own_slice own3
      go_wp2_with fail
      refine hQ _ _ hG ?_
      clear hQ Q' hF eG own2 C1 N1 hp2 hn2 hc2
      have O2 := hid own3
      clear own3
      try dsimp only
      try simp only [Act.put, List.setIfInBounds_toArray, List.set_cons_succ, List.set_cons_zero]
      have hS0 := hG
      clear hG
      refine held_take 8 (v := ?tv5) rfl (by kernel_rfl) (by kernel_rfl) (by kernel_rfl) (fun _ _ _ h => h) (.inl ⟨rfl, ?ty5⟩) hS0 ?tr5
      case ty5 => (intro _ _; go_simp; try with_reducible rfl)
      case tr5 =>
      simp only [Act.put, List.setIfInBounds_toArray, List.set_cons_succ, List.set_cons_zero]
      have PG := hid (((HCC.out wG).1 hS0).blk PA.out (by simp))
      have EG := hid ((HCC.out wG).1 hS0).base
      clear hS0 HCC hCx hCA e0 e1 PA EA
      refine wpAnyH_done (by kernel_rfl) ?_ _
      go_wp2
      obtain ⟨C, hC⟩ : ∃ C : World → Prop, C = Cls w wG [w.heap.size] [] := ⟨_, rfl⟩
      have hC0 : ∀ w', C w' ↔ Cls w wG [w.heap.size] [] w' := fun w' => by rw [hC]
      clear hC
      have HCC := hid hC0
      clear hC0
      have hCx : ∀ w w', C w → Ext w w' → C w' := fun w w' h1 h2 => (HCC.out w').2 (((HCC.out w).1 h1).ext h2)
      have hCA : C wG := (HCC.out _).2 (Cls.no_room EG.out (Kept.one PG.out.lt))
      have e2 : ∀ w1, C w1 → Cells w1 (some ⟨w.heap.size, 2, none⟩) (r1.map u8v) := fun w1 h1 => by
        have := Cells.of_blk (((HCC.out w1).1 h1).blk PG.out (by simp)) 2 32
        rwa [HR1.out] at this
      have e3 : ∀ w1, C w1 → Cells w1 (some ⟨w.heap.size, 34, none⟩) (r2.map u8v) := fun w1 h1 => by
        have := Cells.of_blk (((HCC.out w1).1 h1).blk PG.out (by simp)) 34 32
        rwa [HR2.out] at this
      refine wp_region_held_drew (S := C) (by kernel_rfl) (hCx _ _ hCA (Ext.refl _).drew) (fun hS0 => ?_)
      refine held_take 0 (v := ?tv6) rfl (by kernel_rfl) (by kernel_rfl) (by kernel_rfl) (fun _ _ _ h => h) (.inl ⟨rfl, ?ty6⟩) hS0 ?tr6
      case ty6 => (intro _ _; go_simp; try with_reducible rfl)
      case tr6 =>
      simp only [Act.put, List.setIfInBounds_toArray, List.set_cons_succ, List.set_cons_zero]
      refine held_take 1 (v := ?tv7) rfl (by kernel_rfl) (by kernel_rfl) (by kernel_rfl) (fun _ _ _ h => h) (.inl ⟨rfl, ?ty7⟩) hS0 ?tr7
      case ty7 => (intro _ _; go_simp; try with_reducible rfl)
      case tr7 =>
      simp only [Act.put, List.setIfInBounds_toArray, List.set_cons_succ, List.set_cons_zero]
      refine held_take 2 (v := ?tv8) rfl (by kernel_rfl) (by kernel_rfl) (by kernel_rfl) (fun _ _ _ h => h) (.inl ⟨rfl, ?ty8⟩) hS0 ?tr8
      case ty8 => (intro _ _; go_simp; try with_reducible rfl)
      case tr8 =>
      simp only [Act.put, List.setIfInBounds_toArray, List.set_cons_succ, List.set_cons_zero]
      refine held_take 4 (v := ?tv9) rfl (by kernel_rfl) (by kernel_rfl) (by kernel_rfl) (fun _ _ _ h => h) (.inl ⟨rfl, ?ty9⟩) hS0 ?tr9
      case ty9 => (intro _ _; go_simp; try with_reducible rfl)
      case tr9 =>
      simp only [Act.put, List.setIfInBounds_toArray, List.set_cons_succ, List.set_cons_zero]
      refine held_take 5 (v := ?tv10) rfl (by kernel_rfl) (by kernel_rfl) (by kernel_rfl) (fun _ _ _ h => h) (.inl ⟨rfl, ?ty10⟩) hS0 ?tr10
      case ty10 => (intro _ _; go_simp; try with_reducible rfl)
      case tr10 =>
      simp only [Act.put, List.setIfInBounds_toArray, List.set_cons_succ, List.set_cons_zero]
      have OH := hid (ownsRow_ext O2.out (Ext.refl wG).drew)
      have hbH : w.heap.size + 1 ≤ wG.drew.heap.size := by have := PG.out.lt; have := ((HCC.out _).1 hS0).kept.1; omega
      clear O2
      generalize wG.drew = wH at *
      refine held_one (i := 3) (by kernel_rfl) rfl ?_
      intro Q' hQ
      go_wp2_with (at_builtin; refine wpl_append8 rfl _ _ rfl (w.heap.size + 1) (ys := r1) rfl rfl OH.out HL1.out (fun h => by cases h) (e2 wH hS0) (by omega) hbH ?_)
      intro v3 wI own4 g4
      have OI := hid (show wI.ownsRow (w.heap.size + 1) 5 1 v3 52 (([75, 87, 72, 49] ++ longL (UInt64.ofNat i) ++ longL (UInt64.ofNat z) ++ r1).map u8v) from by simpa using own4)
      clear own4
      have hv := fun g' h => own_block_ge OH.out g' h
      have hI : C wI := (HCC.out _).2 (((HCC.out _).1 hS0).grownF g4 (fun g' h => by have := hv g' h; simp; omega) (fun g' h => by have := hv g' h; omega))
      have hbI : w.heap.size + 1 ≤ wI.heap.size := Nat.le_trans hbH g4.size
      go_wp2_with fail
      refine hQ _ _ hI ?_
      clear hQ Q' hS0 g4 hv OH hbH
      try dsimp only
      try simp only [Act.put, List.setIfInBounds_toArray, List.set_cons_succ, List.set_cons_zero]
      refine held_one (i := 6) (by kernel_rfl) rfl ?_
      intro Q' hQ
      go_wp2_with (at_builtin; refine wpl_append8 rfl _ _ rfl (w.heap.size + 1) (ys := r2) rfl rfl OI.out HL2.out (fun h => by cases h) (e3 wI hI) (by omega) hbI ?_)
      intro v4 wJ own5 g5
      have OJ := hid (show wJ.ownsRow (w.heap.size + 1) 5 1 v4 84 (([75, 87, 72, 49] ++ longL (UInt64.ofNat i) ++ longL (UInt64.ofNat z) ++ r1 ++ r2).map u8v) from by simpa using own5)
      clear own5
      have hv := fun g' h => own_block_ge OI.out g' h
      have hJ : C wJ := (HCC.out _).2 (((HCC.out _).1 hI).grownF g5 (fun g' h => by have := hv g' h; simp; omega) (fun g' h => by have := hv g' h; omega))
      go_wp2_with fail
      refine hQ _ _ hJ ?_
      clear hQ Q' hI g5 hv OI hbI
      try dsimp only
      try simp only [Act.put, List.setIfInBounds_toArray, List.set_cons_succ, List.set_cons_zero]
      have hS0 := hJ
      clear hJ
      refine held_take 7 (v := ?tv11) rfl (by kernel_rfl) (by kernel_rfl) (by kernel_rfl) (fun _ _ _ h => h) (.inl ⟨rfl, ?ty11⟩) hS0 ?tr11
      case ty11 => (intro _ _; go_simp; try with_reducible rfl)
      case tr11 =>
      simp only [Act.put, List.setIfInBounds_toArray, List.set_cons_succ, List.set_cons_zero]
      refine held_take 8 (v := ?tv12) rfl (by kernel_rfl) (by kernel_rfl) (by kernel_rfl) (fun _ _ _ h => h) (.inl ⟨rfl, ?ty12⟩) hS0 ?tr12
      case ty12 => (intro _ _; go_simp; try with_reducible rfl)
      case tr12 =>
      simp only [Act.put, List.setIfInBounds_toArray, List.set_cons_succ, List.set_cons_zero]
      have EJ := hid ((HCC.out wJ).1 hS0).base
      clear hS0 HCC hCx hCA e2 e3 PG EG
      refine wpAnyH_done (by kernel_rfl) ?_ _
      go_wp2
      go_ret2
      refine ⟨_, by rw [HE.out]; rfl, ?_, EJ.out⟩
      rw [if_pos HE.out]
      exact own_lower OJ.out (Nat.le_succ _)
end

section
open Go Go.RowKit

theorem AskR.part0 {w : World} {a : AskR} (h : a.Ok w) : (a.v.drop 0).take 16 = a.actor.map u8v := by
  unfold AskR.v; rw [List.drop_zero, List.take_left' (by simp [h.ha])]
theorem AskR.split4 (a : AskR) : a.v = (a.actor.map u8v ++ [.slice a.sa a.sn a.sc, .int .i64 a.act, .string a.label]) ++ (a.key.map u8v ++ (.int .i64 a.time :: a.detail.map u8v)) := by
  unfold AskR.v; simp
theorem AskR.part4 {w : World} {a : AskR} (h : a.Ok w) : (a.v.drop 19).take 16 = a.key.map u8v := by
  rw [AskR.split4, List.drop_left' (by simp [h.ha]), List.take_left' (by simp [h.hk])]
theorem AskR.part6 {w : World} {a : AskR} (h : a.Ok w) : (a.v.drop 36).take 32 = a.detail.map u8v := by
  have : a.v = (a.actor.map u8v ++ [.slice a.sa a.sn a.sc, .int .i64 a.act, .string a.label] ++ a.key.map u8v ++ [.int .i64 a.time]) ++ a.detail.map u8v := by unfold AskR.v; simp
  rw [this, List.drop_left' (by simp [h.ha, h.hk]), List.take_of_length_le (by simp [h.hd])]
def askT (a : AskR) : List UInt8 := a.actor ++ [UInt8.ofNat a.act.toNat] ++ a.key ++ a.detail
theorem askT_length {w : World} {a : AskR} (h : a.Ok w) : (askT a).length = 65 := by unfold askT; simp [h.ha, h.hk, h.hd]
theorem askE_act {a : AskR} (h : askE a = 0) : ∃ A : Nat, a.act = (A : Int) ∧ A ≤ 12 := by
  have hb : badA a.act = false := by
    cases hj : badA a.act with
    | false => rfl
    | true => exfalso; unfold askE at h; rw [hj, if_pos rfl] at h; exact absurd h (by decide)
  unfold badA actB at hb
  simp only [Bool.not_eq_false', Bool.and_eq_true, decide_eq_true_eq] at hb
  obtain ⟨A, hA⟩ := Int.eq_ofNat_of_zero_le (show 0 ≤ a.act by omega)
  exact ⟨A, hA, by omega⟩
noncomputable def askSumV (a : AskR) : Value := if askE a = 0 then .tuple #[.agg ((sumL 5 (askT a)).map u8v).toArray, .int .i64 0] else .tuple #[zeros 32, .int .i64 (askE a)]

set_option maxRecDepth 100000 in
set_option maxHeartbeats 2000000 in
theorem askSum_c (a : AskR) (w : World) (ha : a.Ok w) :
    Calls Try.prog 26 #[.agg a.v.toArray] w fun e w' => e = .returned (askSumV a) ∧ Ext w w' := by
  have hak := hid (fun w' h => checkAsk_c a w' h)
  have HAO := hid ha
  have HLEN := hid (AskR.len ha)
  have H17 := hid (AskR.at17 ha)
  have HP0 := hid (AskR.part0 ha)
  have HP4 := hid (AskR.part4 ha)
  have HP6 := hid (AskR.part6 ha)
  have HL0 := hid ha.ha
  have HL4 := hid ha.hk
  have HL6 := hid ha.hd
  have hsum := hid (fun (b : Option Addr) (c : Nat) w' hnc hc h0 h => sumOf_c 5 (askT a) 65 c b w' (askT_length ha) hnc hc h0 h)
  have hsv : sumOfV 5 (askT a) 65 = .tuple #[.agg ((sumL 5 (askT a)).map u8v).toArray, .int .i64 0] := by unfold sumOfV; simp
  rw [hsv] at hsum
  have HSL := hid (show ((sumL 5 (askT a)).map u8v).length = 32 by rw [List.length_map, sumL_length])
  have oS := one_u8 (sumL 5 (askT a))
  clear hsv ha
  obtain ⟨V, hV⟩ : ∃ V, askSumV a = V := ⟨_, rfl⟩
  have HV := hid hV
  rw [hV]
  clear hV
  go_enter Try.func26, Try.ntmps26
  go_upto_region 1 with (fail)
  generalize hwA : World.alloc (World.alloc w _) _ = wA
  have gA : Blk wA w.heap.size a.v 42 := by rw [← hwA]; exact (Blk.mk_alloc rfl rfl).alloc _
  have zA : Blk wA (w.heap.size + 1) (List.replicate 32 (.int .u8 0)) 40 := by rw [← hwA]; exact Blk.mk_alloc (by simp) rfl
  have eA : Ext w wA := by rw [← hwA]; exact ((Ext.refl w).alloc _).alloc _
  have GA := hid gA
  have ZA := hid zA
  have EA := hid eA
  have QA := hid (HAO.out.ext eA)
  clear hwA gA zA eA HAO
  go_wp2_with (refine wpl_loadw rfl 42 (.tmp 1) rfl rfl GA.out agg_ask HLEN.out ?_)
  refine (hak.out wA QA.out).mono ?_
  rintro e wB ⟨rfl, eB⟩
  have GB := hid (GA.out.ext eB)
  have ZB := hid (ZA.out.ext eB)
  have EB := hid (EA.out.ext eB)
  clear eB GA ZA EA
  clear hak QA
  by_cases h0 : askE a = 0
  case neg =>
    have q1 : (askE a != 0) = true := by simp [h0]
    have q2 : decide (askE a = 0) = false := decide_eq_false h0
    have HN := hid (show V = .tuple #[zeros 32, .int .i64 (askE a)] by rw [← HV.out]; unfold askSumV; rw [if_neg h0])
    generalize askE a = er at *
    clear HV hsum
    obtain ⟨z, hz⟩ : ∃ z : List UInt8, z = List.replicate 32 0 := ⟨_, rfl⟩
    have hzz : zeros 32 = .agg (z.map u8v).toArray := by rw [hz]; rfl
    go_wp2_with (refine wpl_storew rfl _ (.tmp 2) _ rfl rfl rfl ZB.out agg_apisum (by simp) (show (List.replicate 32 (Value.int .u8 0)).length = 32 by simp) (one_zeros 32) ?_)
    intro wD bD uD
    have ED := hid (uD.ext EB.out (by omega))
    go_wp2_with fail
    exact ret_row2 rfl rfl bD agg_apisum (by simp) rfl ⟨by rw [HN.out]; rfl, ED.out⟩
  have HN := hid (show V = .tuple #[.agg ((sumL 5 (askT a)).map u8v).toArray, .int .i64 0] by rw [← HV.out]; unfold askSumV; rw [if_pos h0])
  obtain ⟨A, hA, hA12⟩ := askE_act h0
  rw [h0]
  obtain ⟨ob, hob⟩ : ∃ ob, ob = UInt8.ofNat A := ⟨_, rfl⟩
  have hT : askT a = a.actor ++ [ob] ++ a.key ++ a.detail := by unfold askT; rw [hA, hob]; rfl
  have HOB := hid hob
  clear hob
  have HT := hid hT
  rw [hA] at H17
  clear h0 HV hT hA
  have cB : Cells wB (some ⟨w.heap.size, 0, none⟩) (a.actor.map u8v) := by
    have := Cells.of_blk GB.out 0 16
    rwa [HP0.out] at this
  have CB := hid cB
  clear cB
  have hown0 : (wB.alloc (.cells #[] 5)).ownsRow (w.heap.size + 2) 5 1 (.slice (some ⟨wB.heap.size, 0, none⟩) 0 0) 0 (([] : List UInt8).map u8v) := by
    refine ⟨rfl, .inr ⟨wB.heap.size, 0, #[], rfl, by have := ZB.out.lt; omega, ?_, Nat.le_refl _, Nat.zero_le _, rfl, rfl⟩⟩
    show (wB.heap.push _)[wB.heap.size]? = _
    simp
  have hcl0 : Cells (wB.alloc (.cells #[] 5)) (some ⟨w.heap.size, 0, none⟩) (a.actor.map u8v) := CB.out.ext ((Ext.refl wB).alloc _)
  have hbs0 : w.heap.size + 2 ≤ (wB.alloc (.cells #[] 5)).heap.size := by have := ZB.out.lt; have := ((Ext.refl wB).alloc (.cells #[] 5)).size; omega
  go_wp2_with (at_builtin; refine wpl_append8 rfl _ _ rfl (w.heap.size + 2) (ys := a.actor) rfl rfl hown0 HL0.out (fun h => by cases h) hcl0 (by omega) hbs0 ?_)
  intro v1 wE own1 g1
  have hvE : Value.ownBlock (.slice (some ⟨wB.heap.size, 0, none⟩) 0 0) = some wB.heap.size := rfl
  rw [hvE] at g1
  have eE : Ext wB wE := ((Ext.refl wB).alloc _).grown g1 (fun g hg => by cases hg; exact Nat.le_refl _)
  have O1 := hid (show wE.ownsRow (w.heap.size + 2) 5 1 v1 16 (a.actor.map u8v) from by simpa using own1)
  have GE := hid (GB.out.ext eE)
  have ZE := hid (ZB.out.ext eE)
  have EE := hid (EB.out.ext eE)
  clear eE GB ZB EB
  clear own1 g1 hvE hown0 hcl0 hbs0 CB
  go_wp2_with fail
  obtain ⟨C, hC⟩ : ∃ C : World → Prop, C = Cls w wE [w.heap.size, w.heap.size+1] [] := ⟨_, rfl⟩
  have hC0 : ∀ w', C w' ↔ Cls w wE [w.heap.size, w.heap.size+1] [] w' := fun w' => by rw [hC]
  clear hC
  have HCC := hid hC0
  clear hC0
  have hCx : ∀ w w', C w → Ext w w' → C w' := fun w w' h1 h2 => (HCC.out w').2 (((HCC.out w).1 h1).ext h2)
  have hCA : C wE := (HCC.out _).2 (Cls.no_room EE.out (Kept.two GE.out.lt ZE.out.lt))
  have e17 : ∀ w1, C w1 → w1.cell? ⟨w.heap.size, 17, none⟩ = some (.int .i64 (A : Int)) := fun w1 h1 => (((HCC.out w1).1 h1).blk GE.out (by simp)).cell' H17.out
  have e4 : ∀ w1, C w1 → Cells w1 (some ⟨w.heap.size, 19, none⟩) (a.key.map u8v) := fun w1 h1 => by
    have := Cells.of_blk (((HCC.out w1).1 h1).blk GE.out (by simp)) 19 16
    rwa [HP4.out] at this
  refine wp_region_held_drew (S := C) (by kernel_rfl) (hCx _ _ hCA (Ext.refl _).drew) (fun hS0 => ?_)
  refine held_take 0 (v := ?tv1) rfl (by kernel_rfl) (by kernel_rfl) (by kernel_rfl) (fun _ _ _ h => h) (.inl ⟨rfl, ?ty1⟩) hS0 ?tr1
  case ty1 => (intro _ _; go_simp; try with_reducible rfl)
  case tr1 =>
  simp only [Act.put, List.setIfInBounds_toArray, List.set_cons_succ, List.set_cons_zero]
  refine held_take 1 (v := ?tv2) rfl (by kernel_rfl) (by kernel_rfl) (by kernel_rfl) (fun _ _ _ h => h) (.inl ⟨rfl, ?ty2⟩) hS0 ?tr2
  case ty2 => (intro _ _; go_simp; try with_reducible rfl)
  case tr2 =>
  simp only [Act.put, List.setIfInBounds_toArray, List.set_cons_succ, List.set_cons_zero]
  refine held_take 2 (v := ?tv3) rfl (by kernel_rfl) (by kernel_rfl) (by kernel_rfl) (fun _ _ _ h => h) (.inl ⟨rfl, ?ty3⟩) hS0 ?tr3
  case ty3 => (intro wq hwq; have hcq := (e17) wq hwq; go_simp; try with_reducible rfl)
  case tr3 =>
  simp only [Act.put, List.setIfInBounds_toArray, List.set_cons_succ, List.set_cons_zero]
  refine held_take 3 (v := ?tv4) rfl (by kernel_rfl) (by kernel_rfl) (by kernel_rfl) (fun _ _ _ h => h) (.inl ⟨rfl, ?ty4⟩) hS0 ?tr4
  case ty4 => (intro _ _; go_simp; try with_reducible rfl)
  case tr4 =>
  simp only [Act.put, List.setIfInBounds_toArray, List.set_cons_succ, List.set_cons_zero]
  refine held_take 6 (v := ?tv5) rfl (by kernel_rfl) (by kernel_rfl) (by kernel_rfl) (fun _ _ _ h => h) (.inl ⟨rfl, ?ty5⟩) hS0 ?tr5
  case ty5 => (intro _ _; go_simp; try with_reducible rfl)
  case tr5 =>
  simp only [Act.put, List.setIfInBounds_toArray, List.set_cons_succ, List.set_cons_zero]
  refine held_take 7 (v := ?tv6) rfl (by kernel_rfl) (by kernel_rfl) (by kernel_rfl) (fun _ _ _ h => h) (.inl ⟨rfl, ?ty6⟩) hS0 ?tr6
  case ty6 => (intro _ _; go_simp; try with_reducible rfl)
  case tr6 =>
  simp only [Act.put, List.setIfInBounds_toArray, List.set_cons_succ, List.set_cons_zero]
  have hw8 : IntKind.u8.wrap (A : Int) = (ob.toNat : Int) := by
    rw [HOB.out, UInt8.toNat_ofNat', IntWalk.u8_in _ (by omega)]
    omega
  rw [hw8]
  clear hw8
  have hwD : wE.heap.size ≤ wE.drew.heap.size := ((HCC.out _).1 hS0).kept.1
  have O1D := hid (ownsRow_ext O1.out (Ext.refl wE).drew)
  have hgE := hid ZE.out.lt
  generalize wE.drew = wD at *
  refine held_one (i := 4) (by kernel_rfl) rfl ?_
  intro Q' hQ
  go_wp2_with fail
  have BN := hid (show Blk (wD.alloc (.cells #[.int .u8 (ob.toNat : Int)] 5)) wD.heap.size ([ob].map u8v) 5 from Blk.mk_alloc rfl rfl)
  have hF := hCx _ _ hS0 ((Ext.refl wD).alloc (.cells #[.int .u8 (ob.toNat : Int)] 5))
  have O1F := hid (ownsRow_ext O1D.out ((Ext.refl wD).alloc (.cells #[.int .u8 (ob.toNat : Int)] 5)))
  refine hQ _ _ hF ?_
  clear hQ Q' O1D O1
  have hgF : wD.heap.size ≤ (wD.alloc (.cells #[.int .u8 (ob.toNat : Int)] 5)).heap.size := ((Ext.refl wD).alloc _).size
  generalize wD.alloc (.cells #[.int .u8 (ob.toNat : Int)] 5) = wF at *
  generalize wD.heap.size = gn at *
  try dsimp only
  try simp only [Act.put, List.setIfInBounds_toArray, List.set_cons_succ, List.set_cons_zero]
  have hcN := hid (Cells.of_blk0 BN.out)
  have hbF : w.heap.size + 2 ≤ wF.heap.size := by have := hgE.out; omega
  refine held_one (i := 5) (by kernel_rfl) rfl ?_
  intro Q' hQ
  go_wp2_with (at_builtin; (refine wpl_append8 rfl _ _ rfl (w.heap.size + 2) (ys := [ob]) rfl rfl O1F.out rfl (fun h => by cases h) hcN.out (by omega) hbF ?_))
  intro v2 wI own2 g2
  have O2 := hid (show wI.ownsRow (w.heap.size + 2) 5 1 v2 17 ((a.actor ++ [ob]).map u8v) from by simpa using own2)
  have hv := fun g' h => own_block_ge O1F.out g' h
  have hI : C wI := (HCC.out _).2 (((HCC.out _).1 hF).grownF g2 (fun g' h => by have := hv g' h; simp; omega) (fun g' h => by have := hv g' h; omega))
  have hbI : w.heap.size + 2 ≤ wI.heap.size := Nat.le_trans hbF g2.size
  go_wp2_with fail
  refine hQ _ _ hI ?_
  clear hQ Q' hS0 hF own2 g2 hv O1F hbF BN hcN
  try dsimp only
  try simp only [Act.put, List.setIfInBounds_toArray, List.set_cons_succ, List.set_cons_zero]
  refine held_one (i := 8) (by kernel_rfl) rfl ?_
  intro Q' hQ
  go_wp2_with (at_builtin; refine wpl_append8 rfl _ _ rfl (w.heap.size + 2) (ys := a.key) rfl rfl O2.out HL4.out (fun h => by cases h) (e4 wI hI) (by omega) hbI ?_)
  intro v3 wJ own3 g3
  have O3 := hid (show wJ.ownsRow (w.heap.size + 2) 5 1 v3 33 ((a.actor ++ [ob] ++ a.key).map u8v) from by simpa using own3)
  have hv := fun g' h => own_block_ge O2.out g' h
  have hS0 : C wJ := (HCC.out _).2 (((HCC.out _).1 hI).grownF g3 (fun g' h => by have := hv g' h; simp; omega) (fun g' h => by have := hv g' h; omega))
  have hbJ : w.heap.size + 2 ≤ wJ.heap.size := Nat.le_trans hbI g3.size
  go_wp2_with fail
  refine hQ _ _ hS0 ?_
  clear hQ Q' hI own3 g3 hv O2 hbI
  try dsimp only
  try simp only [Act.put, List.setIfInBounds_toArray, List.set_cons_succ, List.set_cons_zero]
  refine held_take 9 (v := ?tv7) rfl (by kernel_rfl) (by kernel_rfl) (by kernel_rfl) (fun _ _ _ h => h) (.inl ⟨rfl, ?ty7⟩) hS0 ?tr7
  case ty7 => (intro _ _; go_simp; try with_reducible rfl)
  case tr7 =>
  simp only [Act.put, List.setIfInBounds_toArray, List.set_cons_succ, List.set_cons_zero]
  have GJ := hid (((HCC.out wJ).1 hS0).blk GE.out (by simp))
  have ZJ := hid (((HCC.out wJ).1 hS0).blk ZE.out (by simp))
  have EJ := hid ((HCC.out wJ).1 hS0).base
  clear hS0 HCC hCx hCA e17 e4 GE ZE EE
  refine wpAnyH_done (by kernel_rfl) ?_ _
  have cJ : Cells wJ (some ⟨w.heap.size, 36, none⟩) (a.detail.map u8v) := by
    have := Cells.of_blk GJ.out 36 32
    rwa [HP6.out] at this
  go_wp2_with (at_builtin; refine wpl_append8 rfl _ _ rfl (w.heap.size + 2) (ys := a.detail) rfl rfl O3.out HL6.out (fun h => by cases h) cJ (by omega) hbJ ?_)
  intro v4 wK own4 g4
  have hv := fun g' h => own_block_ge O3.out g' h
  have O4 := hid (show wK.ownsRow (w.heap.size + 2) 5 1 v4 65 ((askT a).map u8v) from by rw [HT.out]; simpa using own4)
  have ZK := hid (ZJ.out.grown g4 (fun h => by have := hv _ h.symm; omega))
  have EK := hid (EJ.out.grown g4 (fun g' h => by have := hv g' h; omega))
  clear own4 g4 hv O3 ZJ GJ EJ cJ
  obtain ⟨a5, k5, rfl, hk5, hm5, hz5, hc5⟩ := own_slice O4.out
  have hc5' := hid hc5
  have hmx : k5 ≤ 9223372036854775807 := by unfold maxLen at hm5; omega
  clear hc5 O4 hm5
  go_wp2_with fail
  refine (hsum.out a5 k5 wK hk5 hmx hz5 hc5'.out).mono ?_
  rintro e wL ⟨rfl, eL⟩
  have ZL := hid (ZK.out.ext eL)
  have EL := hid (EK.out.ext eL)
  clear eL ZK EK hc5' hsum
  generalize sumL 5 (askT a) = S at *
  go_wp2_with (refine wpl_storew rfl _ (.tmp 2) _ rfl rfl rfl ZL.out agg_apisum (by simp) HSL.out oS ?_)
  intro wM bM uM
  have EM := hid (uM.ext EL.out (by omega))
  go_wp2_with fail
  exact ret_row2 rfl rfl bM agg_apisum HSL.out rfl ⟨by rw [HN.out]; rfl, EM.out⟩
end

section
open Go Go.RowKit

/-- each block has its cells yet; a mark may have been set -/
def Rel (w w' : World) : Prop := w.heap.size ≤ w'.heap.size ∧ ∀ (k : Nat) c e z, w.heap[k]? = some (.cells c e z) → ∃ z', w'.heap[k]? = some (.cells c e z')
theorem Rel.refl (w : World) : Rel w w := ⟨Nat.le_refl _, fun k c e z h => ⟨z, h⟩⟩
theorem Rel.trans {a b c : World} (h : Rel a b) (k : Rel b c) : Rel a c := ⟨Nat.le_trans h.1 k.1, fun i x e z hx => by obtain ⟨z', h'⟩ := h.2 i x e z hx; exact k.2 i x e z' h'⟩
theorem Rel.ofExt {w w' : World} (h : Ext w w') : Rel w w' := ⟨h.size, fun k c e z hk => ⟨z, (h.block k (Array.getElem?_eq_some_iff.1 hk).1).trans hk⟩⟩
theorem Rel.cell {w w' : World} (h : Rel w w') {a : Addr} {v : Value} (hs : a.spot = none) (hc : w.cell? a = some v) : w'.cell? a = some v := by
  simp only [World.cell?] at hc ⊢
  cases hk : w.heap[a.block]? with
  | none => rw [hk] at hc; simp at hc
  | some o =>
    rw [hk] at hc
    cases o with
    | cells c e z => obtain ⟨z', h'⟩ := h.2 _ _ _ _ hk; rw [h']; exact hc
    | _ => simp at hc
theorem Cells.rel {w w' : World} {a : Option Addr} {xs : List Value} (h : Cells w a xs) (k : Rel w w') : Cells w' a xs := by
  rcases h with h | ⟨b, off, ha, h⟩
  · exact .inl h
  · exact .inr ⟨b, off, ha, fun i u hu => k.cell rfl (h i u hu)⟩

section
variable {P : Program} {ops : Array Oper} {Q : Exit → Act → World → Prop} {S : World → Prop}
theorem held_22 {i1 i2 j1 j2 : Nat} {o1 o2 p1 p2 : Oper} {r1 r2 r3 r4 : List Oper} {f : Nat} {listed : Array Bool} {a : Act} {w : World} {β γ1 γ2 : Type} (v : β → Value) (u1 : γ1 → Value) (u2 : γ2 → Value)
    (Φ : β → World → Prop) (Ψ1 : γ1 → World → Prop) (Ψ2 : γ2 → World → Prop) (mk : Value → Value → Value → Value → Act)
    (R0 : Region.ready .any ops listed = [i1, j1]) (Ri : Region.ready .any ops (listed.setIfInBounds i1 true) = [i2, j1]) (Rj : Region.ready .any ops (listed.setIfInBounds j1 true) = [i1, j2])
    (Rii : Region.ready .any ops ((listed.setIfInBounds i1 true).setIfInBounds i2 true) = [j1]) (Rij : Region.ready .any ops ((listed.setIfInBounds i1 true).setIfInBounds j1 true) = [i2, j2]) (Rjj : Region.ready .any ops ((listed.setIfInBounds j1 true).setIfInBounds j2 true) = [i1])
    (Riij : Region.ready .any ops (((listed.setIfInBounds i1 true).setIfInBounds i2 true).setIfInBounds j1 true) = [j2]) (Rijj : Region.ready .any ops (((listed.setIfInBounds i1 true).setIfInBounds j1 true).setIfInBounds j2 true) = [i2])
    (n1 : (i1 == j1) = false) (n2 : (i1 == j2) = false) (n3 : (i2 == j1) = false) (n4 : (i2 == j2) = false)
    (ho1 : ops.toList.drop i1 = o1 :: r1) (ho2 : ops.toList.drop i2 = o2 :: r2) (hp1 : ops.toList.drop j1 = p1 :: r3) (hp2 : ops.toList.drop j2 = p2 :: r4)
    (hΦ : ∀ b w w', Φ b w → Rel w w' → Φ b w') (hΨ1 : ∀ b w w', Ψ1 b w → Rel w w' → Ψ1 b w') (hΨ2 : ∀ b w w', Ψ2 b w → Rel w w' → Ψ2 b w')
    (hi1 : ∀ y1 y2 w, S w → ∀ Q' : Exit → Act → World → Prop, (∀ b w', S w' → Rel w w' → Φ b w' → Q' .normal (mk (v b) undef y1 y2) w') → wpList P ops Q' [o1] (mk undef undef y1 y2) w)
    (hi2 : ∀ b y1 y2 w, S w → Φ b w → ∀ Q' : Exit → Act → World → Prop, (∀ w', S w' → Rel w w' → Q' .normal (mk (v b) (v b) y1 y2) w') → wpList P ops Q' [o2] (mk (v b) undef y1 y2) w)
    (hj1 : ∀ x1 x2 w, S w → ∀ Q' : Exit → Act → World → Prop, (∀ b w', S w' → Rel w w' → Ψ1 b w' → Q' .normal (mk x1 x2 (u1 b) undef) w') → wpList P ops Q' [p1] (mk x1 x2 undef undef) w)
    (hj2 : ∀ x1 x2 b1 w, S w → ∀ Q' : Exit → Act → World → Prop, (∀ b w', S w' → Rel w w' → Ψ2 b w' → Q' .normal (mk x1 x2 (u1 b1) (u2 b)) w') → wpList P ops Q' [p2] (mk x1 x2 (u1 b1) undef) w)
    (ha : a = mk undef undef undef undef) (hS : S w)
    (h : ∀ b c1 c2 w', S w' → Φ b w' → Ψ1 c1 w' → Ψ2 c2 w' → wpAnyH P .any ops Q S f ((((listed.setIfInBounds i1 true).setIfInBounds i2 true).setIfInBounds j1 true).setIfInBounds j2 true) (mk (v b) (v b) (u1 c1) (u2 c2)) w') :
    wpAnyH P .any ops Q S (f + 4) listed a w := by
  have m1 : i1 ≠ j1 := by simpa using n1
  have m2 : i1 ≠ j2 := by simpa using n2
  have m3 : i2 ≠ j1 := by simpa using n3
  have m4 : i2 ≠ j2 := by simpa using n4
  -- i1, i2, j1 are over
  have Eiij : ∀ b c1 w, S w → Φ b w → Ψ1 c1 w → wpAnyH P .any ops Q S (f + 1) (((listed.setIfInBounds i1 true).setIfInBounds i2 true).setIfInBounds j1 true) (mk (v b) (v b) (u1 c1) undef) w := by
    intro b c1 w hS hb hc
    refine held_one Riij hp2 fun Q' hQ => ?_
    refine hj2 _ _ c1 w hS Q' fun c2 w' hS' hr hc2 => ?_
    exact hQ _ _ hS' (h b c1 c2 w' hS' (hΦ _ _ _ hb hr) (hΨ1 _ _ _ hc hr) hc2)
  -- i1, j1, j2 are over
  have Eijj : ∀ b c1 c2 w, S w → Φ b w → Ψ1 c1 w → Ψ2 c2 w → wpAnyH P .any ops Q S (f + 1) (((listed.setIfInBounds i1 true).setIfInBounds j1 true).setIfInBounds j2 true) (mk (v b) undef (u1 c1) (u2 c2)) w := by
    intro b c1 c2 w hS hb hc hc2
    refine held_one Rijj ho2 fun Q' hQ => ?_
    refine hi2 b _ _ w hS hb Q' fun w' hS' hr => ?_
    refine hQ _ _ hS' ?_
    rw [Array.setIfInBounds_comm (xs := (listed.setIfInBounds i1 true).setIfInBounds j1 true) _ _ (Ne.symm m4), Array.setIfInBounds_comm (xs := listed.setIfInBounds i1 true) _ _ (Ne.symm m3)]
    exact h b c1 c2 w' hS' (hΦ _ _ _ hb hr) (hΨ1 _ _ _ hc hr) (hΨ2 _ _ _ hc2 hr)
  have Eii : ∀ b w, S w → Φ b w → wpAnyH P .any ops Q S (f + 2) ((listed.setIfInBounds i1 true).setIfInBounds i2 true) (mk (v b) (v b) undef undef) w := by
    intro b w hS hb
    refine held_one Rii hp1 fun Q' hQ => ?_
    refine hj1 _ _ w hS Q' fun c1 w' hS' hr hc => ?_
    exact hQ _ _ hS' (Eiij b c1 w' hS' (hΦ _ _ _ hb hr) hc)
  have Eij : ∀ b c1 w, S w → Φ b w → Ψ1 c1 w → wpAnyH P .any ops Q S (f + 2) ((listed.setIfInBounds i1 true).setIfInBounds j1 true) (mk (v b) undef (u1 c1) undef) w := by
    intro b c1 w hS hb hc
    refine wpAnyH_all Rij (by simp) fun k hk => ?_
    have hk' : k = i2 ∨ k = j2 := by simpa using hk
    rcases hk' with rfl | rfl
    · refine wpOp_of_list (op_of_drop ho2) (hi2 b _ _ w hS hb _ fun w' hS' hr => ?_)
      refine ⟨hS', ?_⟩
      rw [Array.setIfInBounds_comm (xs := listed.setIfInBounds i1 true) _ _ (Ne.symm m3)]
      exact Eiij b c1 w' hS' (hΦ _ _ _ hb hr) (hΨ1 _ _ _ hc hr)
    · refine wpOp_of_list (op_of_drop hp2) (hj2 _ _ c1 w hS _ fun c2 w' hS' hr hc2 => ?_)
      exact ⟨hS', Eijj b c1 c2 w' hS' (hΦ _ _ _ hb hr) (hΨ1 _ _ _ hc hr) hc2⟩
  have Ejj : ∀ c1 c2 w, S w → Ψ1 c1 w → Ψ2 c2 w → wpAnyH P .any ops Q S (f + 2) ((listed.setIfInBounds j1 true).setIfInBounds j2 true) (mk undef undef (u1 c1) (u2 c2)) w := by
    intro c1 c2 w hS hc hc2
    refine held_one Rjj ho1 fun Q' hQ => ?_
    refine hi1 _ _ w hS Q' fun b w' hS' hr hb => ?_
    refine hQ _ _ hS' ?_
    rw [Array.setIfInBounds_comm (xs := listed.setIfInBounds j1 true) _ _ (Ne.symm m2), Array.setIfInBounds_comm (xs := listed) _ _ (Ne.symm m1)]
    exact Eijj b c1 c2 w' hS' hb (hΨ1 _ _ _ hc hr) (hΨ2 _ _ _ hc2 hr)
  have Ei : ∀ b w, S w → Φ b w → wpAnyH P .any ops Q S (f + 3) (listed.setIfInBounds i1 true) (mk (v b) undef undef undef) w := by
    intro b w hS hb
    refine wpAnyH_all Ri (by simp) fun k hk => ?_
    have hk' : k = i2 ∨ k = j1 := by simpa using hk
    rcases hk' with rfl | rfl
    · refine wpOp_of_list (op_of_drop ho2) (hi2 b _ _ w hS hb _ fun w' hS' hr => ?_)
      exact ⟨hS', Eii b w' hS' (hΦ _ _ _ hb hr)⟩
    · refine wpOp_of_list (op_of_drop hp1) (hj1 _ _ w hS _ fun c1 w' hS' hr hc => ?_)
      exact ⟨hS', Eij b c1 w' hS' (hΦ _ _ _ hb hr) hc⟩
  have Ej : ∀ c1 w, S w → Ψ1 c1 w → wpAnyH P .any ops Q S (f + 3) (listed.setIfInBounds j1 true) (mk undef undef (u1 c1) undef) w := by
    intro c1 w hS hc
    refine wpAnyH_all Rj (by simp) fun k hk => ?_
    have hk' : k = i1 ∨ k = j2 := by simpa using hk
    rcases hk' with rfl | rfl
    · refine wpOp_of_list (op_of_drop ho1) (hi1 _ _ w hS _ fun b w' hS' hr hb => ?_)
      refine ⟨hS', ?_⟩
      rw [Array.setIfInBounds_comm (xs := listed) _ _ (Ne.symm m1)]
      exact Eij b c1 w' hS' hb (hΨ1 _ _ _ hc hr)
    · refine wpOp_of_list (op_of_drop hp2) (hj2 _ _ c1 w hS _ fun c2 w' hS' hr hc2 => ?_)
      exact ⟨hS', Ejj c1 c2 w' hS' (hΨ1 _ _ _ hc hr) hc2⟩
  subst ha
  refine wpAnyH_all R0 (by simp) fun k hk => ?_
  have hk' : k = i1 ∨ k = j1 := by simpa using hk
  rcases hk' with rfl | rfl
  · refine wpOp_of_list (op_of_drop ho1) (hi1 _ _ w hS _ fun b w' hS' hr hb => ?_)
    exact ⟨hS', Ei b w' hS' hb⟩
  · refine wpOp_of_list (op_of_drop hp1) (hj1 _ _ w hS _ fun c1 w' hS' hr hc => ?_)
    exact ⟨hS', Ej c1 w' hS' hc⟩
end
end

section
open Go Go.RowKit

theorem run_conv_mark (t e : TypeId) (g n c : Nat) (cs : Array Value) (e2 : TypeId) (z : Nat × Nat) (w : World) {P : Program} (ht : P.underlying t = some (.slice e)) (he : P.underlying e = some (.int .u8)) (hb : w.heap[g]? = some (.cells cs e2 z)) :
    (convert t t (.slice (some ⟨g, 0, none⟩) n c)).run P w = .ok (.slice (some ⟨g, 0, none⟩) n c) (w.freeze ⟨g, cs.size, none⟩ 1) := by
  have hsh : w.shape? g = some (e2, cs.size) := by
    unfold World.shape?
    rw [hb]
  simp [convert, run_underlying ht, run_underlying he, markStringish, hsh]
theorem freeze_rel (w : World) (a : Addr) : Rel w (w.freeze a 1) := by
  unfold World.freeze
  rw [if_neg (by decide)]
  refine ⟨by simp, fun k c e z hk => ?_⟩
  simp only [Array.getElem?_modify]
  split
  · rw [hk]; simp
  · exact ⟨z, hk⟩
theorem freeze_grown (w : World) (a : Addr) : w.grownBy (w.freeze a 1) (some a.block) := by
  unfold World.freeze
  rw [if_neg (by decide)]
  refine ⟨rfl, rfl, rfl, by simp, fun k _ hk => ?_⟩
  simp only [Array.getElem?_modify]
  rw [if_neg (fun e => hk (by rw [e]))]

set_option maxRecDepth 100000 in
set_option maxHeartbeats 2000000 in
theorem rprintHead_c (C T : Int) (r1 r2 : List UInt8) (w : World) (h1 : r1.length = 32) (h2 : r2.length = 32) :
    Calls Try.prog 33 #[.agg (headV C T r1 r2).toArray] w (headPost C T r1 r2 w) := by
  obtain ⟨E, hE⟩ : ∃ E, headE C T = E := ⟨_, rfl⟩
  have HE := hid hE
  unfold headE at hE
  have hv0 : (headV C T r1 r2)[0]? = some (.int .i64 C) := rfl
  have hv1 : (headV C T r1 r2)[1]? = some (.int .i64 T) := rfl
  have HVL := hid (headV_length C T h1 h2)
  have HR1 := hid (headV_r1 C T (r2 := r2) h1)
  have HR2 := hid (headV_r2 C T h1 h2)
  have HL1 := hid h1
  have HL2 := hid h2
  clear h1 h2
  generalize headV C T r1 r2 = hv at *
  go_enter Try.func33, Try.ntmps33
  go_upto_region 1 with (fail)
  generalize hwA : World.alloc w _ = wA
  have pA : Blk wA w.heap.size hv 70 := by rw [← hwA]; exact Blk.mk_alloc rfl rfl
  have eA : Ext w wA := by rw [← hwA]; exact (Ext.refl w).alloc _
  have c0 : wA.cell? ⟨w.heap.size, 0, none⟩ = some (.int .i64 C) := pA.cell' hv0
  have c1 : wA.cell? ⟨w.heap.size, 1, none⟩ = some (.int .i64 T) := pA.cell' hv1
  have PA := hid pA
  have EA := hid eA
  have HV0 := hid hv0
  have HV1 := hid hv1
  clear hwA pA eA hv0 hv1
  by_cases a1 : C < 0
  · rw [if_pos (by omega)] at hE
    have d1 : decide (C < 0) = true := decide_eq_true a1
    subst hE
    go_wp2
    go_ret2
    exact ⟨_, by rw [HE.out]; rfl, by rw [HE.out]; rfl, EA.out⟩
  have d1 : decide (C < 0) = false := decide_eq_false a1
  by_cases a2 : 65536 < C
  · rw [if_pos (by omega)] at hE
    have d2 : decide (65536 < C) = true := decide_eq_true a2
    subst hE
    go_wp2
    go_ret2
    exact ⟨_, by rw [HE.out]; rfl, by rw [HE.out]; rfl, EA.out⟩
  have d2 : decide (65536 < C) = false := decide_eq_false a2
  by_cases a3 : T < 0
  · rw [if_pos (by omega)] at hE
    have d3 : decide (T < 0) = true := decide_eq_true a3
    subst hE
    go_wp2
    go_ret2
    exact ⟨_, by rw [HE.out]; rfl, by rw [HE.out]; rfl, EA.out⟩
  have d3 : decide (T < 0) = false := decide_eq_false a3
  by_cases a4 : 1099511627776 < T
  · rw [if_pos (by omega)] at hE
    have d4 : decide (1099511627776 < T) = true := decide_eq_true a4
    subst hE
    go_wp2
    go_ret2
    exact ⟨_, by rw [HE.out]; rfl, by rw [HE.out]; rfl, EA.out⟩
  have d4 : decide (1099511627776 < T) = false := decide_eq_false a4
  rw [if_neg (by omega)] at hE
  subst hE
  obtain ⟨i, rfl⟩ := Int.eq_ofNat_of_zero_le (show 0 ≤ C by omega)
  obtain ⟨z, rfl⟩ := Int.eq_ofNat_of_zero_le (show 0 ≤ T by omega)
  have hp1 := hid (fun w' => rlong_c i w' (by omega))
  have hp2 := hid (fun w' => rlong_c z w' (by omega))
  have f1 : decide (i < 0) = false := decide_eq_false (by omega)
  have f2 : decide (65536 < i) = false := decide_eq_false (by omega)
  have f3 : decide (z < 0) = false := decide_eq_false (by omega)
  have f4 : decide (1099511627776 < z) = false := decide_eq_false (by omega)
  go_wp2
  obtain ⟨C, hC⟩ : ∃ C : World → Prop, C = Cls w wA [w.heap.size] [] := ⟨_, rfl⟩
  have hC0 : ∀ w', C w' ↔ Cls w wA [w.heap.size] [] w' := fun w' => by rw [hC]
  clear hC
  have HCC := hid hC0
  clear hC0
  have hCx : ∀ w w', C w → Ext w w' → C w' := fun w w' h1 h2 => (HCC.out w').2 (((HCC.out w).1 h1).ext h2)
  have hCA : C wA := (HCC.out _).2 (Cls.no_room EA.out (Kept.one PA.out.lt))
  have e0 : ∀ w1, C w1 → w1.cell? ⟨w.heap.size, 0, none⟩ = some (.int .i64 (i : Int)) := fun w1 h1 => (((HCC.out w1).1 h1).blk PA.out (by simp)).cell' HV0.out
  have e1 : ∀ w1, C w1 → w1.cell? ⟨w.heap.size, 1, none⟩ = some (.int .i64 (z : Int)) := fun w1 h1 => (((HCC.out w1).1 h1).blk PA.out (by simp)).cell' HV1.out
  clear c0 c1 d1 d2 d3 d4 a1 a2 a3 a4 f1 f2 f3 f4
  refine wp_region_held_drew (S := C) (by kernel_rfl) (hCx _ _ hCA (Ext.refl _).drew) (fun hS0 => ?_)
  refine held_take 2 (v := ?tv1) rfl (by kernel_rfl) (by kernel_rfl) (by kernel_rfl) (fun _ _ _ h => h) (.inl ⟨rfl, ?ty1⟩) hS0 ?tr1
  case ty1 => (intro _ _; go_simp; try with_reducible rfl)
  case tr1 =>
  simp only [Act.put, List.setIfInBounds_toArray, List.set_cons_succ, List.set_cons_zero]
  refine held_take 3 (v := ?tv2) rfl (by kernel_rfl) (by kernel_rfl) (by kernel_rfl) (fun _ _ _ h => h) (.inl ⟨rfl, ?ty2⟩) hS0 ?tr2
  case ty2 => (intro wq hwq; have hcq := (e0) wq hwq; go_simp; try with_reducible rfl)
  case tr2 =>
  simp only [Act.put, List.setIfInBounds_toArray, List.set_cons_succ, List.set_cons_zero]
  refine held_take 5 (v := ?tv3) rfl (by kernel_rfl) (by kernel_rfl) (by kernel_rfl) (fun _ _ _ h => h) (.inl ⟨rfl, ?ty3⟩) hS0 ?tr3
  case ty3 => (intro _ _; go_simp; try with_reducible rfl)
  case tr3 =>
  simp only [Act.put, List.setIfInBounds_toArray, List.set_cons_succ, List.set_cons_zero]
  refine held_take 6 (v := ?tv4) rfl (by kernel_rfl) (by kernel_rfl) (by kernel_rfl) (fun _ _ _ h => h) (.inl ⟨rfl, ?ty4⟩) hS0 ?tr4
  case ty4 => (intro wq hwq; have hcq := (e1) wq hwq; go_simp; try with_reducible rfl)
  case tr4 =>
  simp only [Act.put, List.setIfInBounds_toArray, List.set_cons_succ, List.set_cons_zero]
  refine held_take 8 (v := ?tv5) rfl (by kernel_rfl) (by kernel_rfl) (by kernel_rfl) (fun _ _ _ h => h) (.inl ⟨rfl, ?ty5⟩) hS0 ?tr5
  case ty5 => (intro _ _; go_simp; try with_reducible rfl)
  case tr5 =>
  simp only [Act.put, List.setIfInBounds_toArray, List.set_cons_succ, List.set_cons_zero]
  refine held_take 9 (v := ?tv6) rfl (by kernel_rfl) (by kernel_rfl) (by kernel_rfl) (fun _ _ _ h => h) (.inl ⟨rfl, ?ty6⟩) hS0 ?tr6
  case ty6 => (intro _ _; go_simp; try with_reducible rfl)
  case tr6 =>
  simp only [Act.put, List.setIfInBounds_toArray, List.set_cons_succ, List.set_cons_zero]
  refine held_take 10 (v := ?tv7) rfl (by kernel_rfl) (by kernel_rfl) (by kernel_rfl) (fun _ _ _ h => h) (.inl ⟨rfl, ?ty7⟩) hS0 ?tr7
  case ty7 => (intro _ _; go_simp; try with_reducible rfl)
  case tr7 =>
  simp only [Act.put, List.setIfInBounds_toArray, List.set_cons_succ, List.set_cons_zero]
  refine held_take 11 (v := ?tv8) rfl (by kernel_rfl) (by kernel_rfl) (by kernel_rfl) (fun _ _ _ h => h) (.inl ⟨rfl, ?ty8⟩) hS0 ?tr8
  case ty8 => (intro _ _; go_simp; try with_reducible rfl)
  case tr8 =>
  simp only [Act.put, List.setIfInBounds_toArray, List.set_cons_succ, List.set_cons_zero]
  generalize wA.drew = wD at *
  have hlow : ∀ w1, C w1 → w.heap.size + 1 ≤ w1.heap.size := fun w1 h1 => by have := PA.out.lt; have := ((HCC.out w1).1 h1).kept.1; omega
  refine held_22 (i1 := 0) (i2 := 1) (j1 := 4) (j2 := 7) (β := Nat) (γ1 := Nat) (γ2 := Nat) (fun b => .slice (some ⟨b, 0, none⟩) 4 4) (fun b => .slice (some ⟨b, 0, none⟩) 8 8) (fun b => .slice (some ⟨b, 0, none⟩) 8 8)
    (fun b w1 => w.heap.size + 1 ≤ b ∧ ∃ zz, w1.heap[b]? = some (.cells #[Value.int .u8 75, Value.int .u8 87, Value.int .u8 72, Value.int .u8 49] 5 zz)) (fun b w1 => Cells w1 (some ⟨b, 0, none⟩) ((longL (UInt64.ofNat i)).map u8v)) (fun b w1 => Cells w1 (some ⟨b, 0, none⟩) ((longL (UInt64.ofNat z)).map u8v))
    (fun x1 x2 y1 y2 => { tmps := #[Value.agg hv.toArray, Value.pointer (some { block := w.heap.size, off := 0 }), Value.slice none 0 0, Value.int IntKind.i64 0, Value.pointer (some { block := w.heap.size, off := 0 }), Value.int IntKind.i64 ↑i, Value.bool false, Value.bool false, Value.pointer (some { block := w.heap.size, off := 0 }), Value.int IntKind.i64 ↑i, Value.bool false, Value.bool false, Value.bool false, Value.pointer (some { block := w.heap.size, off := 1 }), Value.int IntKind.i64 ↑z, Value.bool false, Value.bool false, Value.bool false, Value.pointer (some { block := w.heap.size, off := 1 }), Value.int IntKind.i64 ↑z, Value.bool false, Value.bool false, x1, x2, Value.pointer (some { block := w.heap.size, off := 0 }), Value.int IntKind.i64 ↑i, y1, Value.pointer (some { block := w.heap.size, off := 1 }), Value.int IntKind.i64 ↑z, y2, Value.pointer (some { block := w.heap.size, off := 2 }), Value.slice (some { block := w.heap.size, off := 2 }) 32 32, Value.pointer (some { block := w.heap.size, off := 34 }), Value.slice (some { block := w.heap.size, off := 34 }) 32 32, undef, undef], defers := [] })
    (by kernel_rfl) (by kernel_rfl) (by kernel_rfl) (by kernel_rfl) (by kernel_rfl) (by kernel_rfl) (by kernel_rfl) (by kernel_rfl) rfl rfl rfl rfl rfl rfl rfl rfl
    (fun b w1 w2 h k => ⟨h.1, by obtain ⟨z1, hz⟩ := h.2; exact k.2 _ _ _ _ hz⟩) (fun b w1 w2 h k => h.rel k) (fun b w1 w2 h k => h.rel k)
    ?c1 ?c2 ?c3 ?c4 rfl hS0 ?rest
  case c1 =>
    intro y1 y2 w1 hS1 Q' hQ
    have hb := hlow w1 hS1
    clear hS0 e0 e1
    go_wp2_with fail
    exact hQ w1.heap.size _ (hCx _ _ hS1 ((Ext.refl w1).alloc _)) (Rel.ofExt ((Ext.refl w1).alloc _)) ⟨hb, (0, 0), Blk.alloc_new w1 ([75, 87, 72, 49].map u8v) 5⟩
  case c2 =>
    rintro b y1 y2 w1 hS1 ⟨hb, zz, hcb⟩ Q' hQ
    have kc := run_conv_mark (P := Try.prog) 73 5 b 4 4 _ _ _ w1 Try.underlying73 Try.underlying5 hcb
    clear hcb hS0 e0 e1
    go_wp2_with fail
    exact hQ _ ((HCC.out _).2 (((HCC.out _).1 hS1).grownF (freeze_grown w1 _) (fun g h => by cases h; simp; omega) (fun g h => by cases h; show _ ≤ b; omega))) (freeze_rel w1 _)
  case c3 =>
    intro x1 x2 w1 hS1 Q' hQ
    clear hS0 e0 e1
    go_wp2_with fail
    refine (hp1.out w1).mono ?_
    rintro e w2 ⟨rfl, b2, e2⟩
    have hS2 := hCx _ _ hS1 e2
    have C2 := hid (Cells.of_blk0 b2)
    have hr := Rel.ofExt e2
    clear b2 e2
    go_wp2_with fail
    exact hQ _ _ hS2 hr C2.out
  case c4 =>
    intro x1 x2 b1 w1 hS1 Q' hQ
    clear hS0 e0 e1
    go_wp2_with fail
    refine (hp2.out w1).mono ?_
    rintro e w2 ⟨rfl, b2, e2⟩
    have hS2 := hCx _ _ hS1 e2
    have C2 := hid (Cells.of_blk0 b2)
    have hr := Rel.ofExt e2
    clear b2 e2
    go_wp2_with fail
    exact hQ _ _ hS2 hr C2.out
  case rest =>
    clear hS0 hp1 hp2
    rintro b b1 b2 wF hF ⟨hb, zb, hcb⟩ k1 k2
    have k0 : Cells wF (some ⟨b, 0, none⟩) ([75, 87, 72, 49].map u8v) := by
      refine .inr ⟨b, 0, rfl, fun j u hu => ?_⟩
      rw [Nat.zero_add]
      simp only [World.cell?, hcb]
      exact (List.getElem?_toArray (xs := [75, 87, 72, 49].map u8v)).trans hu
    have PF := hid (((HCC.out wF).1 hF).blk PA.out (by simp))
    have k3 : Cells wF (some ⟨w.heap.size, 2, none⟩) (r1.map u8v) := by
      have := Cells.of_blk PF.out 2 32
      rwa [HR1.out] at this
    have k4 : Cells wF (some ⟨w.heap.size, 34, none⟩) (r2.map u8v) := by
      have := Cells.of_blk PF.out 34 32
      rwa [HR2.out] at this
    have K0 := hid k0
    have K1 := hid k1
    have K2 := hid k2
    have K3 := hid k3
    have K4 := hid k4
    clear k0 k1 k2 k3 k4 hcb hb e0 e1 hlow
    try dsimp only
    try simp only [Act.put, List.setIfInBounds_toArray, List.set_cons_succ, List.set_cons_zero]
    refine held_one (i := 12) (by kernel_rfl) rfl ?_
    intro Q' hQ
    go_wp2_with fail
    have hG := hCx _ _ hF ((Ext.refl wF).alloc (.cells #[.slice (some ⟨b, 0, none⟩) 4 4, .slice (some ⟨b1, 0, none⟩) 8 8, .slice (some ⟨b2, 0, none⟩) 8 8, .slice (some ⟨w.heap.size, 2, none⟩) 32 32, .slice (some ⟨w.heap.size, 34, none⟩) 32 32] 73))
    have BG := hid (show Blk (wF.alloc (.cells #[.slice (some ⟨b, 0, none⟩) 4 4, .slice (some ⟨b1, 0, none⟩) 8 8, .slice (some ⟨b2, 0, none⟩) 8 8, .slice (some ⟨w.heap.size, 2, none⟩) 32 32, .slice (some ⟨w.heap.size, 34, none⟩) 32 32] 73)) wF.heap.size [.slice (some ⟨b, 0, none⟩) 4 4, .slice (some ⟨b1, 0, none⟩) 8 8, .slice (some ⟨b2, 0, none⟩) 8 8, .slice (some ⟨w.heap.size, 2, none⟩) 32 32, .slice (some ⟨w.heap.size, 34, none⟩) 32 32] 73 from Blk.mk_alloc rfl rfl)
    have EG := hid ((Ext.refl wF).alloc (.cells #[.slice (some ⟨b, 0, none⟩) 4 4, .slice (some ⟨b1, 0, none⟩) 8 8, .slice (some ⟨b2, 0, none⟩) 8 8, .slice (some ⟨w.heap.size, 2, none⟩) 32 32, .slice (some ⟨w.heap.size, 34, none⟩) 32 32] 73))
    refine hQ _ _ hG ?_
    clear hQ Q'
    generalize wF.alloc (.cells #[.slice (some ⟨b, 0, none⟩) 4 4, .slice (some ⟨b1, 0, none⟩) 8 8, .slice (some ⟨b2, 0, none⟩) 8 8, .slice (some ⟨w.heap.size, 2, none⟩) 32 32, .slice (some ⟨w.heap.size, 34, none⟩) 32 32] 73) = wG at *
    try dsimp only
    try simp only [Act.put, List.setIfInBounds_toArray, List.set_cons_succ, List.set_cons_zero]
    refine held_one (i := 13) (by kernel_rfl) rfl ?_
    intro Q' hQ
    go_wp2_with fail
    have hcat : cat [(some ⟨b, 0, none⟩, 4, [75, 87, 72, 49]), (some ⟨b1, 0, none⟩, 8, longL (UInt64.ofNat i)), (some ⟨b2, 0, none⟩, 8, longL (UInt64.ofNat z)), (some ⟨w.heap.size, 2, none⟩, 32, r1), (some ⟨w.heap.size, 34, none⟩, 32, r2)] = headO (i : Int) (z : Int) r1 r2 := by simp [cat, headO]
    have hlen : (headO (i : Int) (z : Int) r1 r2).length = 84 := by simp [headO, longL_length, HL1.out, HL2.out]
    refine (concat_c [(some ⟨b, 0, none⟩, 4, [75, 87, 72, 49]), (some ⟨b1, 0, none⟩, 8, longL (UInt64.ofNat i)), (some ⟨b2, 0, none⟩, 8, longL (UInt64.ofNat z)), (some ⟨w.heap.size, 2, none⟩, 32, r1), (some ⟨w.heap.size, 34, none⟩, 32, r2)] wF.heap.size 5 5 wG rfl (by omega) (by omega) ?hg ?hc ?hn ?hl).mono ?_
    case hg =>
      intro j it hit
      match j, hit with
      | 0, hit => cases hit; exact BG.out.cell' rfl
      | 1, hit => cases hit; exact BG.out.cell' rfl
      | 2, hit => cases hit; exact BG.out.cell' rfl
      | 3, hit => cases hit; unfold itemV; simp only; rw [HL1.out]; exact BG.out.cell' rfl
      | 4, hit => cases hit; unfold itemV; simp only; rw [HL2.out]; exact BG.out.cell' rfl
    case hc =>
      intro it hit
      simp only [List.mem_cons, List.not_mem_nil, or_false] at hit
      rcases hit with rfl | rfl | rfl | rfl | rfl
      · exact K0.out.ext EG.out
      · exact K1.out.ext EG.out
      · exact K2.out.ext EG.out
      · exact K3.out.ext EG.out
      · exact K4.out.ext EG.out
    case hn =>
      intro it hit
      simp only [List.mem_cons, List.not_mem_nil, or_false] at hit
      rcases hit with rfl | rfl | rfl | rfl | rfl <;> (intro h; cases h)
    case hl => rw [hcat, hlen]; omega
    rw [hcat, hlen]
    rintro e wH ⟨v, rfl, own, eH⟩
    have hH := hCx _ _ hG eH
    have OH := hid own
    clear own hcat hlen
    go_wp2_with fail
    refine hQ _ _ hH ?_
    clear hQ Q' hF hG eH
    try dsimp only
    try simp only [Act.put, List.setIfInBounds_toArray, List.set_cons_succ, List.set_cons_zero]
    have hS0 := hH
    clear hH
    refine held_take 14 (v := ?tv9) rfl (by kernel_rfl) (by kernel_rfl) (by kernel_rfl) (fun _ _ _ h => h) (.inl ⟨rfl, ?ty9⟩) hS0 ?tr9
    case ty9 => (intro _ _; go_simp; try with_reducible rfl)
    case tr9 =>
    simp only [Act.put, List.setIfInBounds_toArray, List.set_cons_succ, List.set_cons_zero]
    refine held_take 15 (v := ?tv10) rfl (by kernel_rfl) (by kernel_rfl) (by kernel_rfl) (fun _ _ _ h => h) (.inl ⟨rfl, ?ty10⟩) hS0 ?tr10
    case ty10 => (intro _ _; go_simp; try with_reducible rfl)
    case tr10 =>
    simp only [Act.put, List.setIfInBounds_toArray, List.set_cons_succ, List.set_cons_zero]
    have EH := hid ((HCC.out wH).1 hS0).base
    have EGs := EG.out.size
    clear hS0 HCC hCx hCA
    refine wpAnyH_done (by kernel_rfl) ?_ _
    go_wp2
    go_ret2
    refine ⟨_, by rw [HE.out]; rfl, ?_, EH.out⟩
    rw [if_pos HE.out]
    exact own_lower OH.out (by have := PF.out.lt; omega)
end

section
open Go Go.RowKit

set_option maxRecDepth 100000 in
set_option maxHeartbeats 2000000 in
theorem raskSum_c (a : AskR) (w : World) (ha : a.Ok w) (h0 : askE a = 0) :
    Calls Try.prog 28 #[.agg a.v.toArray] w fun e w' => e = .returned (.agg ((sumL 5 (askT a)).map u8v).toArray) ∧ Ext w w' := by
  have HLEN := hid (AskR.len ha)
  have H17 := hid (AskR.at17 ha)
  have HP0 := hid (AskR.part0 ha)
  have HP4 := hid (AskR.part4 ha)
  have HP6 := hid (AskR.part6 ha)
  have HL0 := hid ha.ha
  have HL4 := hid ha.hk
  have HL6 := hid ha.hd
  have hsum := hid (fun (b : Option Addr) (c : Nat) w' h => rsum_c 5 (askT a) 65 c b w' (by omega) (by omega) (askT_length ha) (by omega) h)
  have HTL := hid (askT_length ha)
  have HSL := hid (show ((sumL 5 (askT a)).map u8v).length = 32 by rw [List.length_map, sumL_length])
  have oS := one_u8 (sumL 5 (askT a))
  obtain ⟨A, hA, hA12⟩ := askE_act h0
  obtain ⟨ob, hob⟩ : ∃ ob, ob = UInt8.ofNat A := ⟨_, rfl⟩
  have hT : a.actor ++ [ob] ++ a.key ++ a.detail = askT a := by unfold askT; rw [hA, hob]; rfl
  have HT := hid hT
  have HOB := hid hob
  rw [hA] at H17
  clear hob hT hA h0 ha
  generalize hs0 : sumL 5 (askT a) = S at *
  clear hs0
  generalize askT a = tx at *
  generalize a.v = av at *
  generalize a.actor = l0 at *
  generalize a.key = l4 at *
  generalize a.detail = l6 at *
  go_enter Try.func28, Try.ntmps28
  go_upto_region 1 with (fail)
  generalize hwA : World.alloc (World.alloc w _) _ = wA
  have gA : Blk wA w.heap.size av 42 := by rw [← hwA]; exact (Blk.mk_alloc rfl rfl).alloc _
  have zA : Blk wA (w.heap.size + 1) (List.replicate 32 (.int .u8 0)) 40 := by rw [← hwA]; exact Blk.mk_alloc (by simp) rfl
  have eA : Ext w wA := by rw [← hwA]; exact ((Ext.refl w).alloc _).alloc _
  have GA := hid gA
  have ZA := hid zA
  have EA := hid eA
  clear hwA gA zA eA
  obtain ⟨C, hC⟩ : ∃ C : World → Prop, C = Cls w wA [w.heap.size, w.heap.size+1] [] := ⟨_, rfl⟩
  have hC0 : ∀ w', C w' ↔ Cls w wA [w.heap.size, w.heap.size+1] [] w' := fun w' => by rw [hC]
  clear hC
  have HCC := hid hC0
  clear hC0
  have hCx : ∀ w w', C w → Ext w w' → C w' := fun w w' h1 h2 => (HCC.out w').2 (((HCC.out w).1 h1).ext h2)
  have hCA : C wA := (HCC.out _).2 (Cls.no_room EA.out (Kept.two GA.out.lt ZA.out.lt))
  have e17 : ∀ w1, C w1 → w1.cell? ⟨w.heap.size, 17, none⟩ = some (.int .i64 (A : Int)) := fun w1 h1 => (((HCC.out w1).1 h1).blk GA.out (by simp)).cell' H17.out
  have e0 : ∀ w1, C w1 → Cells w1 (some ⟨w.heap.size, 0, none⟩) (l0.map u8v) := fun w1 h1 => by
    have := Cells.of_blk (((HCC.out w1).1 h1).blk GA.out (by simp)) 0 16
    rwa [HP0.out] at this
  have e4 : ∀ w1, C w1 → Cells w1 (some ⟨w.heap.size, 19, none⟩) (l4.map u8v) := fun w1 h1 => by
    have := Cells.of_blk (((HCC.out w1).1 h1).blk GA.out (by simp)) 19 16
    rwa [HP4.out] at this
  have e6 : ∀ w1, C w1 → Cells w1 (some ⟨w.heap.size, 36, none⟩) (l6.map u8v) := fun w1 h1 => by
    have := Cells.of_blk (((HCC.out w1).1 h1).blk GA.out (by simp)) 36 32
    rwa [HP6.out] at this
  refine wp_region_w (S := C) (W := [13]) (by kernel_rfl) (hCx _ _ hCA (Ext.refl _).drew) (fun hS0 => ?_)
  refine w_pure 0 (v := ?tv1) rfl (by kernel_rfl) (by kernel_rfl) (by kernel_rfl) (fun _ _ _ h => h) (.inl ⟨rfl, ?ty1⟩) ?tr1
  case ty1 => (intro _ _; go_simp; try with_reducible rfl)
  case tr1 =>
  simp only [Act.put, List.setIfInBounds_toArray, List.set_cons_succ, List.set_cons_zero]
  refine w_pure 1 (v := ?tv2) rfl (by kernel_rfl) (by kernel_rfl) (by kernel_rfl) (fun _ _ _ h => h) (.inl ⟨rfl, ?ty2⟩) ?tr2
  case ty2 => (intro _ _; go_simp; try with_reducible rfl)
  case tr2 =>
  simp only [Act.put, List.setIfInBounds_toArray, List.set_cons_succ, List.set_cons_zero]
  refine w_pure 2 (v := ?tv3) rfl (by kernel_rfl) (by kernel_rfl) (by kernel_rfl) (fun _ _ _ h => h) (.inl ⟨rfl, ?ty3⟩) ?tr3
  case ty3 => (intro _ _; go_simp; try with_reducible rfl)
  case tr3 =>
  simp only [Act.put, List.setIfInBounds_toArray, List.set_cons_succ, List.set_cons_zero]
  refine w_take 3 (v := ?tv4) rfl (by kernel_rfl) (by kernel_rfl) (by kernel_rfl) (by kernel_rfl) (by kernel_rfl) (fun _ _ _ h => h) (.inl ⟨rfl, ?ty4⟩) hS0 ?tr4
  case ty4 => (intro wq hwq; have hcq := (e17) wq hwq; go_simp; try with_reducible rfl)
  case tr4 =>
  simp only [Act.put, List.setIfInBounds_toArray, List.set_cons_succ, List.set_cons_zero]
  refine w_pure 4 (v := ?tv5) rfl (by kernel_rfl) (by kernel_rfl) (by kernel_rfl) (fun _ _ _ h => h) (.inl ⟨rfl, ?ty5⟩) ?tr5
  case ty5 => (intro _ _; go_simp; try with_reducible rfl)
  case tr5 =>
  simp only [Act.put, List.setIfInBounds_toArray, List.set_cons_succ, List.set_cons_zero]
  refine w_pure 6 (v := ?tv6) rfl (by kernel_rfl) (by kernel_rfl) (by kernel_rfl) (fun _ _ _ h => h) (.inl ⟨rfl, ?ty6⟩) ?tr6
  case ty6 => (intro _ _; go_simp; try with_reducible rfl)
  case tr6 =>
  simp only [Act.put, List.setIfInBounds_toArray, List.set_cons_succ, List.set_cons_zero]
  refine w_pure 7 (v := ?tv7) rfl (by kernel_rfl) (by kernel_rfl) (by kernel_rfl) (fun _ _ _ h => h) (.inl ⟨rfl, ?ty7⟩) ?tr7
  case ty7 => (intro _ _; go_simp; try with_reducible rfl)
  case tr7 =>
  simp only [Act.put, List.setIfInBounds_toArray, List.set_cons_succ, List.set_cons_zero]
  refine w_pure 8 (v := ?tv8) rfl (by kernel_rfl) (by kernel_rfl) (by kernel_rfl) (fun _ _ _ h => h) (.inl ⟨rfl, ?ty8⟩) ?tr8
  case ty8 => (intro _ _; go_simp; try with_reducible rfl)
  case tr8 =>
  simp only [Act.put, List.setIfInBounds_toArray, List.set_cons_succ, List.set_cons_zero]
  refine w_pure 9 (v := ?tv9) rfl (by kernel_rfl) (by kernel_rfl) (by kernel_rfl) (fun _ _ _ h => h) (.inl ⟨rfl, ?ty9⟩) ?tr9
  case ty9 => (intro _ _; go_simp; try with_reducible rfl)
  case tr9 =>
  simp only [Act.put, List.setIfInBounds_toArray, List.set_cons_succ, List.set_cons_zero]
  have hw8 : IntKind.u8.wrap (A : Int) = (ob.toNat : Int) := by
    rw [HOB.out, UInt8.toNat_ofNat', IntWalk.u8_in _ (by omega)]
    omega
  rw [hw8]
  clear hw8
  have hgA := hid ZA.out.lt
  generalize wA.drew = wD at *
  refine w_one (i := 5) (by kernel_rfl) rfl (by kernel_rfl) hS0 ?_
  intro Q' hQ
  go_wp2_with fail
  have BN := hid (show Blk (wD.alloc (.cells #[.int .u8 (ob.toNat : Int)] 5)) wD.heap.size ([ob].map u8v) 5 from Blk.mk_alloc rfl rfl)
  have hF := hCx _ _ hS0 ((Ext.refl wD).alloc (.cells #[.int .u8 (ob.toNat : Int)] 5))
  refine hQ _ _ hF ?_
  clear hQ Q' hS0
  have hS0 := hF
  clear hF
  generalize wD.alloc (.cells #[.int .u8 (ob.toNat : Int)] 5) = wF at *
  generalize wD.heap.size = gn at *
  try dsimp only
  try simp only [Act.put, List.setIfInBounds_toArray, List.set_cons_succ, List.set_cons_zero]
  have k1 := hid (Cells.of_blk0 BN.out)
  have k0 := hid (e0 wF hS0)
  have k4 := hid (e4 wF hS0)
  have k6 := hid (e6 wF hS0)
  clear BN e0 e4 e6 e17
  refine w_one (i := 10) (by kernel_rfl) rfl (by kernel_rfl) hS0 ?_
  intro Q' hQ
  go_wp2_with fail
  have hG := hCx _ _ hS0 ((Ext.refl wF).alloc (.cells #[.slice (some ⟨w.heap.size, 0, none⟩) 16 16, .slice (some ⟨gn, 0, none⟩) 1 1, .slice (some ⟨w.heap.size, 19, none⟩) 16 16, .slice (some ⟨w.heap.size, 36, none⟩) 32 32] 73))
  have BG := hid (show Blk (wF.alloc (.cells #[.slice (some ⟨w.heap.size, 0, none⟩) 16 16, .slice (some ⟨gn, 0, none⟩) 1 1, .slice (some ⟨w.heap.size, 19, none⟩) 16 16, .slice (some ⟨w.heap.size, 36, none⟩) 32 32] 73)) wF.heap.size [.slice (some ⟨w.heap.size, 0, none⟩) 16 16, .slice (some ⟨gn, 0, none⟩) 1 1, .slice (some ⟨w.heap.size, 19, none⟩) 16 16, .slice (some ⟨w.heap.size, 36, none⟩) 32 32] 73 from Blk.mk_alloc rfl rfl)
  have EG := hid ((Ext.refl wF).alloc (.cells #[.slice (some ⟨w.heap.size, 0, none⟩) 16 16, .slice (some ⟨gn, 0, none⟩) 1 1, .slice (some ⟨w.heap.size, 19, none⟩) 16 16, .slice (some ⟨w.heap.size, 36, none⟩) 32 32] 73))
  refine hQ _ _ hG ?_
  clear hQ Q' hS0
  have hS0 := hG
  clear hG
  generalize wF.alloc (.cells #[.slice (some ⟨w.heap.size, 0, none⟩) 16 16, .slice (some ⟨gn, 0, none⟩) 1 1, .slice (some ⟨w.heap.size, 19, none⟩) 16 16, .slice (some ⟨w.heap.size, 36, none⟩) 32 32] 73) = wG at *
  generalize wF.heap.size = gf at *
  try dsimp only
  try simp only [Act.put, List.setIfInBounds_toArray, List.set_cons_succ, List.set_cons_zero]
  refine w_one (i := 11) (by kernel_rfl) rfl (by kernel_rfl) hS0 ?_
  intro Q' hQ
  go_wp2_with fail
  have hcat : cat [(some ⟨w.heap.size, 0, none⟩, 16, l0), (some ⟨gn, 0, none⟩, 1, [ob]), (some ⟨w.heap.size, 19, none⟩, 16, l4), (some ⟨w.heap.size, 36, none⟩, 32, l6)] = tx := by rw [← HT.out]; simp [cat]
  refine (concat_c [(some ⟨w.heap.size, 0, none⟩, 16, l0), (some ⟨gn, 0, none⟩, 1, [ob]), (some ⟨w.heap.size, 19, none⟩, 16, l4), (some ⟨w.heap.size, 36, none⟩, 32, l6)] gf 4 4 wG rfl (by omega) (by omega) ?hg ?hc ?hn ?hl).mono ?_
  case hg =>
    intro j it hit
    match j, hit with
    | 0, hit => cases hit; unfold itemV; simp only; rw [HL0.out]; exact BG.out.cell' rfl
    | 1, hit => cases hit; exact BG.out.cell' rfl
    | 2, hit => cases hit; unfold itemV; simp only; rw [HL4.out]; exact BG.out.cell' rfl
    | 3, hit => cases hit; unfold itemV; simp only; rw [HL6.out]; exact BG.out.cell' rfl
  case hc =>
    intro it hit
    simp only [List.mem_cons, List.not_mem_nil, or_false] at hit
    rcases hit with rfl | rfl | rfl | rfl
    · exact k0.out.ext EG.out
    · exact k1.out.ext EG.out
    · exact k4.out.ext EG.out
    · exact k6.out.ext EG.out
  case hn =>
    intro it hit
    simp only [List.mem_cons, List.not_mem_nil, or_false] at hit
    rcases hit with rfl | rfl | rfl | rfl <;> (intro h; cases h)
  case hl => rw [hcat, HTL.out]; omega
  rw [hcat, HTL.out]
  rintro e wH ⟨v, rfl, own, eH⟩
  have hH := hCx _ _ hS0 eH
  obtain ⟨a5, k5, rfl, hk5, hm5, hz5, hc5⟩ := own_slice own
  have K5 := hid hc5
  clear own hcat hc5
  go_wp2_with fail
  refine hQ _ _ hH ?_
  clear hQ Q' hS0 eH
  have hS0 := hH
  clear hH
  try dsimp only
  try simp only [Act.put, List.setIfInBounds_toArray, List.set_cons_succ, List.set_cons_zero]
  refine w_one (i := 12) (by kernel_rfl) rfl (by kernel_rfl) hS0 ?_
  intro Q' hQ
  go_wp2_with fail
  refine (hsum.out a5 k5 wH K5.out).mono ?_
  rintro e wI ⟨rfl, eq9⟩
  have hS9 := hCx _ _ hS0 eq9
  go_wp2_with fail
  refine hQ _ _ hS9 ?_
  clear hQ Q' hS0 eq9
  have hS0 := hS9
  clear hS9
  try dsimp only
  try simp only [Act.put, List.setIfInBounds_toArray, List.set_cons_succ, List.set_cons_zero]
  have ZI := hid (((HCC.out wI).1 hS0).blk ZA.out (by simp))
  have EI := hid ((HCC.out wI).1 hS0).base
  clear hS0 HCC hCx hCA GA ZA EA hsum K5
  refine w_late (i := 13) (by kernel_rfl) rfl (by kernel_rfl) ?_
  intro Q' hQ
  go_wp2_with (refine wpl_storew rfl _ _ _ rfl rfl rfl ZI.out agg_apisum (by simp) HSL.out oS ?_)
  intro wJ bJ uJ
  go_wp2_with fail
  refine hQ _ _ trivial ?_
  clear hQ Q'
  have BJ := hid bJ
  have EJ := hid (uJ.ext EI.out (by omega))
  clear bJ uJ ZI EI
  try dsimp only
  try simp only [Act.put, List.setIfInBounds_toArray, List.set_cons_succ, List.set_cons_zero]
  refine w_done (by kernel_rfl) ?_ _
  go_wp2
  exact ret_row rfl rfl BJ.out agg_apisum HSL.out rfl ⟨rfl, EJ.out⟩
end

section
open Go Go.RowKit

/-- the key of a key -/
def deriveL (k s : List UInt8) (ep : Nat) : List UInt8 := sumL 7 (k ++ s ++ [0] ++ longL (UInt64.ofNat ep))
def deriveV (k s : List UInt8) (b : Bool) (ep : Int) : Value :=
  if b = false then .tuple #[zeros 32, .int .i64 6] else if ep < 0 ∨ 4294967295 < ep then .tuple #[zeros 32, .int .i64 4] else .tuple #[.agg ((deriveL k s ep.toNat).map u8v).toArray, .int .i64 0]

set_option maxRecDepth 100000 in
set_option maxHeartbeats 1000000 in
theorem rderive_c (k : List UInt8) (s : ByteArray) (ep : Int) (b : Bool) (w : World) (hk : k.length = 32) (hnm : ∀ w, Calls Try.prog 16 #[.string s] w fun e w' => e = .returned (.bool b) ∧ Ext w w') (hsz : b = true → s.size ≤ 32) :
    Calls Try.prog 11 #[.agg (k.map u8v).toArray, .string s, .int .i64 ep] w fun e w' => e = .returned (deriveV k s.data.toList b ep) ∧ Ext w w' := by
  obtain ⟨V, hV⟩ : ∃ V, deriveV k s.data.toList b ep = V := ⟨_, rfl⟩
  rw [hV]
  unfold deriveV at hV
  have HV := hid hV
  have HK := hid hk
  have HNM := hid hnm
  have HSZ := hid hsz
  clear hV hk hnm hsz
  go_enter Try.func11, Try.ntmps11
  go_wp2_with fail
  generalize hwA : World.alloc (World.alloc w _) _ = wA
  have kA : Blk wA w.heap.size (k.map u8v) 23 := by rw [← hwA]; exact (Blk.mk_alloc rfl rfl).alloc _
  have zA : Blk wA (w.heap.size + 1) (List.replicate 32 (.int .u8 0)) 23 := by rw [← hwA]; exact Blk.mk_alloc (by simp) rfl
  have eA : Ext w wA := by rw [← hwA]; exact ((Ext.refl w).alloc _).alloc _
  clear hwA
  refine (HNM.out wA).mono ?_
  rintro e w1 ⟨rfl, e1⟩
  have K1 := hid (kA.ext e1)
  have Z1 := hid (zA.ext e1)
  have E1 := hid (eA.ext e1)
  have l1 : w.heap.size + 1 < w1.heap.size := Z1.out.lt
  clear kA zA eA e1
  cases b with
  | false =>
    have hv := HV.out
    rw [if_pos rfl] at hv
    have HV2 := hid hv
    clear hv HV
    go_wp2_with (refine wpl_storew rfl _ _ _ rfl rfl rfl Z1.out agg_key (by simp) (xs := List.replicate 32 (.int .u8 0)) (by simp) (one_zeros 32) ?_)
    intro w4 b4 u4
    go_wp2
    refine ret_row2 rfl rfl b4 agg_key (by simp) rfl ⟨by rw [← HV2.out]; unfold zeros; rfl, u4.ext E1.out (by omega)⟩
  | true =>
    have hv := HV.out
    rw [if_neg (by decide)] at hv
    have hs32 := HSZ.out rfl
    by_cases hep : ep < 0 ∨ 4294967295 < ep
    · rw [if_pos hep] at hv
      have HV2 := hid hv
      clear hv HV
      by_cases h0 : ep < 0
      · have d1 : decide (ep < 0) = true := decide_eq_true h0
        clear hep
        go_wp2_with (refine wpl_storew rfl _ _ _ rfl rfl rfl Z1.out agg_key (by simp) (xs := List.replicate 32 (.int .u8 0)) (by simp) (one_zeros 32) ?_)
        intro w4 b4 u4
        go_wp2
        refine ret_row2 rfl rfl b4 agg_key (by simp) rfl ⟨by rw [← HV2.out]; unfold zeros; rfl, u4.ext E1.out (by omega)⟩
      · have d1 : decide (ep < 0) = false := decide_eq_false h0
        have d2 : decide (4294967295 < ep) = true := decide_eq_true (by omega)
        clear hep
        go_wp2_with (refine wpl_storew rfl _ _ _ rfl rfl rfl Z1.out agg_key (by simp) (xs := List.replicate 32 (.int .u8 0)) (by simp) (one_zeros 32) ?_)
        intro w4 b4 u4
        go_wp2
        refine ret_row2 rfl rfl b4 agg_key (by simp) rfl ⟨by rw [← HV2.out]; unfold zeros; rfl, u4.ext E1.out (by omega)⟩
    · rw [if_neg hep] at hv
      have d1 : decide (ep < 0) = false := decide_eq_false (by omega)
      have d2 : decide (4294967295 < ep) = false := decide_eq_false (by omega)
      obtain ⟨N, rfl⟩ := Int.eq_ofNat_of_zero_le (show 0 ≤ ep by omega)
      have hNb : N ≤ 4294967295 := by omega
      rw [Int.toNat_natCast] at hv
      have hll : (longL (UInt64.ofNat N)).length = 8 := rfl
      have hlong := hid (fun w => rlong_c N w (by omega))
      have hlen : (k ++ s.data.toList ++ [0] ++ longL (UInt64.ofNat N)).length = 41 + s.size := by
        have : s.data.toList.length = s.size := by rw [Array.length_toList]; rfl
        rw [List.length_append, List.length_append, List.length_append, HK.out, this, hll]; simp only [List.length_cons, List.length_nil]; omega
      have hsum := fun c a w h => rsum_c 7 (k ++ s.data.toList ++ [0] ++ longL (UInt64.ofNat N)) (41 + s.size) c a w (by omega) (by omega) hlen (by omega) h
      have HSL : Hid (((deriveL k s.data.toList N).map u8v).length = 32) := hid (by rw [List.length_map, deriveL, sumL_length])
      have o1 := one_u8 (deriveL k s.data.toList N)
      rw [show sumL 7 (k ++ s.data.toList ++ [0] ++ longL (UInt64.ofNat N)) = deriveL k s.data.toList N from rfl] at hsum
      generalize (deriveL k s.data.toList N).map u8v = dv at *
      generalize longL (UInt64.ofNat N) = ll at *
      have HLL := hid hll
      have HSUM := hid hsum
      have HV2 := hid hv
      obtain ⟨i0, hi, hz, hsz, hb1⟩ := info_parts info_u8
      clear hv HV hep hll hlen hsum
      go_wp2_with fail
      refine (clone_c k (some ⟨w.heap.size, 0, none⟩) 32 32 w1 HK.out (by omega) (Cells.of_blk0 K1.out)).mono ?_
      rintro e w2 ⟨v2, rfl, own2, -, e2⟩
      have O2 := hid own2
      have Z2 := hid (Z1.out.ext e2)
      have E2 := hid (E1.out.ext e2)
      have hb2 : w1.heap.size ≤ w2.heap.size := e2.size
      clear own2 e2 K1
      generalize w1.heap.size = B at *
      go_wp2_with (first | (at_builtin; refine Lib.wpList_append_own_string w2 rfl _ _ 73 9 rfl B 5 i0 Try.underlying73 Try.underlying9 hi hz hsz hb1 _ 32 _ rfl O2.out s rfl (by unfold maxLen; omega) (by omega) hb2 ?_))
      intro v3 w3 own3 g3 _
      have own3' : w3.ownsRow B 5 1 v3 (32 + s.size) ((k ++ s.data.toList).map u8v) := by rw [List.map_append]; exact own3
      have O3 := hid own3'
      have hv3 := own_block_ge O2.out
      have Z3 := hid (Z2.out.grown g3 (by intro h; have := hv3 _ h.symm; omega))
      have E3 := hid (E2.out.grown g3 (by intro q hq; have := hv3 _ hq; omega))
      have hb3 : B ≤ w3.heap.size := Nat.le_trans hb2 g3.size
      clear own3 own3' g3 hv3 O2 Z2 E2 hb2
      have zB : Blk (w3.alloc (.cells #[.int .u8 0] 5)) w3.heap.size (([0] : List UInt8).map u8v) 5 := Blk.mk_alloc rfl rfl
      have eB : Ext w3 (w3.alloc (.cells #[.int .u8 0] 5)) := (Ext.refl w3).alloc _
      have ZB := hid zB
      have O4 := hid (ownsRow_ext O3.out eB)
      have Z4 := hid (Z3.out.ext eB)
      have E4 := hid (E3.out.ext eB)
      have hb4 : B ≤ (w3.alloc (.cells #[.int .u8 0] 5)).heap.size := Nat.le_trans hb3 eB.size
      clear zB eB O3 Z3 E3
      go_wp2_with (first | (at_builtin; refine wpl_append8 rfl _ _ rfl B (ys := [0]) rfl rfl O4.out rfl (by intro h; cases h) (Cells.of_blk0 ZB.out) (by omega) hb4 ?_))
      generalize w3.alloc (.cells #[.int .u8 0] 5) = w4 at *
      intro v5 w5 own5 g5
      have own5' : w5.ownsRow B 5 1 v5 (32 + s.size + 1) ((k ++ s.data.toList ++ [0]).map u8v) := by rw [List.map_append]; simpa using own5
      have O5 := hid own5'
      have hv5 := own_block_ge O4.out
      have Z5 := hid (Z4.out.grown g5 (by intro h; have := hv5 _ h.symm; omega))
      have E5 := hid (E4.out.grown g5 (by intro q hq; have := hv5 _ hq; omega))
      have hb5 : B ≤ w5.heap.size := Nat.le_trans hb4 g5.size
      clear own5 own5' g5 hv5 O4 Z4 E4 hb4 ZB
      go_wp2_with fail
      refine (hlong.out w5).mono ?_
      rintro e w6 ⟨rfl, b6, e6⟩
      have O6 := hid (ownsRow_ext O5.out e6)
      have Z6 := hid (Z5.out.ext e6)
      have E6 := hid (E5.out.ext e6)
      have L6 := hid (Cells.of_blk0 b6)
      have hb6 : B ≤ w6.heap.size := Nat.le_trans hb5 e6.size
      clear b6 e6 O5 Z5 E5 hlong
      go_wp2_with (first | (at_builtin; refine wpl_append8 rfl _ _ rfl B (ys := ll) rfl rfl O6.out HLL.out (by intro h; cases h) L6.out (by omega) hb6 ?_))
      intro v7 w7 own7 g7
      have own7' : w7.ownsRow B 5 1 v7 (41 + s.size) ((k ++ s.data.toList ++ [0] ++ ll).map u8v) := by
        rw [List.map_append, show 41 + s.size = 32 + s.size + 1 + 8 by omega]; simpa using own7
      have hv7 := own_block_ge O6.out
      have Z7 := hid (Z6.out.grown g7 (by intro h; have := hv7 _ h.symm; omega))
      have E7 := hid (E6.out.grown g7 (by intro q hq; have := hv7 _ hq; omega))
      obtain ⟨a8, c8, rfl, -, -, -, hc8⟩ := own_slice own7'
      have HS8 := hid (HSUM.out c8 a8 w7 hc8)
      clear own7 own7' g7 hv7 O6 Z6 E6 L6 hb6 hc8 HSUM
      go_wp2_with fail
      refine HS8.out.mono ?_
      rintro e w9 ⟨rfl, e9⟩
      have Z9 := hid (Z7.out.ext e9)
      have E9 := hid (E7.out.ext e9)
      clear e9 HS8
      go_wp2_with (refine wpl_storew rfl _ _ _ rfl rfl rfl Z9.out agg_key (by simp) HSL.out o1 ?_)
      intro w10 b10 u10
      go_wp2
      refine ret_row2 rfl rfl b10 agg_key HSL.out rfl ⟨by rw [← HV2.out]; rfl, u10.ext E9.out (by omega)⟩
end

section
open Go Go.RowKit

section
variable {P : Program} {ops : Array Oper} {Q : Exit → Act → World → Prop} {S : World → Prop}
/-- two operations that may come up in either order, each of which makes something that stays -/
theorem held_par {i j : Nat} {oi oj : Oper} {ri rj : List Oper} {f : Nat} {listed : Array Bool} {a : Act} {w : World} {βi βj : Type} (vi : βi → Value) (vj : βj → Value) (Φi : βi → World → Prop) (Φj : βj → World → Prop)
    (hr : Region.ready .any ops listed = [i, j]) (hri : Region.ready .any ops (listed.setIfInBounds i true) = [j]) (hrj : Region.ready .any ops (listed.setIfInBounds j true) = [i]) (hne : (i == j) = false)
    (hoi : ops.toList.drop i = oi :: ri) (hoj : ops.toList.drop j = oj :: rj) (hSx : ∀ w w', S w → Ext w w' → S w') (hΦi : ∀ b w w', Φi b w → Ext w w' → Φi b w') (hΦj : ∀ b w w', Φj b w → Ext w w' → Φj b w')
    (hcm : ∀ x y, (a.put oj.dst y).put oi.dst x = (a.put oi.dst x).put oj.dst y)
    (hi : ∀ a', (a' = a ∨ ∃ b, a' = a.put oj.dst (vj b)) → ∀ w, S w → ∀ Q' : Exit → Act → World → Prop, (∀ b w', Ext w w' → Φi b w' → Q' .normal (a'.put oi.dst (vi b)) w') → wpList P ops Q' [oi] a' w)
    (hj : ∀ a', (a' = a ∨ ∃ b, a' = a.put oi.dst (vi b)) → ∀ w, S w → ∀ Q' : Exit → Act → World → Prop, (∀ b w', Ext w w' → Φj b w' → Q' .normal (a'.put oj.dst (vj b)) w') → wpList P ops Q' [oj] a' w)
    (hS : S w)
    (h : ∀ bi bj w', S w' → Φi bi w' → Φj bj w' → wpAnyH P .any ops Q S f ((listed.setIfInBounds i true).setIfInBounds j true) ((a.put oi.dst (vi bi)).put oj.dst (vj bj)) w') :
    wpAnyH P .any ops Q S (f + 2) listed a w := by
  have hne' : i ≠ j := by simpa using hne
  refine wpAnyH_all hr (by simp) fun k hk => ?_
  have hk' : k = i ∨ k = j := by simpa using hk
  rcases hk' with rfl | rfl
  · refine wpOp_of_list (op_of_drop hoi) (hi a (.inl rfl) w hS _ fun bi w1 e1 h1 => ?_)
    have hS1 := hSx _ _ hS e1
    refine ⟨hS1, ?_⟩
    refine held_one hri hoj fun Q' hQ => ?_
    refine hj _ (.inr ⟨bi, rfl⟩) w1 hS1 _ fun bj w2 e2 h2 => ?_
    exact hQ _ _ (hSx _ _ hS1 e2) (h bi bj w2 (hSx _ _ hS1 e2) (hΦi _ _ _ h1 e2) h2)
  · refine wpOp_of_list (op_of_drop hoj) (hj a (.inl rfl) w hS _ fun bj w1 e1 h1 => ?_)
    have hS1 := hSx _ _ hS e1
    refine ⟨hS1, ?_⟩
    refine held_one hrj hoi fun Q' hQ => ?_
    refine hi _ (.inr ⟨bj, rfl⟩) w1 hS1 _ fun bi w2 e2 h2 => ?_
    refine hQ _ _ (hSx _ _ hS1 e2) ?_
    rw [hcm, Array.setIfInBounds_comm _ _ (Ne.symm hne')]
    exact h bi bj w2 (hSx _ _ hS1 e2) h2 (hΦj _ _ _ h1 e2)
end

theorem wpl_stepA {P : Program} {ops : Array Oper} {rest : List Oper} {o : Oper} {a : Act} {w w' : World} {Q : Exit → Act → World → Prop} {v : Value} (hgd : o.guard = none) (hr : (execOp a.eval o).run P w = .ok (.value v) w') (h : wpList P ops Q rest (a.put o.dst v) w') : wpList P ops Q (o :: rest) a w :=
  wpList_plain hgd fun K hK => by
    unfold Oper.wp
    rw [hr, Oper.upon_value]
    exact hK _ _ h
theorem exec_toBytes {o : Oper} {a : Act} {x : Operand} {s : ByteArray} (ho : o.op = .convert 9 73 x) (hx : a.eval x = .string s) (w : World) :
    (execOp a.eval o).run Try.prog w = .ok (.value (.slice (some ⟨w.heap.size, 0, none⟩) s.size (grownCap w s.size 0 5)))
      (w.drew.alloc (.cells (bytesRow s (grownCap w s.size 0 5)) 5 ((bytesRow s (grownCap w s.size 0 5)).size, (bytesRow s (grownCap w s.size 0 5)).size + 1))) := by
  unfold execOp
  simp only [ho, hx, Sem.run_bind, run_bytes_of_string w _ _ _ s Try.underlying9 Try.underlying73 Try.underlying5, Result.andThen_ok, Sem.run_pure]
theorem cells_toBytes (s : ByteArray) (c : Nat) (w : World) (z : Nat × Nat) : Cells (w.drew.alloc (.cells (bytesRow s c) 5 z)) (some ⟨w.heap.size, 0, none⟩) (s.data.toList.map u8v) := by
  refine .inr ⟨w.heap.size, 0, rfl, fun i u hu => ?_⟩
  have hi : i < s.data.size := by
    have := (List.getElem?_eq_some_iff.1 hu).1
    rw [List.length_map, Array.length_toList] at this; exact this
  have hh : (w.drew.alloc (.cells (bytesRow s c) 5 z)).heap[w.heap.size]? = some (.cells (bytesRow s c) 5 z) := by
    show (w.heap.push _)[w.heap.size]? = _
    simp
  rw [Nat.zero_add]
  have hb : (bytesRow s c)[i]? = some u := by
    unfold bytesRow
    rw [Array.getElem?_append_left (by simpa using hi), Array.getElem?_map]
    rw [List.getElem?_map, Array.getElem?_toList] at hu
    exact hu
  simp only [World.cell?, hh]
  exact hb

set_option maxRecDepth 100000 in
set_option maxHeartbeats 2000000 in
theorem derive_ok (k : List UInt8) (s : ByteArray) (N : Nat) (w : World) (hk : k.length = 32) (hs : isNameL s.data.toList = true) (hs32 : s.size ≤ 32) (hN : N ≤ 4294967295) :
    Calls Try.prog 10 #[.agg (k.map u8v).toArray, .string s, .int .i64 (N : Int)] w fun e w' => e = .returned (.tuple #[.agg ((deriveL k s.data.toList N).map u8v).toArray, .int .i64 0]) ∧ Ext w w' := by
  have HK := hid hk
  have hnm := fun w => isName_c s w (by omega)
  rw [hs] at hnm
  have HNM := hid hnm
  have hun : ((UInt64.ofNat N).toNat : Int) = N := by rw [UInt64.toNat_ofNat']; omega
  have hlong := fun w => longOctets_c (UInt64.ofNat N) w
  rw [hun] at hlong
  have hll : (longL (UInt64.ofNat N)).length = 8 := rfl
  have hlv : ((longL (UInt64.ofNat N)).map u8v).length = 8 := rfl
  have o8 := one_u8 (longL (UInt64.ofNat N))
  have hsl : s.data.toList.length = s.size := by rw [Array.length_toList]; rfl
  have hlen : (k ++ s.data.toList ++ [0] ++ longL (UInt64.ofNat N)).length = s.size + 41 := by
    rw [List.length_append, List.length_append, List.length_append, hk, hsl, hll]; simp; omega
  have hdl : deriveL k s.data.toList N = sumL 7 (k ++ s.data.toList ++ [0] ++ longL (UInt64.ofNat N)) := rfl
  have hdll : (deriveL k s.data.toList N).length = 32 := by rw [hdl]; exact sumL_length _ _
  generalize longL (UInt64.ofNat N) = ll at *
  generalize deriveL k s.data.toList N = dl at *
  have odl := one_u8 dl
  have HDV := hid (show (dl.map u8v).length = 32 by rw [List.length_map, hdll])
  have HL := hid hlong
  have HLL := hid hll
  have HLV := hid hlv
  have HDL := hid hdl
  have HSL := hid hsl
  have HLEN := hid hlen
  have d1 : decide ((N : Int) < 0) = false := decide_eq_false (by omega)
  have d2 : decide ((4294967295 : Int) < (N : Int)) = false := decide_eq_false (by omega)
  have d2n : decide (4294967295 < N) = false := decide_eq_false (by omega)
  have hu : IntKind.u64.wrap (N : Int) = (N : Int) := IntWalk.u64_in _ (by omega)
  clear hs hk hnm hun hlong hll hlv hdl hsl hlen hdll
  go_enter Try.func10, Try.ntmps10
  go_wp2_with fail
  generalize hwA : World.alloc (World.alloc w _) _ = wA
  have kA : Blk wA w.heap.size (k.map u8v) 23 := by rw [← hwA]; exact (Blk.mk_alloc rfl rfl).alloc _
  have zA : Blk wA (w.heap.size + 1) (List.replicate 32 (.int .u8 0)) 23 := by rw [← hwA]; exact Blk.mk_alloc (by simp) rfl
  have eA : Ext w wA := by rw [← hwA]; exact ((Ext.refl w).alloc _).alloc _
  clear hwA
  refine (HNM.out wA).mono ?_
  rintro e w1 ⟨rfl, rfl⟩
  have KA := hid kA
  have ZA := hid zA
  have EA := hid eA
  clear kA zA eA HNM
  go_wp2_with fail
  refine (HL.out wA).mono ?_
  rintro e w2 ⟨rfl, e2⟩
  go_wp2_with (refine wpl_storew rfl _ _ _ rfl rfl rfl (Blk.mk_alloc rfl rfl) agg_eight rfl HLV.out o8 ?_)
  intro w3 b3 u3
  have e3 : Ext wA w3 := u3.ext (e2.alloc _) e2.size
  have K3 := hid (KA.out.ext e3)
  have Z3 := hid (ZA.out.ext e3)
  have E3 := hid (EA.out.ext e3)
  have L3 := hid b3
  clear b3 u3 e2 e3 KA ZA EA
  generalize w2.heap.size = g3 at *
  go_wp2_with fail
  obtain ⟨C, hC⟩ : ∃ C : World → Prop, C = Cls w w3 [w.heap.size, w.heap.size + 1, g3] [] := ⟨_, rfl⟩
  have hC0 : ∀ w', C w' ↔ Cls w w3 [w.heap.size, w.heap.size + 1, g3] [] w' := fun w' => by rw [hC]
  clear hC
  have HCC := hid hC0
  clear hC0
  have hCx : ∀ w w', C w → Ext w w' → C w' := fun w w' h1 h2 => (HCC.out w').2 (((HCC.out w).1 h1).ext h2)
  have hCA : C w3 := (HCC.out _).2 (Cls.no_room E3.out (Kept.three K3.out.lt Z3.out.lt L3.out.lt))
  refine wp_region_held_drew (S := C) (by kernel_rfl) (hCx _ _ hCA (Ext.refl _).drew) (fun hS0 => ?_)
  refine held_take 0 (v := ?tv1) rfl (by kernel_rfl) (by kernel_rfl) (by kernel_rfl) (fun _ _ _ h => h) (.inl ⟨rfl, ?ty1⟩) hS0 ?tr1
  case ty1 => (intro _ _; go_simp; try with_reducible rfl)
  case tr1 =>
  simp only [Act.put, List.setIfInBounds_toArray, List.set_cons_succ, List.set_cons_zero]
  refine held_take 1 (v := ?tv2) rfl (by kernel_rfl) (by kernel_rfl) (by kernel_rfl) (fun _ _ _ h => h) (.inl ⟨rfl, ?ty2⟩) hS0 ?tr2
  case ty2 => (intro _ _; go_simp; try with_reducible rfl)
  case tr2 =>
  simp only [Act.put, List.setIfInBounds_toArray, List.set_cons_succ, List.set_cons_zero]
  refine held_take 4 (v := ?tv3) rfl (by kernel_rfl) (by kernel_rfl) (by kernel_rfl) (fun _ _ _ h => h) (.inl ⟨rfl, ?ty3⟩) hS0 ?tr3
  case ty3 => (intro _ _; go_simp; try with_reducible rfl)
  case tr3 =>
  simp only [Act.put, List.setIfInBounds_toArray, List.set_cons_succ, List.set_cons_zero]
  refine held_par (i := 2) (j := 3) (βi := Nat × Nat) (βj := Nat) (fun b => .slice (some ⟨b.1, 0, none⟩) s.size b.2) (fun g => .slice (some ⟨g, 0, none⟩) 1 1) (fun b w' => Cells w' (some ⟨b.1, 0, none⟩) (s.data.toList.map u8v) ∧ s.size ≤ b.2 ∧ b.2 ≤ maxLen) (fun g w' => Blk w' g [.int .u8 0] 5) (by kernel_rfl) (by kernel_rfl) (by kernel_rfl) rfl rfl rfl hCx (fun b w1 w2 h e => ⟨h.1.ext e, h.2⟩) (fun b w1 w2 h e => h.ext e) ?hcm ?hi ?hj hS0 ?rest
  case hcm => intro x y; simp only [Act.put, List.setIfInBounds_toArray, List.set_cons_succ, List.set_cons_zero]
  case hi =>
    rintro a' (rfl | ⟨b, rfl⟩) w4 hS4 Q' hQ
    · refine wpl_stepA rfl (exec_toBytes rfl rfl w4) ?_
      exact hQ (w4.heap.size, _) _ ((Ext.refl w4).drew.alloc _) ⟨cells_toBytes s _ w4 _, grownCap_ge _ _ _ _, grownCap_le_maxLen _ _ _ _ (by unfold maxLen; omega)⟩
    · refine wpl_stepA rfl (exec_toBytes rfl rfl w4) ?_
      exact hQ (w4.heap.size, _) _ ((Ext.refl w4).drew.alloc _) ⟨cells_toBytes s _ w4 _, grownCap_ge _ _ _ _, grownCap_le_maxLen _ _ _ _ (by unfold maxLen; omega)⟩
  case hj =>
    rintro a' (rfl | ⟨b, rfl⟩) w4 hS4 Q' hQ
    · try simp only [Act.put, List.setIfInBounds_toArray, List.set_cons_succ, List.set_cons_zero]
      go_wp2_with fail
      exact hQ w4.heap.size _ ((Ext.refl w4).alloc _) (Blk.mk_alloc rfl rfl)
    · try simp only [Act.put, List.setIfInBounds_toArray, List.set_cons_succ, List.set_cons_zero]
      go_wp2_with fail
      exact hQ w4.heap.size _ ((Ext.refl w4).alloc _) (Blk.mk_alloc rfl rfl)
  case rest =>
  clear hS0
  rintro ⟨gb, cb⟩ gz w5 hS0 ⟨hcb, hb1, hb2⟩ hzb
  try dsimp only
  try simp only [Act.put, List.setIfInBounds_toArray, List.set_cons_succ, List.set_cons_zero]
  simp only at hcb hb1 hb2
  have HCB := hid hcb
  have HZB := hid hzb
  clear hcb hzb
  refine held_one (i := 5) (by kernel_rfl) rfl ?_
  intro Q' hQ
  go_wp2_with fail
  generalize hw6 : World.alloc w5 _ = w6
  have e6 : Ext w5 w6 := by rw [← hw6]; exact (Ext.refl w5).alloc _
  have gA : Blk w6 w5.heap.size [.slice (some ⟨w.heap.size, 0, none⟩) 32 32, .slice (some ⟨gb, 0, none⟩) s.size cb, .slice (some ⟨gz, 0, none⟩) 1 1, .slice (some ⟨g3, 0, none⟩) 8 8] 73 := by rw [← hw6]; exact Blk.mk_alloc rfl rfl
  clear hw6
  have hS6 := hCx _ _ hS0 e6
  refine hQ _ _ hS6 ?_
  clear hQ Q' hS0
  generalize w5.heap.size = g5 at *
  have GA := hid gA
  have CB6 := hid (HCB.out.ext e6)
  have ZB6 := hid (HZB.out.ext e6)
  clear gA e6 HCB HZB
  try dsimp only
  try simp only [Act.put, List.setIfInBounds_toArray, List.set_cons_succ, List.set_cons_zero]
  have hS0 := hS6
  clear hS6
  refine held_one (i := 6) (by kernel_rfl) rfl ?_
  intro Q' hQ
  go_wp2_with fail
  have K6 := ((HCC.out w6).1 hS0).blk K3.out (by simp)
  have L6 := ((HCC.out w6).1 hS0).blk L3.out (by simp)
  have hcat : cat [(some ⟨w.heap.size, 0, none⟩, 32, k), (some ⟨gb, 0, none⟩, cb, s.data.toList), (some ⟨gz, 0, none⟩, 1, [0]), (some ⟨g3, 0, none⟩, 8, ll)] = k ++ s.data.toList ++ [0] ++ ll := by simp [cat]
  refine (summed_c [(some ⟨w.heap.size, 0, none⟩, 32, k), (some ⟨gb, 0, none⟩, cb, s.data.toList), (some ⟨gz, 0, none⟩, 1, [0]), (some ⟨g3, 0, none⟩, 8, ll)] 7 g5 4 4 w6 rfl (by omega) ?hg GA.out.lt ?hc ?hn ?hnc ?hcm).mono ?_
  case hg =>
    intro i it hit
    match i, hit with
    | 0, hit => cases hit; rw [itemV]; simp only; rw [HK.out]; exact GA.out.cell' rfl
    | 1, hit => cases hit; rw [itemV]; simp only; rw [HSL.out]; exact GA.out.cell' rfl
    | 2, hit => cases hit; rw [itemV]; exact GA.out.cell' rfl
    | 3, hit => cases hit; rw [itemV]; simp only; rw [HLL.out]; exact GA.out.cell' rfl
  case hc =>
    intro it hit
    simp only [List.mem_cons, List.not_mem_nil, or_false] at hit
    rcases hit with rfl | rfl | rfl | rfl
    · exact Cells.of_blk0 K6
    · exact CB6.out
    · exact Cells.of_blk0 ZB6.out
    · exact Cells.of_blk0 L6
  case hn =>
    intro it hit
    simp only [List.mem_cons, List.not_mem_nil, or_false] at hit
    rcases hit with rfl | rfl | rfl | rfl <;> (intro h; cases h)
  case hnc =>
    intro it hit
    simp only [List.mem_cons, List.not_mem_nil, or_false] at hit
    rcases hit with rfl | rfl | rfl | rfl
    · rw [HK.out]; exact Nat.le_refl _
    · rw [HSL.out]; exact hb1
    · exact Nat.le_refl _
    · rw [HLL.out]; exact Nat.le_refl _
  case hcm =>
    intro it hit
    simp only [List.mem_cons, List.not_mem_nil, or_false] at hit
    rcases hit with rfl | rfl | rfl | rfl
    · simp
    · exact hb2
    · simp
    · simp
  intro e w7 h
  rw [hcat] at h
  unfold summedPost at h
  obtain ⟨h, e7⟩ := h
  rw [if_neg (by omega), HLEN.out, if_pos (by omega)] at h
  obtain ⟨rfl, h1⟩ := h
  have hS7 := hCx _ _ hS0 e7
  have hsum := sum_c (initS 7) (k ++ s.data.toList ++ [0] ++ ll) (s.size + 41) w6.heap.size SmT w7 (initS_length 7) (by omega) h1
  rw [show (finL (initS 7) (k ++ s.data.toList ++ [0] ++ ll) (s.size + 41)).take 32 = dl by rw [HDL.out, sumL, HLEN.out]] at hsum
  have hsum2 := hid hsum
  clear h1 hcat hsum
  go_wp2_with fail
  refine hQ _ _ hS7 ?_
  clear hQ Q' hS0 K6 L6 CB6 ZB6 GA e7
  generalize w6.heap.size = g6 at *
  try dsimp only
  try simp only [Act.put, List.setIfInBounds_toArray, List.set_cons_succ, List.set_cons_zero]
  have hS0 := hS7
  clear hS7
  refine held_take 7 (v := ?tv4) rfl (by kernel_rfl) (by kernel_rfl) (by kernel_rfl) (fun _ _ _ h => h) (.inl ⟨rfl, ?ty4⟩) hS0 ?tr4
  case ty4 => (intro _ _; go_simp; try with_reducible rfl)
  case tr4 =>
  simp only [Act.put, List.setIfInBounds_toArray, List.set_cons_succ, List.set_cons_zero]
  refine held_take 8 (v := ?tv5) rfl (by kernel_rfl) (by kernel_rfl) (by kernel_rfl) (fun _ _ _ h => h) (.inl ⟨rfl, ?ty5⟩) hS0 ?tr5
  case ty5 => (intro _ _; go_simp; try with_reducible rfl)
  case tr5 =>
  simp only [Act.put, List.setIfInBounds_toArray, List.set_cons_succ, List.set_cons_zero]
  refine held_take 9 (v := ?tv6) rfl (by kernel_rfl) (by kernel_rfl) (by kernel_rfl) (fun _ _ _ h => h) (.inl ⟨rfl, ?ty6⟩) hS0 ?tr6
  case ty6 => (intro _ _; go_simp; try with_reducible rfl)
  case tr6 =>
  simp only [Act.put, List.setIfInBounds_toArray, List.set_cons_succ, List.set_cons_zero]
  refine held_take 10 (v := ?tv7) rfl (by kernel_rfl) (by kernel_rfl) (by kernel_rfl) (fun _ _ _ h => h) (.inl ⟨rfl, ?ty7⟩) hS0 ?tr7
  case ty7 => (intro _ _; go_simp; try with_reducible rfl)
  case tr7 =>
  simp only [Act.put, List.setIfInBounds_toArray, List.set_cons_succ, List.set_cons_zero]
  refine held_take 11 (v := ?tv8) rfl (by kernel_rfl) (by kernel_rfl) (by kernel_rfl) (fun _ _ _ h => h) (.inl ⟨rfl, ?ty8⟩) hS0 ?tr8
  case ty8 => (intro _ _; go_simp; try with_reducible rfl)
  case tr8 =>
  simp only [Act.put, List.setIfInBounds_toArray, List.set_cons_succ, List.set_cons_zero]
  refine wpAnyH_done (by kernel_rfl) ?_ _
  have K8 := hid (((HCC.out w7).1 hS0).blk K3.out (by simp))
  have Z8 := hid (((HCC.out w7).1 hS0).blk Z3.out (by simp))
  have E8 := hid ((HCC.out w7).1 hS0).base
  clear hS0 hCx HCC hCA K3 Z3 L3 E3
  go_wp2_with fail
  refine hsum2.out.mono ?_
  rintro e w9 ⟨rfl, e9⟩
  have Z9 := hid (Z8.out.ext e9)
  have E9 := hid (E8.out.ext e9)
  clear e9 Z8 E8
  go_wp2_with (refine wpl_storew rfl _ _ _ rfl rfl rfl Z9.out agg_key (by simp) HDV.out odl ?_)
  intro wH bH uH
  go_wp2
  exact ret_row2 rfl rfl bH agg_key HDV.out rfl ⟨rfl, uH.ext E9.out (by omega)⟩
end

section
open Go Go.RowKit

theorem exec_cmpA {P : Program} {o : Oper} {a : Act} {op : BinOp} {t u : TypeId} {x y : Operand} {xs ys : Array Value} {b : Value} (ho : o.op = .binOp op t x y u) (hx : a.eval x = .agg xs) (hy : a.eval y = .agg ys)
    (hg : P.eqGuardType P.depth t = false) (hr : ∀ w, (binOp op t (.agg xs) (.agg ys)).run P w = .ok b w) (w : World) : (execOp a.eval o).run P w = .ok (.value b) w := by
  unfold execOp
  simp only [ho, hx, hy, Sem.run_bind, run_eqGuard_agg w op t x y xs ys hg, Result.andThen_ok, hr, Sem.run_pure]
theorem guard_keyA : Try.prog.eqGuardType Try.prog.depth 23 = false := by kernel_rfl
theorem guard_id : Try.prog.eqGuardType Try.prog.depth 29 = false := by kernel_rfl

def zerosL : List UInt8 := List.replicate 32 0
theorem zerosL_map : zerosL.map u8v = List.replicate 32 (.int .u8 0) := by simp [zerosL, u8v]
def derS (k s : List UInt8) (b : Bool) (ep : Int) : List UInt8 := if b = false then zerosL else if ep < 0 ∨ 4294967295 < ep then zerosL else deriveL k s ep.toNat
def derE (b : Bool) (ep : Int) : Int := if b = false then 6 else if ep < 0 ∨ 4294967295 < ep then 4 else 0
theorem derV_eq (k s : List UInt8) (b : Bool) (ep : Int) : deriveV k s b ep = .tuple #[.agg ((derS k s b ep).map u8v).toArray, .int .i64 (derE b ep)] := by
  unfold deriveV derS derE zeros
  split
  · rw [zerosL_map]
  · split
    · rw [zerosL_map]
    · rfl
theorem derS_length (k s : List UInt8) (b : Bool) (ep : Int) : (derS k s b ep).length = 32 := by
  unfold derS
  split
  · simp [zerosL]
  · split
    · simp [zerosL]
    · exact sumL_length _ _

set_option maxRecDepth 100000 in
set_option maxHeartbeats 2000000 in
theorem derive_c (k : List UInt8) (s : ByteArray) (ep : Int) (w : World) (hk : k.length = 32) (hn : s.size ≤ 140737488355328) :
    Calls Try.prog 10 #[.agg (k.map u8v).toArray, .string s, .int .i64 ep] w fun e w' => e = .returned (deriveV k s.data.toList (isNameL s.data.toList) ep) ∧ Ext w w' := by
  have hnm := hid (fun w => isName_c s w hn)
  cases hb : isNameL s.data.toList with
  | false =>
    rw [hb] at hnm
    rw [show deriveV k s.data.toList false ep = .tuple #[.agg (List.replicate 32 (.int .u8 0)).toArray, .int .i64 6] from rfl]
    clear hb hk
    go_enter Try.func10, Try.ntmps10
    go_wp2_with fail
    generalize hwA : World.alloc (World.alloc w _) _ = wA
    have zA : Blk wA (w.heap.size + 1) (List.replicate 32 (.int .u8 0)) 23 := by rw [← hwA]; exact Blk.mk_alloc (by simp) rfl
    have eA : Ext w wA := by rw [← hwA]; exact ((Ext.refl w).alloc _).alloc _
    clear hwA
    refine (hnm.out wA).mono ?_
    rintro e w1 ⟨rfl, rfl⟩
    have ZA := hid zA
    have EA := hid eA
    clear zA eA hnm
    go_wp2_with (first | (refine wpl_storew rfl _ (.tmp 6) _ rfl rfl rfl ZA.out agg_key (by simp) (xs := List.replicate 32 (.int .u8 0)) (by simp) (one_zeros 32) ?_))
    intro w4 b4 u4
    have b5 : Blk w4 (w.heap.size + 1) (List.replicate 32 (.int .u8 0)) 23 := b4
    go_wp2
    exact ret_row2 rfl rfl b5 agg_key (by simp) rfl ⟨rfl, u4.ext EA.out (by omega)⟩
  | true =>
    by_cases hr : ep < 0 ∨ 4294967295 < ep
    · rw [hb] at hnm
      rw [show deriveV k s.data.toList true ep = .tuple #[.agg (List.replicate 32 (.int .u8 0)).toArray, .int .i64 4] by unfold deriveV zeros; rw [if_neg (by simp), if_pos hr]]
      clear hb hk
      go_enter Try.func10, Try.ntmps10
      go_wp2_with fail
      generalize hwA : World.alloc (World.alloc w _) _ = wA
      have zA : Blk wA (w.heap.size + 1) (List.replicate 32 (.int .u8 0)) 23 := by rw [← hwA]; exact Blk.mk_alloc (by simp) rfl
      have eA : Ext w wA := by rw [← hwA]; exact ((Ext.refl w).alloc _).alloc _
      clear hwA
      refine (hnm.out wA).mono ?_
      rintro e w1 ⟨rfl, rfl⟩
      have ZA := hid zA
      have EA := hid eA
      clear zA eA hnm
      by_cases h0 : ep < 0
      · have g1 : decide (ep < 0) = true := decide_eq_true h0
        clear hr
        go_wp2_with (first | (refine wpl_storew rfl _ (.tmp 6) _ rfl rfl rfl ZA.out agg_key (by simp) (xs := List.replicate 32 (.int .u8 0)) (by simp) (one_zeros 32) ?_))
        intro w4 b4 u4
        have b5 : Blk w4 (w.heap.size + 1) (List.replicate 32 (.int .u8 0)) 23 := b4
        go_wp2
        exact ret_row2 rfl rfl b5 agg_key (by simp) rfl ⟨rfl, u4.ext EA.out (by omega)⟩
      · have g1 : decide (ep < 0) = false := decide_eq_false h0
        have g2 : decide (ep > 4294967295) = true := decide_eq_true (by omega)
        have g3 : decide (4294967295 < ep) = true := decide_eq_true (by omega)
        clear hr
        go_wp2_with (first | (refine wpl_storew rfl _ (.tmp 6) _ rfl rfl rfl ZA.out agg_key (by simp) (xs := List.replicate 32 (.int .u8 0)) (by simp) (one_zeros 32) ?_))
        intro w4 b4 u4
        have b5 : Blk w4 (w.heap.size + 1) (List.replicate 32 (.int .u8 0)) 23 := b4
        go_wp2
        exact ret_row2 rfl rfl b5 agg_key (by simp) rfl ⟨rfl, u4.ext EA.out (by omega)⟩
    · obtain ⟨N, rfl⟩ : ∃ N : Nat, ep = (N : Int) := ⟨ep.toNat, by omega⟩
      rw [show deriveV k s.data.toList true (N : Int) = .tuple #[.agg ((deriveL k s.data.toList N).map u8v).toArray, .int .i64 0] by unfold deriveV; rw [if_neg (by simp), if_neg hr]; rfl]
      have h32 : s.size ≤ 32 := by
        have := hb
        unfold isNameL at this
        simp only [Bool.and_eq_true, decide_eq_true_eq] at this
        have hl : s.data.toList.length = s.size := by rw [Array.length_toList]; rfl
        omega
      exact derive_ok k s N w hk hb h32 (by omega)

set_option maxRecDepth 100000 in
set_option maxHeartbeats 2000000 in
theorem keysAreDerived_c (k : List UInt8) (s : ByteArray) (ep : Int) (w : World) (hk : k.length = 32) (hn : s.size ≤ 140737488355328) :
    Calls Try.prog 3 #[.agg (k.map u8v).toArray, .string s, .int .i64 ep] w fun e w' => e = .returned (.bool true) ∧ Ext w w' := by
  have hd := hid (fun w' => derive_c k s ep w' hk hn)
  have h32 : isNameL s.data.toList = true → s.size ≤ 32 := by
    intro this
    unfold isNameL at this
    simp only [Bool.and_eq_true, decide_eq_true_eq] at this
    have hl : s.data.toList.length = s.size := by rw [Array.length_toList]; rfl
    omega
  have hrd := hid (fun w' => rderive_c k s ep (isNameL s.data.toList) w' hk (fun w => risName_c s w (by omega)) h32)
  rw [derV_eq] at hd hrd
  have hSl := derS_length k s.data.toList (isNameL s.data.toList) ep
  have hno := hid (fun w' => nameOf_c k w' hk)
  have hrno := hid (fun w' => rnameOf_c k w' hk)
  have hnl := nameL_length k
  generalize derS k s.data.toList (isNameL s.data.toList) ep = S at *
  generalize derE (isNameL s.data.toList) ep = E at *
  generalize nameL k = nl at *
  have HS := hid (show (S.map u8v).length = 32 by rw [List.length_map, hSl])
  have HK := hid (show (k.map u8v).length = 32 by rw [List.length_map, hk])
  have os := one_u8 S
  have HSE := hid (fun w => eq_self Try.underlying23 S hSl w)
  have HNE := hid (fun w => eq_self Try.underlying29 nl hnl w)
  have kE : (E == E) = true := by simp
  clear hSl hnl hk h32
  go_enter Try.func3, Try.ntmps3
  go_upto_region 1 with (fail)
  generalize hwA : World.alloc w _ = wA
  have kA : Blk wA w.heap.size (k.map u8v) 23 := by rw [← hwA]; exact Blk.mk_alloc rfl rfl
  have eA : Ext w wA := by rw [← hwA]; exact (Ext.refl w).alloc _
  clear hwA
  have KA := hid kA
  have EA := hid eA
  clear kA eA
  go_wp2_with fail
  refine (landed_c wA).mono ?_
  rintro e wB ⟨rfl, eB⟩
  have KB := hid (KA.out.ext eB)
  have EB := hid (EA.out.ext eB)
  clear eB KA EA
  go_wp2_with (first | (refine wpl_loadw rfl 23 (.tmp 3) rfl rfl KB.out agg_key HK.out ?_))
  refine (hd.out _).mono ?_
  rintro e wC ⟨rfl, eC⟩
  have KC := hid (KB.out.ext eC)
  have EC := hid (EB.out.ext eC)
  clear eC KB EB
  go_wp2_with (first | (refine wpl_storew rfl _ (.tmp 7) _ rfl rfl rfl (Blk.mk_alloc (vs := List.replicate 32 (.int .u8 0)) rfl rfl) agg_key (by simp) HS.out os ?_))
  intro wD bD uD
  have eD : Ext wC wD := uD.ext ((Ext.refl wC).alloc _) (Nat.le_refl _)
  have AD := hid bD
  have KD := hid (KC.out.ext eD)
  have ED := hid (EC.out.ext eD)
  clear eD KC EC
  clear uD bD hd
  generalize wC.heap.size = g9 at *
  go_wp2_with (first | (refine wpl_loadw rfl 23 (.tmp 3) rfl rfl KD.out agg_key HK.out ?_))
  refine (hrd.out _).mono ?_
  rintro e wE ⟨rfl, eE⟩
  have KE := hid (KD.out.ext eE)
  have AE := hid (AD.out.ext eE)
  have EE := hid (ED.out.ext eE)
  clear eE KD AD ED
  go_wp2_with (first | (refine wpl_storew rfl _ (.tmp 9) _ rfl rfl rfl (Blk.mk_alloc (vs := List.replicate 32 (.int .u8 0)) rfl rfl) agg_key (by simp) HS.out os ?_))
  intro wF bF uF
  have eF : Ext wE wF := uF.ext ((Ext.refl wE).alloc _) (Nat.le_refl _)
  have BF := hid bF
  have KF := hid (KE.out.ext eF)
  have AF := hid (AE.out.ext eF)
  have EF := hid (EE.out.ext eF)
  clear eF KE AE EE
  clear uF bF hrd
  generalize wE.heap.size = g10 at *
  go_wp2_with fail
  obtain ⟨C, hC⟩ : ∃ C : World → Prop, C = Cls w wF [w.heap.size, g9, g10] [] := ⟨_, rfl⟩
  have hC0 : ∀ w', C w' ↔ Cls w wF [w.heap.size, g9, g10] [] w' := fun w' => by rw [hC]
  clear hC
  have HCC := hid hC0
  clear hC0
  have hCx : ∀ w w', C w → Ext w w' → C w' := fun w w' h1 h2 => (HCC.out w').2 (((HCC.out w).1 h1).ext h2)
  have hCA : C wF := (HCC.out _).2 (Cls.no_room EF.out (Kept.three KF.out.lt AF.out.lt BF.out.lt))
  refine wp_region_held_drew (S := C) (by kernel_rfl) (hCx _ _ hCA (Ext.refl _).drew) (fun hS0 => ?_)
  refine held_take 0 (v := _) rfl (by kernel_rfl) (by kernel_rfl) (by kernel_rfl) (fun _ _ _ h => h) (yieldsI_loadw rfl 23 _ rfl rfl (fun w1 h => ((HCC.out w1).1 h).blk AF.out (by simp)) agg_key HS.out) hS0 ?_
  simp only [Act.put, List.setIfInBounds_toArray, List.set_cons_succ, List.set_cons_zero]
  refine held_take 1 (v := _) rfl (by kernel_rfl) (by kernel_rfl) (by kernel_rfl) (fun _ _ _ h => h) (yieldsI_loadw rfl 23 _ rfl rfl (fun w1 h => ((HCC.out w1).1 h).blk BF.out (by simp)) agg_key HS.out) hS0 ?_
  simp only [Act.put, List.setIfInBounds_toArray, List.set_cons_succ, List.set_cons_zero]
  refine held_take 2 (v := _) rfl (by kernel_rfl) (by kernel_rfl) (by kernel_rfl) (fun _ _ _ h => h) (yieldsI_run rfl (fun w1 _ => exec_cmpA rfl rfl rfl guard_keyA HSE.out w1)) hS0 ?_
  simp only [Act.put, List.setIfInBounds_toArray, List.set_cons_succ, List.set_cons_zero]
  refine held_take 3 (v := ?tv1) rfl (by kernel_rfl) (by kernel_rfl) (by kernel_rfl) (fun _ _ _ h => h) (.inl ⟨rfl, ?ty1⟩) hS0 ?tr1
  case ty1 => (intro _ _; go_simp; try with_reducible rfl)
  case tr1 =>
  simp only [Act.put, List.setIfInBounds_toArray, List.set_cons_succ, List.set_cons_zero]
  refine held_take 4 (v := ?tv2) rfl (by kernel_rfl) (by kernel_rfl) (by kernel_rfl) (fun _ _ _ h => h) (.inl ⟨rfl, ?ty2⟩) hS0 ?tr2
  case ty2 => (intro _ _; go_simp; try with_reducible rfl)
  case tr2 =>
  simp only [Act.put, List.setIfInBounds_toArray, List.set_cons_succ, List.set_cons_zero]
  refine held_take 5 (v := ?tv3) rfl (by kernel_rfl) (by kernel_rfl) (by kernel_rfl) (fun _ _ _ h => h) (.inl ⟨rfl, ?ty3⟩) hS0 ?tr3
  case ty3 => (intro _ _; go_simp; try with_reducible rfl)
  case tr3 =>
  simp only [Act.put, List.setIfInBounds_toArray, List.set_cons_succ, List.set_cons_zero]
  refine held_take 6 (v := ?tv4) rfl (by kernel_rfl) (by kernel_rfl) (by kernel_rfl) (fun _ _ _ h => h) (.inl ⟨rfl, ?ty4⟩) hS0 ?tr4
  case ty4 => (intro _ _; go_simp; try with_reducible rfl)
  case tr4 =>
  simp only [Act.put, List.setIfInBounds_toArray, List.set_cons_succ, List.set_cons_zero]
  refine held_take 7 (v := ?tv5) rfl (by kernel_rfl) (by kernel_rfl) (by kernel_rfl) (fun _ _ _ h => h) (.inl ⟨rfl, ?ty5⟩) hS0 ?tr5
  case ty5 => (intro _ _; go_simp; try with_reducible rfl)
  case tr5 =>
  simp only [Act.put, List.setIfInBounds_toArray, List.set_cons_succ, List.set_cons_zero]
  refine held_take 8 (v := ?tv6) rfl (by kernel_rfl) (by kernel_rfl) (by kernel_rfl) (fun _ _ _ h => h) (.inl ⟨rfl, ?ty6⟩) hS0 ?tr6
  case ty6 => (intro _ _; go_simp; try with_reducible rfl)
  case tr6 =>
  simp only [Act.put, List.setIfInBounds_toArray, List.set_cons_succ, List.set_cons_zero]
  refine held_take 9 (v := _) rfl (by kernel_rfl) (by kernel_rfl) (by kernel_rfl) (fun _ _ _ h => h) (yieldsI_loadw rfl 23 _ rfl rfl (fun w1 h => ((HCC.out w1).1 h).blk KF.out (by simp)) agg_key HK.out) hS0 ?_
  simp only [Act.put, List.setIfInBounds_toArray, List.set_cons_succ, List.set_cons_zero]
  refine held_take 11 (v := _) rfl (by kernel_rfl) (by kernel_rfl) (by kernel_rfl) (fun _ _ _ h => h) (yieldsI_loadw rfl 23 _ rfl rfl (fun w1 h => ((HCC.out w1).1 h).blk KF.out (by simp)) agg_key HK.out) hS0 ?_
  simp only [Act.put, List.setIfInBounds_toArray, List.set_cons_succ, List.set_cons_zero]
  generalize wF.drew = wX at *
  refine held_one (i := 10) (by kernel_rfl) rfl ?_
  intro Q' hQ
  go_wp2_with fail
  refine (hno.out _).mono ?_
  rintro e wY ⟨rfl, eq9⟩
  have hS9 := hCx _ _ hS0 eq9
  go_wp2_with fail
  refine hQ _ _ hS9 ?_
  clear hQ Q' hS0 eq9
  have hS0 := hS9
  clear hS9
  try dsimp only
  try simp only [Act.put, List.setIfInBounds_toArray, List.set_cons_succ, List.set_cons_zero]
  refine held_one (i := 12) (by kernel_rfl) rfl ?_
  intro Q' hQ
  go_wp2_with fail
  refine (hrno.out _).mono ?_
  rintro e wZ ⟨rfl, eq9⟩
  have hS9 := hCx _ _ hS0 eq9
  go_wp2_with fail
  refine hQ _ _ hS9 ?_
  clear hQ Q' hS0 eq9
  have hS0 := hS9
  clear hS9
  try dsimp only
  try simp only [Act.put, List.setIfInBounds_toArray, List.set_cons_succ, List.set_cons_zero]
  refine held_take 13 (v := _) rfl (by kernel_rfl) (by kernel_rfl) (by kernel_rfl) (fun _ _ _ h => h) (yieldsI_run rfl (fun w1 _ => exec_cmpA rfl rfl rfl guard_id HNE.out w1)) hS0 ?_
  simp only [Act.put, List.setIfInBounds_toArray, List.set_cons_succ, List.set_cons_zero]
  refine held_take 14 (v := ?tv7) rfl (by kernel_rfl) (by kernel_rfl) (by kernel_rfl) (fun _ _ _ h => h) (.inl ⟨rfl, ?ty7⟩) hS0 ?tr7
  case ty7 => (intro _ _; go_simp; try with_reducible rfl)
  case tr7 =>
  simp only [Act.put, List.setIfInBounds_toArray, List.set_cons_succ, List.set_cons_zero]
  refine held_take 15 (v := ?tv8) rfl (by kernel_rfl) (by kernel_rfl) (by kernel_rfl) (fun _ _ _ h => h) (.inl ⟨rfl, ?ty8⟩) hS0 ?tr8
  case ty8 => (intro _ _; go_simp; try with_reducible rfl)
  case tr8 =>
  simp only [Act.put, List.setIfInBounds_toArray, List.set_cons_succ, List.set_cons_zero]
  refine wpAnyH_done (by kernel_rfl) ?_ _
  have EZ := hid ((HCC.out wZ).1 hS0).base
  clear hS0 hCx HCC
  go_wp2_with fail
  go_ret
  exact ⟨rfl, EZ.out⟩
end

section
open Go Go.RowKit

theorem guard_sumU : Try.prog.eqGuardType Try.prog.depth 40 = false := by kernel_rfl
set_option maxRecDepth 100000 in
set_option maxHeartbeats 2000000 in
theorem asksCheck_c (a : AskR) (r : RuleR) (w : World) (ha : a.Ok w) (hr : r.Ok w) :
    Calls Try.prog 7 #[.agg a.v.toArray, .agg r.v.toArray] w fun e w' => e = .returned (.bool true) ∧ Ext w w' := by
  have hrc := hid (fun w' h => rcheckAsk_c a w' h)
  have has := hid (fun w' h => askSum_c a w' h)
  have hck := hid (fun w' h => checkAsk_c a w' h)
  have hrs := hid (fun w' h h0 => raskSum_c a w' h h0)
  have hpm := hid (fun w' h1 h2 => pMeets_c r a w' h1 h2)
  have hre := hid (fun w' h => ruleError_c r w' h)
  have hrm := hid (fun (h1 : askE a = 0) (h2 : ruleE r = 0) w' k1 k2 => (askE_time h1).elim fun T hT => rmeets_c r a T w' k1 k2 hT.1 hT.2 (ruleE_labels h2) (ruleE_hours h2))
  have HRO := hid hr
  have HAO := hid ha
  have HLEN := hid (AskR.len ha)
  have HRL := hid (RuleR.len r)
  unfold askSumV at has
  unfold pMeetsV at hpm
  clear hr ha
  have HSL := hid (show ((sumL 5 (askT a)).map u8v).length = 32 by rw [List.length_map, sumL_length])
  have oS := one_u8 (sumL 5 (askT a))
  have HNE := hid (fun w => show (binOp .neq 40 (.agg ((sumL 5 (askT a)).map u8v).toArray) (.agg ((sumL 5 (askT a)).map u8v).toArray)).run Try.prog w = .ok (.bool false) w by rw [neq_arr Try.underlying40 _ _ (sumL_length _ _) (sumL_length _ _) w]; simp)
  generalize (sumL 5 (askT a)).map u8v = S at *
  generalize hEE : askE a = E at *
  generalize hRR : ruleE r = RE at *
  clear hEE hRR
  generalize meetsB r a = M at *
  go_enter Try.func7, Try.ntmps7
  go_upto_region 1 with (fail)
  generalize hwA : World.alloc (World.alloc w _) _ = wA
  have gA : Blk wA w.heap.size a.v 42 := by rw [← hwA]; exact (Blk.mk_alloc rfl rfl).alloc _
  have bA : Blk wA (w.heap.size + 1) r.v 50 := by rw [← hwA]; exact Blk.mk_alloc (by simp) rfl
  have eA : Ext w wA := by rw [← hwA]; exact ((Ext.refl w).alloc _).alloc _
  have BA := hid bA
  have GA := hid gA
  have EA := hid eA
  have RA := hid (HRO.out.ext eA)
  have QA := hid (HAO.out.ext eA)
  clear hwA bA gA eA HRO HAO
  go_wp2_with fail
  refine (landed_c wA).mono ?_
  rintro e wB ⟨rfl, eB⟩
  have BB := hid (BA.out.ext eB)
  have GB := hid (GA.out.ext eB)
  have EB := hid (EA.out.ext eB)
  have RB := hid (RA.out.ext eB)
  have QB := hid (QA.out.ext eB)
  clear eB BA GA EA RA QA
  go_wp2_with (refine wpl_loadw rfl 42 (.tmp 2) rfl rfl GB.out agg_ask HLEN.out ?_)
  refine (hrc.out wB QB.out).mono ?_
  rintro e wC ⟨rfl, eC⟩
  have BC := hid (BB.out.ext eC)
  have GC := hid (GB.out.ext eC)
  have EC := hid (EB.out.ext eC)
  have RC := hid (RB.out.ext eC)
  have QC := hid (QB.out.ext eC)
  clear eC BB GB EB RB QB
  clear hrc
  go_wp2_with (refine wpl_loadw rfl 42 (.tmp 2) rfl rfl GC.out agg_ask HLEN.out ?_)
  refine (has.out wC QC.out).mono ?_
  rintro e wD ⟨rfl, eD⟩
  have BD := hid (BC.out.ext eD)
  have GD := hid (GC.out.ext eD)
  have ED := hid (EC.out.ext eD)
  have RD := hid (RC.out.ext eD)
  have QD := hid (QC.out.ext eD)
  clear eD BC GC EC RC QC
  clear has
  by_cases hE0 : E = 0
  · subst hE0
    rw [if_pos rfl]
    go_wp2_with (refine wpl_storew rfl _ (.tmp 6) _ rfl rfl rfl (Blk.mk_alloc (vs := List.replicate 32 (.int .u8 0)) rfl rfl) agg_apisum (by simp) HSL.out oS ?_)
    intro wF bF uF
    have eF : Ext wD wF := uF.ext ((Ext.refl wD).alloc _) (Nat.le_refl _)
    have SF := hid bF
    clear uF bF
    have BF := hid (BD.out.ext eF)
    have GF := hid (GD.out.ext eF)
    have EF := hid (ED.out.ext eF)
    have RF := hid (RD.out.ext eF)
    have QF := hid (QD.out.ext eF)
    clear eF BD GD ED RD QD
    generalize wD.heap.size = gs at *
    go_wp2_with fail
    obtain ⟨C, hC⟩ : ∃ C : World → Prop, C = fun w' => Ext wF w' := ⟨_, rfl⟩
    have hC0 : ∀ w', C w' ↔ Ext wF w' := fun w' => by rw [hC]
    clear hC
    have HCC := hid hC0
    clear hC0
    have hCx : ∀ w w', C w → Ext w w' → C w' := fun w w' h1 h2 => (HCC.out w').2 (((HCC.out w).1 h1).ext h2)
    have hCA : C wF := (HCC.out _).2 (Ext.refl wF)
    have hck2 := hid (fun w1 (h : C w1) => hck.out w1 (QF.out.ext ((HCC.out w1).1 h)))
    have hrs2 := hid (fun w1 (h : C w1) => hrs.out w1 (QF.out.ext ((HCC.out w1).1 h)) trivial)
    clear hck hrs
    refine wp_region_held_drew (S := C) (by kernel_rfl) (hCx _ _ hCA (Ext.refl _).drew) (fun hS0 => ?_)
    refine held_take 0 (v := _) rfl (by kernel_rfl) (by kernel_rfl) (by kernel_rfl) (fun _ _ _ h => h) (yieldsI_loadw rfl 42 _ rfl rfl (fun w1 h => GF.out.ext ((HCC.out w1).1 h)) agg_ask HLEN.out) hS0 ?_
    simp only [Act.put, List.setIfInBounds_toArray, List.set_cons_succ, List.set_cons_zero]
    generalize wF.drew = wX at *
    refine held_take 2 (v := ?tv1) rfl (by kernel_rfl) (by kernel_rfl) (by kernel_rfl) (fun _ _ _ h => h) (.inl ⟨rfl, ?ty1⟩) hS0 ?tr1
    case ty1 => (intro _ _; go_simp; try with_reducible rfl)
    case tr1 =>
    simp only [Act.put, List.setIfInBounds_toArray, List.set_cons_succ, List.set_cons_zero]
    refine held_one (i := 1) (by kernel_rfl) rfl ?_
    intro Q' hQ
    go_wp2_with fail
    refine (hck2.out wX hS0).mono ?_
    rintro e wY ⟨rfl, eq9⟩
    have hS9 := hCx _ _ hS0 eq9
    go_wp2_with fail
    refine hQ _ _ hS9 ?_
    clear hQ Q' hS0 eq9
    have hS0 := hS9
    clear hS9
    try dsimp only
    try simp only [Act.put, List.setIfInBounds_toArray, List.set_cons_succ, List.set_cons_zero]
    refine held_take 3 (v := ?tv2) rfl (by kernel_rfl) (by kernel_rfl) (by kernel_rfl) (fun _ _ _ h => h) (.inl ⟨rfl, ?ty2⟩) hS0 ?tr2
    case ty2 => (intro _ _; go_simp; try with_reducible rfl)
    case tr2 =>
    simp only [Act.put, List.setIfInBounds_toArray, List.set_cons_succ, List.set_cons_zero]
    refine held_take 4 (v := ?tv3) rfl (by kernel_rfl) (by kernel_rfl) (by kernel_rfl) (fun _ _ _ h => h) (.inl ⟨rfl, ?ty3⟩) hS0 ?tr3
    case ty3 => (intro _ _; go_simp; try with_reducible rfl)
    case tr3 =>
    simp only [Act.put, List.setIfInBounds_toArray, List.set_cons_succ, List.set_cons_zero]
    refine held_take 5 (v := ?tv4) rfl (by kernel_rfl) (by kernel_rfl) (by kernel_rfl) (fun _ _ _ h => h) (.inl ⟨rfl, ?ty4⟩) hS0 ?tr4
    case ty4 => (intro _ _; go_simp; try with_reducible rfl)
    case tr4 =>
    simp only [Act.put, List.setIfInBounds_toArray, List.set_cons_succ, List.set_cons_zero]
    refine held_take 6 (v := ?tv5) rfl (by kernel_rfl) (by kernel_rfl) (by kernel_rfl) (fun _ _ _ h => h) (.inl ⟨rfl, ?ty5⟩) hS0 ?tr5
    case ty5 => (intro _ _; go_simp; try with_reducible rfl)
    case tr5 =>
    simp only [Act.put, List.setIfInBounds_toArray, List.set_cons_succ, List.set_cons_zero]
    refine held_take 7 (v := ?tv6) rfl (by kernel_rfl) (by kernel_rfl) (by kernel_rfl) (fun _ _ _ h => h) (.inl ⟨rfl, ?ty6⟩) hS0 ?tr6
    case ty6 => (intro _ _; go_simp; try with_reducible rfl)
    case tr6 =>
    simp only [Act.put, List.setIfInBounds_toArray, List.set_cons_succ, List.set_cons_zero]
    refine held_take 8 (v := ?tv7) rfl (by kernel_rfl) (by kernel_rfl) (by kernel_rfl) (fun _ _ _ h => h) (.inl ⟨rfl, ?ty7⟩) hS0 ?tr7
    case ty7 => (intro _ _; go_simp; try with_reducible rfl)
    case tr7 =>
    simp only [Act.put, List.setIfInBounds_toArray, List.set_cons_succ, List.set_cons_zero]
    refine held_take 9 (v := ?tv8) rfl (by kernel_rfl) (by kernel_rfl) (by kernel_rfl) (fun _ _ _ h => h) (.inl ⟨rfl, ?ty8⟩) hS0 ?tr8
    case ty8 => (intro _ _; go_simp; try with_reducible rfl)
    case tr8 =>
    simp only [Act.put, List.setIfInBounds_toArray, List.set_cons_succ, List.set_cons_zero]
    refine held_take 10 (v := ?tv9) rfl (by kernel_rfl) (by kernel_rfl) (by kernel_rfl) (fun _ _ _ h => h) (.inl ⟨rfl, ?ty9⟩) hS0 ?tr9
    case ty9 => (intro _ _; go_simp; try with_reducible rfl)
    case tr9 =>
    simp only [Act.put, List.setIfInBounds_toArray, List.set_cons_succ, List.set_cons_zero]
    refine held_take 11 (v := ?tv10) rfl (by kernel_rfl) (by kernel_rfl) (by kernel_rfl) (fun _ _ _ h => h) (.inl ⟨rfl, ?ty10⟩) hS0 ?tr10
    case ty10 => (intro _ _; go_simp; try with_reducible rfl)
    case tr10 =>
    simp only [Act.put, List.setIfInBounds_toArray, List.set_cons_succ, List.set_cons_zero]
    refine held_take 12 (v := ?tv11) rfl (by kernel_rfl) (by kernel_rfl) (by kernel_rfl) (fun _ _ _ h => h) (.inl ⟨rfl, ?ty11⟩) hS0 ?tr11
    case ty11 => (intro _ _; go_simp; try with_reducible rfl)
    case tr11 =>
    simp only [Act.put, List.setIfInBounds_toArray, List.set_cons_succ, List.set_cons_zero]
    refine held_take 13 (v := _) rfl (by kernel_rfl) (by kernel_rfl) (by kernel_rfl) (fun _ _ _ h => h) (yieldsI_loadw rfl 40 _ rfl rfl (fun w1 h => SF.out.ext ((HCC.out w1).1 h)) agg_apisum HSL.out) hS0 ?_
    simp only [Act.put, List.setIfInBounds_toArray, List.set_cons_succ, List.set_cons_zero]
    refine held_take 14 (v := _) rfl (by kernel_rfl) (by kernel_rfl) (by kernel_rfl) (fun _ _ _ h => h) (yieldsI_loadw rfl 42 _ rfl rfl (fun w1 h => GF.out.ext ((HCC.out w1).1 h)) agg_ask HLEN.out) hS0 ?_
    simp only [Act.put, List.setIfInBounds_toArray, List.set_cons_succ, List.set_cons_zero]
    refine held_one (i := 15) (by kernel_rfl) rfl ?_
    intro Q' hQ
    go_wp2_with fail
    refine (hrs2.out wY hS0).mono ?_
    rintro e wZ ⟨rfl, eq9⟩
    have hS9 := hCx _ _ hS0 eq9
    go_wp2_with fail
    refine hQ _ _ hS9 ?_
    clear hQ Q' hS0 eq9
    have hS0 := hS9
    clear hS9
    try dsimp only
    try simp only [Act.put, List.setIfInBounds_toArray, List.set_cons_succ, List.set_cons_zero]
    refine held_take 16 (v := _) rfl (by kernel_rfl) (by kernel_rfl) (by kernel_rfl) (fun _ _ _ h => h) (yieldsI_run rfl (fun w1 _ => exec_cmpA rfl rfl rfl guard_sumU HNE.out w1)) hS0 ?_
    simp only [Act.put, List.setIfInBounds_toArray, List.set_cons_succ, List.set_cons_zero]
    refine held_take 17 (v := ?tv12) rfl (by kernel_rfl) (by kernel_rfl) (by kernel_rfl) (fun _ _ _ h => h) (.inl ⟨rfl, ?ty12⟩) hS0 ?tr12
    case ty12 => (intro _ _; go_simp; try with_reducible rfl)
    case tr12 =>
    simp only [Act.put, List.setIfInBounds_toArray, List.set_cons_succ, List.set_cons_zero]
    refine held_take 18 (v := ?tv13) rfl (by kernel_rfl) (by kernel_rfl) (by kernel_rfl) (fun _ _ _ h => h) (.inl ⟨rfl, ?ty13⟩) hS0 ?tr13
    case ty13 => (intro _ _; go_simp; try with_reducible rfl)
    case tr13 =>
    simp only [Act.put, List.setIfInBounds_toArray, List.set_cons_succ, List.set_cons_zero]
    refine held_take 19 (v := ?tv14) rfl (by kernel_rfl) (by kernel_rfl) (by kernel_rfl) (fun _ _ _ h => h) (.inl ⟨rfl, ?ty14⟩) hS0 ?tr14
    case ty14 => (intro _ _; go_simp; try with_reducible rfl)
    case tr14 =>
    simp only [Act.put, List.setIfInBounds_toArray, List.set_cons_succ, List.set_cons_zero]
    refine held_take 20 (v := ?tv15) rfl (by kernel_rfl) (by kernel_rfl) (by kernel_rfl) (fun _ _ _ h => h) (.inl ⟨rfl, ?ty15⟩) hS0 ?tr15
    case ty15 => (intro _ _; go_simp; try with_reducible rfl)
    case tr15 =>
    simp only [Act.put, List.setIfInBounds_toArray, List.set_cons_succ, List.set_cons_zero]
    refine held_take 21 (v := ?tv16) rfl (by kernel_rfl) (by kernel_rfl) (by kernel_rfl) (fun _ _ _ h => h) (.inl ⟨rfl, ?ty16⟩) hS0 ?tr16
    case ty16 => (intro _ _; go_simp; try with_reducible rfl)
    case tr16 =>
    simp only [Act.put, List.setIfInBounds_toArray, List.set_cons_succ, List.set_cons_zero]
    refine held_take 22 (v := ?tv17) rfl (by kernel_rfl) (by kernel_rfl) (by kernel_rfl) (fun _ _ _ h => h) (.inl ⟨rfl, ?ty17⟩) hS0 ?tr17
    case ty17 => (intro _ _; go_simp; try with_reducible rfl)
    case tr17 =>
    simp only [Act.put, List.setIfInBounds_toArray, List.set_cons_succ, List.set_cons_zero]
    refine held_take 23 (v := undef) rfl (by kernel_rfl) (by kernel_rfl) (by kernel_rfl) (fun _ _ _ h => h) (.inr ⟨rfl, rfl⟩) hS0 ?_
    simp only [Act.put, List.setIfInBounds_toArray, List.set_cons_succ, List.set_cons_zero]
    refine held_take 24 (v := undef) rfl (by kernel_rfl) (by kernel_rfl) (by kernel_rfl) (fun _ _ _ h => h) (.inr ⟨rfl, rfl⟩) hS0 ?_
    simp only [Act.put, List.setIfInBounds_toArray, List.set_cons_succ, List.set_cons_zero]
    refine held_take 25 (v := undef) rfl (by kernel_rfl) (by kernel_rfl) (by kernel_rfl) (fun _ _ _ h => h) (.inr ⟨rfl, rfl⟩) hS0 ?_
    simp only [Act.put, List.setIfInBounds_toArray, List.set_cons_succ, List.set_cons_zero]
    refine held_take 26 (v := ?tv18) rfl (by kernel_rfl) (by kernel_rfl) (by kernel_rfl) (fun _ _ _ h => h) (.inl ⟨rfl, ?ty18⟩) hS0 ?tr18
    case ty18 => (intro _ _; go_simp; try with_reducible rfl)
    case tr18 =>
    simp only [Act.put, List.setIfInBounds_toArray, List.set_cons_succ, List.set_cons_zero]
    refine held_take 27 (v := ?tv19) rfl (by kernel_rfl) (by kernel_rfl) (by kernel_rfl) (fun _ _ _ h => h) (.inl ⟨rfl, ?ty19⟩) hS0 ?tr19
    case ty19 => (intro _ _; go_simp; try with_reducible rfl)
    case tr19 =>
    simp only [Act.put, List.setIfInBounds_toArray, List.set_cons_succ, List.set_cons_zero]
    refine wpAnyH_done (by kernel_rfl) ?_ _
    have eZ := (HCC.out wZ).1 hS0
    clear hS0 hCx hCA HCC hck2 hrs2
    have BZ := hid (BF.out.ext eZ)
    have GZ := hid (GF.out.ext eZ)
    have EZ := hid (EF.out.ext eZ)
    have RZ := hid (RF.out.ext eZ)
    have QZ := hid (QF.out.ext eZ)
    clear eZ BF GF EF RF QF
    clear SF
    go_wp2_with (first | (refine wpl_loadw rfl 42 (.tmp 2) rfl rfl GZ.out agg_ask HLEN.out ?_) | (refine wpl_loadw rfl 50 (.tmp 3) rfl rfl BZ.out agg_rule HRL.out ?_))
    refine (hpm.out wZ RZ.out QZ.out).mono ?_
    rintro e wI ⟨rfl, eI⟩
    have BI := hid (BZ.out.ext eI)
    have GI := hid (GZ.out.ext eI)
    have EI := hid (EZ.out.ext eI)
    have RI := hid (RZ.out.ext eI)
    have QI := hid (QZ.out.ext eI)
    clear eI BZ GZ EZ RZ QZ
    by_cases hR0 : RE = 0
    · subst hR0
      rw [if_pos rfl, if_pos trivial]
      go_wp2_with (refine wpl_loadw rfl 50 (.tmp 3) rfl rfl BI.out agg_rule HRL.out ?_)
      refine (hre.out wI RI.out).mono ?_
      rintro e wJ ⟨rfl, eJ⟩
      have BJ := hid (BI.out.ext eJ)
      have GJ := hid (GI.out.ext eJ)
      have EJ := hid (EI.out.ext eJ)
      have RJ := hid (RI.out.ext eJ)
      have QJ := hid (QI.out.ext eJ)
      clear eJ BI GI EI RI QI
      have hrm2 := hid (fun w' => hrm.out trivial trivial w')
      clear hrm
      go_wp2_with (first | (refine wpg_loadw rfl 42 (.tmp 2) rfl rfl GJ.out agg_ask HLEN.out ?_) | (refine wpg_loadw rfl 50 (.tmp 3) rfl rfl BJ.out agg_rule HRL.out ?_))
      refine (hrm2.out wJ RJ.out QJ.out).mono ?_
      rintro e wK ⟨rfl, eK⟩
      have EK := hid (EJ.out.ext eK)
      clear eK
      go_wp2_with fail
      go_ret
      exact ⟨by first | rfl | simp, EK.out⟩
    · rw [if_neg hR0]
      have q1 : (RE != 0) = true := by simp [hR0]
      have q2 : decide (RE = 0) = false := decide_eq_false hR0
      clear hrm hR0
      go_wp2_with (refine wpl_loadw rfl 50 (.tmp 3) rfl rfl BI.out agg_rule HRL.out ?_)
      refine (hre.out wI RI.out).mono ?_
      rintro e wJ ⟨rfl, eJ⟩
      have EJ := hid (EI.out.ext eJ)
      clear eJ
      go_wp2_with fail
      go_ret
      exact ⟨by first | rfl | simp, EJ.out⟩
  · rw [if_neg hE0]
    obtain ⟨z, hz⟩ : ∃ z : List UInt8, z = List.replicate 32 0 := ⟨_, rfl⟩
    have hzz : zeros 32 = .agg (z.map u8v).toArray := by rw [hz]; rfl
    rw [hzz]
    have HZL := hid (show (z.map u8v).length = 32 by rw [hz]; rfl)
    have oZ := one_u8 z
    have HNZ := hid (fun w' => show (binOp .neq 40 (.agg (z.map u8v).toArray) (.agg (List.replicate 32 (Value.int .u8 0)).toArray)).run Try.prog w' = .ok (.bool false) w' from by
      have h := neq_arr Try.underlying40 (List.replicate 32 0) (List.replicate 32 0) rfl rfl w'
      rw [hz]; exact h)
    have q0 : (E != 0) = true := by simp [hE0]
    have q3 : decide (E = 0) = false := decide_eq_false hE0
    have q4 : (E == 0) = false := by simp [hE0]
    have HE0 := hid hE0
    clear hz hzz hrs hrm HNE HSL oS hE0
    go_wp2_with (refine wpl_storew rfl _ (.tmp 6) _ rfl rfl rfl (Blk.mk_alloc (vs := List.replicate 32 (.int .u8 0)) rfl rfl) agg_apisum (by simp) HZL.out oZ ?_)
    intro wF bF uF
    have eF : Ext wD wF := uF.ext ((Ext.refl wD).alloc _) (Nat.le_refl _)
    have SF := hid bF
    clear uF bF
    have BF := hid (BD.out.ext eF)
    have GF := hid (GD.out.ext eF)
    have EF := hid (ED.out.ext eF)
    have RF := hid (RD.out.ext eF)
    have QF := hid (QD.out.ext eF)
    clear eF BD GD ED RD QD
    generalize wD.heap.size = gs at *
    go_wp2_with fail
    obtain ⟨C, hC⟩ : ∃ C : World → Prop, C = fun w' => Ext wF w' := ⟨_, rfl⟩
    have hC0 : ∀ w', C w' ↔ Ext wF w' := fun w' => by rw [hC]
    clear hC
    have HCC := hid hC0
    clear hC0
    have hCx : ∀ w w', C w → Ext w w' → C w' := fun w w' h1 h2 => (HCC.out w').2 (((HCC.out w).1 h1).ext h2)
    have hCA : C wF := (HCC.out _).2 (Ext.refl wF)
    have hck2 := hid (fun w1 (h : C w1) => hck.out w1 (QF.out.ext ((HCC.out w1).1 h)))
    clear hck
    refine wp_region_held_drew (S := C) (by kernel_rfl) (hCx _ _ hCA (Ext.refl _).drew) (fun hS0 => ?_)
    refine held_take 0 (v := _) rfl (by kernel_rfl) (by kernel_rfl) (by kernel_rfl) (fun _ _ _ h => h) (yieldsI_loadw rfl 42 _ rfl rfl (fun w1 h => GF.out.ext ((HCC.out w1).1 h)) agg_ask HLEN.out) hS0 ?_
    simp only [Act.put, List.setIfInBounds_toArray, List.set_cons_succ, List.set_cons_zero]
    generalize wF.drew = wX at *
    refine held_take 2 (v := ?tv20) rfl (by kernel_rfl) (by kernel_rfl) (by kernel_rfl) (fun _ _ _ h => h) (.inl ⟨rfl, ?ty20⟩) hS0 ?tr20
    case ty20 => (intro _ _; go_simp; try with_reducible rfl)
    case tr20 =>
    simp only [Act.put, List.setIfInBounds_toArray, List.set_cons_succ, List.set_cons_zero]
    refine held_one (i := 1) (by kernel_rfl) rfl ?_
    intro Q' hQ
    go_wp2_with fail
    refine (hck2.out wX hS0).mono ?_
    rintro e wY ⟨rfl, eq9⟩
    have hS9 := hCx _ _ hS0 eq9
    go_wp2_with fail
    refine hQ _ _ hS9 ?_
    clear hQ Q' hS0 eq9
    have hS0 := hS9
    clear hS9
    try dsimp only
    try simp only [Act.put, List.setIfInBounds_toArray, List.set_cons_succ, List.set_cons_zero]
    refine held_take 3 (v := ?tv21) rfl (by kernel_rfl) (by kernel_rfl) (by kernel_rfl) (fun _ _ _ h => h) (.inl ⟨rfl, ?ty21⟩) hS0 ?tr21
    case ty21 => (intro _ _; go_simp; try with_reducible rfl)
    case tr21 =>
    simp only [Act.put, List.setIfInBounds_toArray, List.set_cons_succ, List.set_cons_zero]
    refine held_take 4 (v := ?tv22) rfl (by kernel_rfl) (by kernel_rfl) (by kernel_rfl) (fun _ _ _ h => h) (.inl ⟨rfl, ?ty22⟩) hS0 ?tr22
    case ty22 => (intro _ _; go_simp; try with_reducible rfl)
    case tr22 =>
    simp only [Act.put, List.setIfInBounds_toArray, List.set_cons_succ, List.set_cons_zero]
    refine held_take 5 (v := ?tv23) rfl (by kernel_rfl) (by kernel_rfl) (by kernel_rfl) (fun _ _ _ h => h) (.inl ⟨rfl, ?ty23⟩) hS0 ?tr23
    case ty23 => (intro _ _; go_simp; try with_reducible rfl)
    case tr23 =>
    simp only [Act.put, List.setIfInBounds_toArray, List.set_cons_succ, List.set_cons_zero]
    refine held_take 6 (v := ?tv24) rfl (by kernel_rfl) (by kernel_rfl) (by kernel_rfl) (fun _ _ _ h => h) (.inl ⟨rfl, ?ty24⟩) hS0 ?tr24
    case ty24 => (intro _ _; go_simp; try with_reducible rfl)
    case tr24 =>
    simp only [Act.put, List.setIfInBounds_toArray, List.set_cons_succ, List.set_cons_zero]
    refine held_take 7 (v := ?tv25) rfl (by kernel_rfl) (by kernel_rfl) (by kernel_rfl) (fun _ _ _ h => h) (.inl ⟨rfl, ?ty25⟩) hS0 ?tr25
    case ty25 => (intro _ _; go_simp; try with_reducible rfl)
    case tr25 =>
    simp only [Act.put, List.setIfInBounds_toArray, List.set_cons_succ, List.set_cons_zero]
    refine held_take 8 (v := ?tv26) rfl (by kernel_rfl) (by kernel_rfl) (by kernel_rfl) (fun _ _ _ h => h) (.inl ⟨rfl, ?ty26⟩) hS0 ?tr26
    case ty26 => (intro _ _; go_simp; try with_reducible rfl)
    case tr26 =>
    simp only [Act.put, List.setIfInBounds_toArray, List.set_cons_succ, List.set_cons_zero]
    refine held_take 9 (v := ?tv27) rfl (by kernel_rfl) (by kernel_rfl) (by kernel_rfl) (fun _ _ _ h => h) (.inl ⟨rfl, ?ty27⟩) hS0 ?tr27
    case ty27 => (intro _ _; go_simp; try with_reducible rfl)
    case tr27 =>
    simp only [Act.put, List.setIfInBounds_toArray, List.set_cons_succ, List.set_cons_zero]
    refine held_take 10 (v := ?tv28) rfl (by kernel_rfl) (by kernel_rfl) (by kernel_rfl) (fun _ _ _ h => h) (.inl ⟨rfl, ?ty28⟩) hS0 ?tr28
    case ty28 => (intro _ _; go_simp; try with_reducible rfl)
    case tr28 =>
    simp only [Act.put, List.setIfInBounds_toArray, List.set_cons_succ, List.set_cons_zero]
    refine held_take 11 (v := ?tv29) rfl (by kernel_rfl) (by kernel_rfl) (by kernel_rfl) (fun _ _ _ h => h) (.inl ⟨rfl, ?ty29⟩) hS0 ?tr29
    case ty29 => (intro _ _; go_simp; try with_reducible rfl)
    case tr29 =>
    simp only [Act.put, List.setIfInBounds_toArray, List.set_cons_succ, List.set_cons_zero]
    refine held_take 12 (v := ?tv30) rfl (by kernel_rfl) (by kernel_rfl) (by kernel_rfl) (fun _ _ _ h => h) (.inl ⟨rfl, ?ty30⟩) hS0 ?tr30
    case ty30 => (intro _ _; go_simp; try with_reducible rfl)
    case tr30 =>
    simp only [Act.put, List.setIfInBounds_toArray, List.set_cons_succ, List.set_cons_zero]
    refine held_take 13 (v := undef) rfl (by kernel_rfl) (by kernel_rfl) (by kernel_rfl) (fun _ _ _ h => h) (.inr ⟨rfl, rfl⟩) hS0 ?_
    simp only [Act.put, List.setIfInBounds_toArray, List.set_cons_succ, List.set_cons_zero]
    refine held_take 14 (v := undef) rfl (by kernel_rfl) (by kernel_rfl) (by kernel_rfl) (fun _ _ _ h => h) (.inr ⟨rfl, rfl⟩) hS0 ?_
    simp only [Act.put, List.setIfInBounds_toArray, List.set_cons_succ, List.set_cons_zero]
    refine held_take 15 (v := undef) rfl (by kernel_rfl) (by kernel_rfl) (by kernel_rfl) (fun _ _ _ h => h) (.inr ⟨rfl, rfl⟩) hS0 ?_
    simp only [Act.put, List.setIfInBounds_toArray, List.set_cons_succ, List.set_cons_zero]
    refine held_take 16 (v := undef) rfl (by kernel_rfl) (by kernel_rfl) (by kernel_rfl) (fun _ _ _ h => h) (.inr ⟨rfl, rfl⟩) hS0 ?_
    simp only [Act.put, List.setIfInBounds_toArray, List.set_cons_succ, List.set_cons_zero]
    refine held_take 17 (v := ?tv31) rfl (by kernel_rfl) (by kernel_rfl) (by kernel_rfl) (fun _ _ _ h => h) (.inl ⟨rfl, ?ty31⟩) hS0 ?tr31
    case ty31 => (intro _ _; go_simp; try with_reducible rfl)
    case tr31 =>
    simp only [Act.put, List.setIfInBounds_toArray, List.set_cons_succ, List.set_cons_zero]
    refine held_take 18 (v := ?tv32) rfl (by kernel_rfl) (by kernel_rfl) (by kernel_rfl) (fun _ _ _ h => h) (.inl ⟨rfl, ?ty32⟩) hS0 ?tr32
    case ty32 => (intro _ _; go_simp; try with_reducible rfl)
    case tr32 =>
    simp only [Act.put, List.setIfInBounds_toArray, List.set_cons_succ, List.set_cons_zero]
    refine held_take 19 (v := ?tv33) rfl (by kernel_rfl) (by kernel_rfl) (by kernel_rfl) (fun _ _ _ h => h) (.inl ⟨rfl, ?ty33⟩) hS0 ?tr33
    case ty33 => (intro _ _; go_simp; try with_reducible rfl)
    case tr33 =>
    simp only [Act.put, List.setIfInBounds_toArray, List.set_cons_succ, List.set_cons_zero]
    refine held_take 20 (v := ?tv34) rfl (by kernel_rfl) (by kernel_rfl) (by kernel_rfl) (fun _ _ _ h => h) (.inl ⟨rfl, ?ty34⟩) hS0 ?tr34
    case ty34 => (intro _ _; go_simp; try with_reducible rfl)
    case tr34 =>
    simp only [Act.put, List.setIfInBounds_toArray, List.set_cons_succ, List.set_cons_zero]
    refine held_take 21 (v := ?tv35) rfl (by kernel_rfl) (by kernel_rfl) (by kernel_rfl) (fun _ _ _ h => h) (.inl ⟨rfl, ?ty35⟩) hS0 ?tr35
    case ty35 => (intro _ _; go_simp; try with_reducible rfl)
    case tr35 =>
    simp only [Act.put, List.setIfInBounds_toArray, List.set_cons_succ, List.set_cons_zero]
    refine held_take 22 (v := ?tv36) rfl (by kernel_rfl) (by kernel_rfl) (by kernel_rfl) (fun _ _ _ h => h) (.inl ⟨rfl, ?ty36⟩) hS0 ?tr36
    case ty36 => (intro _ _; go_simp; try with_reducible rfl)
    case tr36 =>
    simp only [Act.put, List.setIfInBounds_toArray, List.set_cons_succ, List.set_cons_zero]
    refine held_take 23 (v := _) rfl (by kernel_rfl) (by kernel_rfl) (by kernel_rfl) (fun _ _ _ h => h) (yieldsI_loadw rfl 40 _ rfl rfl (fun w1 h => SF.out.ext ((HCC.out w1).1 h)) agg_apisum HZL.out) hS0 ?_
    simp only [Act.put, List.setIfInBounds_toArray, List.set_cons_succ, List.set_cons_zero]
    refine held_take 24 (v := ?tv37) rfl (by kernel_rfl) (by kernel_rfl) (by kernel_rfl) (fun _ _ _ h => h) (.inl ⟨rfl, ?ty37⟩) hS0 ?tr37
    case ty37 => (intro _ _; go_simp; try with_reducible rfl)
    case tr37 =>
    simp only [Act.put, List.setIfInBounds_toArray, List.set_cons_succ, List.set_cons_zero]
    refine held_take 25 (v := _) rfl (by kernel_rfl) (by kernel_rfl) (by kernel_rfl) (fun _ _ _ h => h) (yieldsI_run rfl (fun w1 _ => exec_cmpA rfl rfl rfl guard_sumU HNZ.out w1)) hS0 ?_
    simp only [Act.put, List.setIfInBounds_toArray, List.set_cons_succ, List.set_cons_zero]
    refine held_take 26 (v := ?tv38) rfl (by kernel_rfl) (by kernel_rfl) (by kernel_rfl) (fun _ _ _ h => h) (.inl ⟨rfl, ?ty38⟩) hS0 ?tr38
    case ty38 => (intro _ _; go_simp; try with_reducible rfl)
    case tr38 =>
    simp only [Act.put, List.setIfInBounds_toArray, List.set_cons_succ, List.set_cons_zero]
    refine held_take 27 (v := ?tv39) rfl (by kernel_rfl) (by kernel_rfl) (by kernel_rfl) (fun _ _ _ h => h) (.inl ⟨rfl, ?ty39⟩) hS0 ?tr39
    case ty39 => (intro _ _; go_simp; try with_reducible rfl)
    case tr39 =>
    simp only [Act.put, List.setIfInBounds_toArray, List.set_cons_succ, List.set_cons_zero]
    refine wpAnyH_done (by kernel_rfl) ?_ _
    have eZ := (HCC.out wY).1 hS0
    clear hS0 hCx hCA HCC hck2
    have BZ := hid (BF.out.ext eZ)
    have GZ := hid (GF.out.ext eZ)
    have EZ := hid (EF.out.ext eZ)
    have RZ := hid (RF.out.ext eZ)
    have QZ := hid (QF.out.ext eZ)
    clear eZ BF GF EF RF QF
    clear SF
    go_wp2_with (first | (refine wpl_loadw rfl 42 (.tmp 2) rfl rfl GZ.out agg_ask HLEN.out ?_) | (refine wpl_loadw rfl 50 (.tmp 3) rfl rfl BZ.out agg_rule HRL.out ?_))
    refine (hpm.out wY RZ.out QZ.out).mono ?_
    rintro e wI ⟨rfl, eI⟩
    have BI := hid (BZ.out.ext eI)
    have GI := hid (GZ.out.ext eI)
    have EI := hid (EZ.out.ext eI)
    have RI := hid (RZ.out.ext eI)
    have QI := hid (QZ.out.ext eI)
    clear eI BZ GZ EZ RZ QZ
    by_cases hR0 : RE = 0
    · subst hR0
      rw [if_pos rfl, if_neg HE0.out]
      go_wp2_with (refine wpl_loadw rfl 50 (.tmp 3) rfl rfl BI.out agg_rule HRL.out ?_)
      refine (hre.out wI RI.out).mono ?_
      rintro e wJ ⟨rfl, eJ⟩
      have EJ := hid (EI.out.ext eJ)
      clear eJ
      go_wp2_with fail
      go_ret
      exact ⟨by first | rfl | simp, EJ.out⟩
    · rw [if_neg hR0]
      have q1 : (RE != 0) = true := by simp [hR0]
      have q2 : decide (RE = 0) = false := decide_eq_false hR0
      clear hR0
      go_wp2_with (refine wpl_loadw rfl 50 (.tmp 3) rfl rfl BI.out agg_rule HRL.out ?_)
      refine (hre.out wI RI.out).mono ?_
      rintro e wJ ⟨rfl, eJ⟩
      have EJ := hid (EI.out.ext eJ)
      clear eJ
      go_wp2_with fail
      go_ret
      exact ⟨by first | rfl | simp, EJ.out⟩
end

section
open Go Go.RowKit Go.ChangeShapes Go.WideShapes Go.ChangeAt

theorem u8_of {n : Int} (h : (Lit.int .u8 n).wf = true) : ∃ x : UInt8, Value.int .u8 n = u8v x := by
  have hb := bounds_u8 h
  refine ⟨UInt8.ofNat n.toNat, ?_⟩
  unfold u8v
  congr 1
  rw [UInt8.toNat_ofNat']
  omega

theorem u8s_of : ∀ (vs : List Value), (∀ (i : Nat) (v : Value), vs[i]? = some v → ∃ x : UInt8, v = u8v x) → ∃ l : List UInt8, vs = l.map u8v
  | [], _ => ⟨[], rfl⟩
  | v :: vs, h => by
    obtain ⟨x, hx⟩ := h 0 v rfl
    obtain ⟨l, hl⟩ := u8s_of vs fun i u hu => h (i + 1) u (by simpa using hu)
    exact ⟨x :: l, by rw [hx, hl]; rfl⟩

section
variable {H : Type} {enc : TypeId × Value → H} {P : Program} {w : World}
/-- an array of octets -/
theorem open_octets {r : Reach} {b0 base : Nat} {sp : Nat → Bool} {held : Bool} {t e : TypeId} {n : Nat} {v : Value} {d : DataW H} {ps : List MemPlace} (ht : P.underlying t = some (.array n e)) (he : P.underlying e = some (.int .u8)) (hce : P.cellsOf e = 1) (hct : P.cellsOf t = n)
    (hval : Value.okWide P w r b0 t v) (hd : DataW.Trod enc P w base sp held t v d ps) : ∃ l : List UInt8, l.length = n ∧ v = .agg (l.map u8v).toArray := by
  unfold Value.okWide at hval
  rw [ht] at hval
  obtain ⟨cs, rfl, hs, _⟩ := hval
  obtain ⟨fuel, hf⟩ := hd
  obtain ⟨xs, m, _, _, hlen, hxl, hel⟩ := DataW.trod_array ht hf
  have hcl : cs.toList.length = n := by rw [Array.length_toList, hs, hct]
  obtain ⟨l, hl⟩ := u8s_of cs.toList fun i u hu => by
    have hi : i < n := by
      have := (List.getElem?_eq_some_iff.1 hu).1
      omega
    have h1 := hel i hi
    rw [hce, Nat.mul_one] at h1
    have hx : xs[i]? = some xs[i] := by simp
    have h2 : (cs.toList.drop i).take 1 = [u] := by
      have h3 := List.getElem?_drop (xs := cs.toList) (i := i) (j := 0)
      rw [Nat.add_zero, hu] at h3
      cases hd : cs.toList.drop i with
      | nil => rw [hd] at h3; simp at h3
      | cons y r => rw [hd] at h3; simp at h3; simp [h3]
    have h4 : DataW.trod enc P w base sp held m e [u] = some xs[i] := by
      rw [← h2, ← hx]; exact h1
    obtain ⟨k, hk, _, hw⟩ := DataW.trod_int he h4
    have hu' : u = .int .u8 k := by simpa using hk
    rw [hu']; exact u8_of hw
  refine ⟨l, ?_, ?_⟩
  · have := congrArg List.length hl
    rw [hcl, List.length_map] at this; exact this.symm
  · rw [← hl]
end
end

section
open Go Go.RowKit Go.ChangeShapes Go.WideShapes Go.ChangeAt

section
variable {H : Type} {enc : TypeId × Value → H} {P : Program} {w : World}
/-- a slice of octets, read whole -/
theorem open_bytes {r : Reach} {b0 base : Nat} {held : Bool} {t e : TypeId} {v : Value} {d : DataW H} {ps : List MemPlace} (ht : P.underlying t = some (.slice e)) (he : P.underlying e = some (.int .u8)) (hce : P.cellsOf e = 1)
    (hval : Value.okWide P w r b0 t v) (hd : DataW.Trod enc P w base (fun _ => true) held t v d ps) :
    ∃ (a : Option Addr) (n c : Nat) (l : List UInt8) (es sp : List (DataW H)), v = .slice a n c ∧ l.length = n ∧ n ≤ c ∧ (a = none → c = 0) ∧ Cells w a (l.map u8v) ∧ ((d = .nil ∧ c = 0) ∨ (d = .slice es sp ∧ es.length + sp.length = c)) := by
  obtain ⟨a, n, c, rfl⟩ := okWide_slice ht hval
  obtain ⟨fuel, hf⟩ := hd
  rcases open_ints ht he hce hf with ⟨hcs, hx⟩ | ⟨ad, len, cap, zs, hcs, _, hle, hmax, hlen, hx, hcell, hwf⟩
  · simp [Value.cells] at hcs
    obtain ⟨rfl, rfl, rfl⟩ := hcs
    simp only [Prod.mk.injEq] at hx
    exact ⟨none, 0, 0, [], [], [], rfl, rfl, Nat.le_refl _, fun _ => rfl, .inl rfl, .inl ⟨hx.1, rfl⟩⟩
  · simp [Value.cells] at hcs
    obtain ⟨rfl, rfl, rfl⟩ := hcs
    simp only [Prod.mk.injEq] at hx
    simp only [if_true] at hlen
    obtain ⟨l, hl⟩ := u8s_of ((zs.take n).map (Value.int .u8)) fun i u hu => by
      have hm := List.mem_of_getElem? hu
      obtain ⟨z, hz, rfl⟩ := List.mem_map.1 hm
      exact u8_of (hwf z (List.mem_of_mem_take hz))
    have hll : l.length = n := by
      have := congrArg List.length hl
      simp only [List.length_map, List.length_take] at this
      omega
    refine ⟨some ad, n, c, l, lits .u8 (zs.take n), lits .u8 (zs.drop n), rfl, hll, hle, (fun h => by cases h), ?_, .inr ⟨hx.1, ?_⟩⟩
    · by_cases hn : n = 0
      · left
        have : l = [] := List.length_eq_zero_iff.1 (by omega)
        rw [this]; rfl
      · obtain ⟨b, off, rfl, hat⟩ := ints_at hcell (by omega)
        refine .inr ⟨b, off, rfl, fun i u hu => ?_⟩
        rw [← hl] at hu
        have hi : i < n := by
          have := (List.getElem?_eq_some_iff.1 hu).1
          simp at this; omega
        rw [hat i (by omega)]
        rw [List.getElem?_map, List.getElem?_take_of_lt hi] at hu
        rw [List.getD_eq_getElem?_getD]
        cases hz : zs[i]? with
        | none => rw [hz] at hu; simp at hu
        | some z => rw [hz] at hu; simpa using hu
    · simp [lits]; omega
end
end

section
open Go Go.RowKit Go.ChangeShapes Go.WideShapes Go.ChangeAt Go.Deep

theorem cells?_at {w : World} {base : Nat} {p : Addr} {k : Nat} {cs : List Value} (h : w.cells? base p k = some cs) : cs.length = k ∧ CellsAt w p cs := by
  unfold World.cells? at h
  split at h
  · refine ⟨by simpa using mapM_some_length h, fun j u hu => ?_⟩
    have hj : j < k := by
      have h1 := (List.getElem?_eq_some_iff.1 hu).1
      have h2 := mapM_some_length h
      simp at h2; omega
    have := mapM_some_get h j j (by simp [hj])
    rw [hu] at this
    exact this
  · cases h

section
variable {H : Type} {enc : TypeId × Value → H} {P : Program} {w : World}
theorem octets_of_trod {base : Nat} {sp : Nat → Bool} {held : Bool} {t e : TypeId} {n f : Nat} {cs : List Value} {x : DataW H × List MemPlace} (ht : P.underlying t = some (.array n e)) (he : P.underlying e = some (.int .u8)) (hce : P.cellsOf e = 1) (hct : P.cellsOf t = n)
    (hf : DataW.trod enc P w base sp held f t cs = some x) : ∃ l : List UInt8, l.length = n ∧ cs = l.map u8v := by
  obtain ⟨xs, m, _, _, hlen, hxl, hel⟩ := DataW.trod_array ht hf
  have hcl : cs.length = n := by rw [hlen, hct]
  obtain ⟨l, hl⟩ := u8s_of cs fun i u hu => by
    have hi : i < n := by
      have := (List.getElem?_eq_some_iff.1 hu).1
      omega
    have h1 := hel i hi
    rw [hce, Nat.mul_one] at h1
    have hx : xs[i]? = some xs[i] := by simp
    have h2 : (cs.drop i).take 1 = [u] := by
      have h3 := List.getElem?_drop (xs := cs) (i := i) (j := 0)
      rw [Nat.add_zero, hu] at h3
      cases hd : cs.drop i with
      | nil => rw [hd] at h3; simp at h3
      | cons y r => rw [hd] at h3; simp at h3; simp [h3]
    have h4 : DataW.trod enc P w base sp held m e [u] = some xs[i] := by
      rw [← h2, ← hx]; exact h1
    obtain ⟨k, hk, _, hw⟩ := DataW.trod_int he h4
    have hu' : u = .int .u8 k := by simpa using hk
    rw [hu']; exact u8_of hw
  refine ⟨l, ?_, hl⟩
  have := congrArg List.length hl
  rw [hcl, List.length_map] at this; exact this.symm

/-- a slice of rows, its cell read -/
theorem sums_of_trod {base f : Nat} {held : Bool} {t e q : TypeId} {cs : List Value} {x : DataW H × List MemPlace} (ht : P.underlying t = some (.slice e)) (he : P.underlying e = some (.array 32 q)) (hq : P.underlying q = some (.int .u8)) (cq : P.cellsOf q = 1) (ce : P.cellsOf e = 32)
    (hf : DataW.trod enc P w base (fun _ => true) held f t cs = some x) :
    ∃ (a : Option Addr) (n c : Nat) (ls : List (List UInt8)) (es sp : List (DataW H)), cs = [.slice a n c] ∧ ls.length = n ∧ All32 ls ∧ n ≤ c ∧ c ≤ maxLen ∧ (a = none → c = 0) ∧ Cells w a (rows ls) ∧ ((x.1 = .nil ∧ c = 0) ∨ (x.1 = .slice es sp ∧ es.length + sp.length = c)) := by
  rcases DataW.trod_slice ht hf with ⟨h0, h1⟩ | ⟨a, len, cap, elems, rest, n, _, rfl, rfl, hb, hl, hm, hlen, hel, hsp, hns⟩
  · exact ⟨none, 0, 0, [], [], [], h0, rfl, All32.nil, Nat.le_refl _, Nat.zero_le _, fun _ => rfl, .inl rfl, .inl ⟨by rw [h1], rfl⟩⟩
  · have each : ∀ i, i < len → ∃ l : List UInt8, l.length = 32 ∧ CellsAt w (a.add (i * 32)) (l.map u8v) := by
      intro i hi
      have h1 := hel i hi
      have hx : elems[i]? = some (elems[i]'(by omega)) := by simp
      rw [ce, hx, Option.bind_eq_some_iff] at h1
      obtain ⟨cs', hcs, hy⟩ := h1
      obtain ⟨l, hl1, rfl⟩ := octets_of_trod he hq cq ce hy
      exact ⟨l, hl1, (cells?_at hcs).2⟩
    obtain ⟨g, hg⟩ := choose_lt each
    have h32 : All32 ((List.range len).map g) := fun l hl => by
      obtain ⟨i, hi, rfl⟩ := List.mem_map.1 hl
      exact (hg i (List.mem_range.1 hi)).1
    obtain ⟨hrl, _⟩ := hsp rfl
    refine ⟨some a, len, cap, (List.range len).map g, _, _, rfl, by simp, h32, hl, hm, (fun h => by cases h), ?_, .inr ⟨rfl, by simp; omega⟩⟩
    by_cases h0 : len = 0
    · left; subst h0; rfl
    · obtain ⟨hl0, hc0⟩ := hg 0 (by omega)
      obtain ⟨b, off, spot⟩ := a
      have hspot : spot = none := by
        have := hc0 0 (u8v ((g 0)[0]'(by omega))) (by simp [hl0])
        simpa [Addr.add] using World.cell?_spot this
      subst hspot
      refine .inr ⟨b, off, rfl, fun i u hu => ?_⟩
      have hi : i < 32 * len := by
        have := (List.getElem?_eq_some_iff.1 hu).1
        rw [rows_length h32] at this; simpa using this
      obtain ⟨_, hcr⟩ := hg (i / 32) (by omega)
      have hrow : ((List.range len).map g)[i / 32]? = some (g (i / 32)) := by
        rw [List.getElem?_map, List.getElem?_range (by omega)]; rfl
      have h2 := rows_at h32 hrow
      have h3 : ((g (i / 32)).map u8v)[i % 32]? = some u := by
        rw [← h2, List.getElem?_take_of_lt (Nat.mod_lt _ (by omega)), List.getElem?_drop, Nat.div_add_mod]; exact hu
      have h4 := hcr _ _ h3
      rw [addr_add, addr_add] at h4
      rw [show off + i / 32 * 32 + i % 32 = off + i by omega] at h4
      exact h4

/-- a struct of two ints and a slice of rows -/
theorem open_proof {r : Reach} {b0 base : Nat} {held : Bool} {t e q : TypeId} {f0 f1 f2 : Field} {v : Value} {d : DataW H} {ps : List MemPlace} (ht : P.underlying t = some (.struct #[f0, f1, f2])) (h0 : P.underlying f0.type = some (.int .i64)) (h1 : P.underlying f1.type = some (.int .i64))
    (h2 : P.underlying f2.type = some (.slice e)) (he : P.underlying e = some (.array 32 q)) (hq : P.underlying q = some (.int .u8)) (cq : P.cellsOf q = 1) (ce : P.cellsOf e = 32) (c0 : P.cellsOf f0.type = 1) (c1 : P.cellsOf f1.type = 1) (c2 : P.cellsOf f2.type = 1) (ct : P.cellsOf t = 3)
    (o0 : f0.offset = 0) (o1 : f1.offset = 1) (o2 : f2.offset = 2)
    (hval : Value.okWide P w r b0 t v) (hd : DataW.Trod enc P w base (fun _ => true) held t v d ps) :
    ∃ (I Z : Int) (a : Option Addr) (n c : Nat) (ls : List (List UInt8)), v = .agg #[.int .i64 I, .int .i64 Z, .slice a n c] ∧ ls.length = n ∧ All32 ls ∧ n ≤ c ∧ c ≤ maxLen ∧ (a = none → c = 0) ∧ Cells w a (rows ls) ∧
      ∃ (D : DataW H) (es sp : List (DataW H)), d = .agg [.lit (.int .i64 I), .lit (.int .i64 Z), D] ∧ ((D = .nil ∧ c = 0) ∨ (D = .slice es sp ∧ es.length + sp.length = c)) ∧ (Lit.int .i64 I).wf = true ∧ (Lit.int .i64 Z).wf = true := by
  obtain ⟨cs, rfl, hs⟩ := okWide_struct ht hval
  obtain ⟨fuel, hf⟩ := hd
  obtain ⟨y0, y1, y2, m, hx, hl, g0, g1, g2⟩ := trod_struct3 ht hf
  rw [c0, o0] at g0
  rw [c1, o1] at g1
  rw [c2, o2] at g2
  obtain ⟨I, hI, hI2, wI⟩ := DataW.trod_int h0 g0
  obtain ⟨Z, hZ, hZ2, wZ⟩ := DataW.trod_int h1 g1
  obtain ⟨a, n, c, ls, es, sp, hsl, hln, h32, hnc, hcm, hnil, hcl, hdd⟩ := sums_of_trod h2 he hq cq ce g2
  have hcs : cs = #[.int .i64 I, .int .i64 Z, .slice a n c] := by
    have hsz : cs.size = 3 := by rw [hs, ct]
    obtain ⟨l⟩ := cs
    match l, hsz with
    | [p0, p1, p2], _ =>
      simp [Value.cells] at hI hZ hsl
      rw [hI, hZ, hsl]
  refine ⟨I, Z, a, n, c, ls, by rw [hcs], hln, h32, hnc, hcm, hnil, hcl, y2.1, es, sp, ?_, hdd, wI, wZ⟩
  simp only [Prod.mk.injEq] at hx
  rw [hx.1, hI2, hZ2]
end
end

section
open Go Go.RowKit Go.ChangeShapes Go.WideShapes Go.ChangeAt Go.Deep

theorem mem_weightsU {H : Type} {P : Program} {e : TypeId} : ∀ {ds : List (DataW H)} {d : DataW H}, d ∈ ds → ∀ n ∈ d.weights P e, n ∈ DataW.weightsAll P e ds
  | d0 :: ds, d, hd, n, hn => by
    rw [DataW.weightsAll, List.mem_append]
    rcases List.mem_cons.1 hd with rfl | hd
    · exact .inl hn
    · exact .inr (mem_weightsU hd n hn)
  | [], _, hd, _, _ => by simp at hd
theorem reach_is : reachBytes = 140737488351232 := by decide

section
variable {H : Type} {enc : TypeId × Value → H} {P : Program} {w : World}
theorem strs_of_trod {base f : Nat} {held : Bool} {t e : TypeId} {cs : List Value} {x : DataW H × List MemPlace} (ht : P.underlying t = some (.slice e)) (he : P.underlying e = some .string) (hc : P.cellsOf e = 1) (hb : P.bytesOf e = 16)
    (hf : DataW.trod enc P w base (fun _ => true) held f t cs = some x) (hw : ∀ n ∈ x.1.weights P t, n ≤ reachBytes) :
    ∃ (a : Option Addr) (n c : Nat) (ls : List ByteArray), cs = [.slice a n c] ∧ ls.length = n ∧ n ≤ c ∧ c ≤ 140737488355328 ∧ Cells w a (ls.map encS) ∧ ∀ s ∈ ls, s.size ≤ 140737488355328 := by
  rcases open_strs ht he hc hf with ⟨rfl, rfl⟩ | ⟨a, len, m0, m, Sx, rfl, hba, hl, hm, rfl, rfl, hcell⟩
  · exact ⟨none, 0, 0, [], rfl, rfl, Nat.le_refl _, Nat.zero_le _, .inl rfl, by simp⟩
  · simp only [if_true] at hcell hw
    have hm : m ≤ 140737488355328 := by
      have := hw ((len + (m - len)) * P.bytesOf e) (by simp [DataW.weights, ht])
      rw [hb, reach_is] at this
      omega
    refine ⟨some a, len, m, (List.range len).map Sx, rfl, by simp, hl, hm, ?_, ?_⟩
    · by_cases h0 : len = 0
      · left; subst h0; rfl
      · obtain ⟨b, off, spot⟩ := a
        have hspot : spot = none := by
          have := World.cell?_spot (hcell 0 (by omega)).1
          simpa [Addr.add] using this
        subst hspot
        refine .inr ⟨b, off, rfl, fun i u hu => ?_⟩
        have hi : i < len := by
          have := (List.getElem?_eq_some_iff.1 hu).1
          simpa using this
        rw [List.getElem?_map, List.getElem?_map, List.getElem?_range hi] at hu
        have h1 := (hcell i (by omega)).1
        rw [addr_add] at h1
        rw [h1]
        exact hu
    · intro s hs
      obtain ⟨i, hi, rfl⟩ := List.mem_map.1 hs
      have hmem : (DataW.lit (.string (Sx i).data.toList) : DataW H) ∈ (List.range len).map fun i => DataW.lit (.string (Sx i).data.toList) := List.mem_map.2 ⟨i, hi, rfl⟩
      have h3 : (Sx i).data.toList.length ∈ (DataW.lit (.string (Sx i).data.toList) : DataW H).weights P e := by simp [DataW.weights]
      have h4 := hw _ (by
        simp only [DataW.weights, ht, List.mem_cons, List.mem_append]
        exact .inr (.inl (mem_weightsU hmem _ h3)))
      rw [Array.length_toList, reach_is] at h4
      have : (Sx i).size = (Sx i).data.size := rfl
      omega
theorem ints_of_trod {base f : Nat} {held : Bool} {t e : TypeId} {cs : List Value} {x : DataW H × List MemPlace} (ht : P.underlying t = some (.slice e)) (he : P.underlying e = some (.int .i64)) (hc : P.cellsOf e = 1) (hb : P.bytesOf e = 8)
    (hf : DataW.trod enc P w base (fun _ => true) held f t cs = some x) (hw : ∀ n ∈ x.1.weights P t, n ≤ reachBytes) :
    ∃ (a : Option Addr) (n c : Nat) (ls : List Int), cs = [.slice a n c] ∧ ls.length = n ∧ n ≤ c ∧ c ≤ 140737488355328 ∧ Cells w a (ls.map encI) ∧ ∀ z ∈ ls, (Lit.int .i64 z).wf = true := by
  rcases open_ints ht he hc hf with ⟨rfl, rfl⟩ | ⟨a, len, cap, zs, rfl, hba, hl, hm, hzl, rfl, hcell, hwf⟩
  · exact ⟨none, 0, 0, [], rfl, rfl, Nat.le_refl _, Nat.zero_le _, .inl rfl, by simp⟩
  · simp only [if_true] at hzl
    have hcap : cap ≤ 140737488355328 := by
      have := hw ((lits (H := H) .i64 (zs.take len)).length * P.bytesOf e + (lits (H := H) .i64 (zs.drop len)).length * P.bytesOf e) (by simp [DataW.weights, ht, Nat.add_mul])
      rw [hb, reach_is] at this
      simp [lits] at this
      omega
    refine ⟨some a, len, cap, zs.take len, rfl, by simp; omega, hl, hcap, ?_, fun z hz => hwf z (List.mem_of_mem_take hz)⟩
    by_cases h0 : len = 0
    · left; subst h0; simp
    · obtain ⟨b, off, spot⟩ := a
      have hspot : spot = none := by
        have := World.cell?_spot (hcell 0 (by omega))
        simpa [Addr.add] using this
      subst hspot
      refine .inr ⟨b, off, rfl, fun i u hu => ?_⟩
      have hi : i < len := by
        have := (List.getElem?_eq_some_iff.1 hu).1
        simp at this; omega
      have h1 := hcell i (by omega)
      rw [addr_add] at h1
      rw [h1]
      rw [List.getElem?_map, List.getElem?_take_of_lt hi] at hu
      rw [List.getD_eq_getElem?_getD]
      cases hz : zs[i]? with
      | none => rw [hz] at hu; simp at hu
      | some z => rw [hz] at hu; simpa [encI] using hu
end

theorem weights_part {H : Type} {P : Program} {t : TypeId} {fs : Array Field} {xs : List (DataW H × List MemPlace)} (ht : P.underlying t = some (.struct fs)) {B : Nat} (hw : ∀ n ∈ (DataW.agg (xs.map (·.1))).weights P t, n ≤ B) {i : Nat} {f : Field} {x : DataW H × List MemPlace} (hf : fs.toList[i]? = some f) (hx : xs[i]? = some x) : ∀ n ∈ x.1.weights P f.type, n ≤ B := by
  intro n hn
  refine hw n ?_
  simp only [DataW.weights, ht]
  exact DataW.weights_mem_each (ts := fs.toList.map (·.type)) (j := i) (by rw [List.getElem?_map, hf]; rfl) (by rw [List.getElem?_map, hx]; rfl) n hn

section
variable {H : Type} {enc : TypeId × Value → H} {w : World}
set_option maxRecDepth 100000 in
theorem rule_of_trod {base f : Nat} {held : Bool} {cs : List Value} {x : DataW H × List MemPlace} (hf : DataW.trod enc Try.prog w base (fun _ => true) held f 50 cs = some x) (hw : ∀ n ∈ x.1.weights Try.prog 50, n ≤ reachBytes) :
    ∃ r : RuleR, cs = r.v ∧ r.Ok w := by
  have ht := Try.underlying50
  obtain ⟨xs, m, _, rfl, hl, hlen, hfs⟩ := DataW.trod_struct ht hf
  have ct : Try.prog.cellsOf 50 = 8 := by kernel_rfl
  have c4 : Try.prog.cellsOf 4 = 1 := by kernel_rfl
  have c39 : Try.prog.cellsOf 39 = 1 := by kernel_rfl
  have c48 : Try.prog.cellsOf 48 = 1 := by kernel_rfl
  have c3 : Try.prog.cellsOf 3 = 1 := by kernel_rfl
  have c9 : Try.prog.cellsOf 9 = 1 := by kernel_rfl
  rw [ct] at hl
  match xs, hlen, cs, hl with
  | [y0, y1, y2, y3, y4, y5, y6, y7], _, [v0, v1, v2, v3, v4, v5, v6, v7], _ =>
  have g0 : DataW.trod enc Try.prog w base (fun _ => true) held m 4 [v0] = some y0 := by have := hfs 0 _ rfl; simpa [c4] using this
  have g1 : DataW.trod enc Try.prog w base (fun _ => true) held m 39 [v1] = some y1 := by have := hfs 1 _ rfl; simpa [c39] using this
  have g2 : DataW.trod enc Try.prog w base (fun _ => true) held m 48 [v2] = some y2 := by have := hfs 2 _ rfl; simpa [c48] using this
  have g3 : DataW.trod enc Try.prog w base (fun _ => true) held m 39 [v3] = some y3 := by have := hfs 3 _ rfl; simpa [c39] using this
  have g4 : DataW.trod enc Try.prog w base (fun _ => true) held m 3 [v4] = some y4 := by have := hfs 4 _ rfl; simpa [c3] using this
  have g5 : DataW.trod enc Try.prog w base (fun _ => true) held m 3 [v5] = some y5 := by have := hfs 5 _ rfl; simpa [c3] using this
  have g6 : DataW.trod enc Try.prog w base (fun _ => true) held m 3 [v6] = some y6 := by have := hfs 6 _ rfl; simpa [c3] using this
  have g7 : DataW.trod enc Try.prog w base (fun _ => true) held m 9 [v7] = some y7 := by have := hfs 7 _ rfl; simpa [c9] using this
  have w1 := weights_part ht hw (i := 1) rfl rfl
  have w2 := weights_part ht hw (i := 2) rfl rfl
  have w3 := weights_part ht hw (i := 3) rfl rfl
  have w7 := weights_part ht hw (i := 7) rfl rfl
  obtain ⟨b, h0, _⟩ := DataW.trod_bool Try.underlying4 g0
  obtain ⟨a1, n1, c1, l1, h1, p1, p2, p3, p4, p5⟩ := strs_of_trod Try.underlying39 Try.underlying9 c9 (by kernel_rfl) g1 w1
  obtain ⟨a2, n2, c2, l2, h2, q1, q2, q3, q4, q5⟩ := ints_of_trod Try.underlying48 Try.underlying3 c3 (by kernel_rfl) g2 w2
  obtain ⟨a3, n3, c3', l3, h3, r1, r2, r3, r4, r5⟩ := strs_of_trod Try.underlying39 Try.underlying9 c9 (by kernel_rfl) g3 w3
  obtain ⟨z4, h4, _, _⟩ := DataW.trod_int Try.underlying3 g4
  obtain ⟨z5, h5, _, _⟩ := DataW.trod_int Try.underlying3 g5
  obtain ⟨z6, h6, _, _⟩ := DataW.trod_int Try.underlying3 g6
  obtain ⟨s7, h7, hx7, _⟩ := DataW.trod_string Try.underlying9 g7
  have hs7 : s7.size ≤ 140737488355328 := by
    have := w7 s7.data.toList.length (by rw [hx7]; simp [DataW.weights])
    rw [Array.length_toList, reach_is] at this
    have e : s7.size = s7.data.size := rfl
    omega
  refine ⟨⟨b, a1, n1, c1, l1, a2, n2, c2, l2, a3, n3, c3', l3, z4, z5, z6, s7⟩, ?_, ⟨p1, p2, p3, p4, p5, q1, q2, q3, q4, q5, r1, r2, r3, r4, r5, hs7⟩⟩
  unfold RuleR.v
  simp only [List.cons.injEq, and_true] at h0 h1 h2 h3 h4 h5 h6 h7
  rw [h0, h1, h2, h3, h4, h5, h6, h7]
end
end
end Go.Proofs.Ytelhnimdfepmdaa
