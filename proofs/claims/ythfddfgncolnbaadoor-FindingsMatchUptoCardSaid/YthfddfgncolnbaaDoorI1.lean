/- Findings in plain Lean: what Explain writes and ParseFinding reads; no condition. -/
import Derived.Lib.AtoiAll
import Derived.Lib.ItoaNum
import Derived.Lib.IndexMore
import Derived.Lib.Strings
namespace Go.Proofs.YthfddfgncolnbaaDoor

structure FindR where
  st : Int
  en : Int
  at_ : Int
  er : Int
def zeroF : FindR := ⟨0, 0, 0, 0⟩
def txtGood : List UInt8 := [103, 111, 111, 100, 32]
def txtEntries : List UInt8 := [32, 101, 110, 116, 114, 105, 101, 115, 44, 32]
def txtOctets : List UInt8 := [32, 111, 99, 116, 101, 116, 115]
def txtEntry : List UInt8 := [101, 110, 116, 114, 121, 32]
def txtAt : List UInt8 := [32, 97, 116, 32]
def txtColon : List UInt8 := [58, 32]
def txtOpen : List UInt8 := [32, 40]
def txtError : List UInt8 := [101, 114, 114, 111, 114, 32]
def txtMid : List UInt8 := [32, 40, 101, 114, 114, 111, 114, 32]
def txtClose : List UInt8 := [41]
def phr1 : List UInt8 := [99, 97, 110, 110, 111, 116, 32, 98, 101, 32, 114, 101, 97, 100]
def phr2 : List UInt8 := [100, 111, 101, 115, 32, 110, 111, 116, 32, 102, 111, 108, 108, 111, 119]
def phr3 : List UInt8 := [119, 97, 115, 32, 110, 111, 116, 32, 97, 108, 108, 111, 119, 101, 100]
def phr4 : List UInt8 := [105, 115, 32, 110, 111, 116, 32, 119, 104, 97, 116, 32, 119, 97, 115, 32, 115, 101, 97, 108, 101, 100]
def phraseL (st : Int) : List UInt8 := if st = 1 then phr1 else if st = 2 then phr2 else if st = 3 then phr3 else phr4
def explE (f : FindR) : Int := if f.st < 0 ∨ 4 < f.st then 3 else if f.en < 0 ∨ f.at_ < 0 ∨ f.er < 0 then 4 else if decide (f.st = 0) != decide (f.er = 0) then 2 else 0
def explT (f : FindR) : List UInt8 :=
  if f.st = 0 then txtGood ++ (Lib.itoa f.en ++ (txtEntries ++ (Lib.itoa f.at_ ++ txtOctets)))
  else txtEntry ++ (Lib.itoa f.en ++ (txtAt ++ (Lib.itoa f.at_ ++ (txtColon ++ (phraseL f.st ++ (txtMid ++ (Lib.itoa f.er ++ txtClose)))))))
theorem explT_none (en a er : Int) : explT ⟨0, en, a, er⟩ = txtGood ++ Lib.itoa en ++ txtEntries ++ Lib.itoa a ++ txtOctets := by
  unfold explT; simp only [List.append_assoc, if_true]
theorem explT_some {st : Int} (h : st ≠ 0) (en a er : Int) : explT ⟨st, en, a, er⟩ = txtEntry ++ Lib.itoa en ++ txtAt ++ Lib.itoa a ++ txtColon ++ phraseL st ++ (txtOpen ++ txtError) ++ Lib.itoa er ++ txtClose := by
  unfold explT; simp only [if_neg h]
  rw [show txtMid = txtOpen ++ txtError from rfl]
  simp only [List.append_assoc]
def explL (f : FindR) : List UInt8 := if explE f = 0 then explT f else []

def numOf (l : List UInt8) : Int := match Lib.atoiAll l with | .ok v => v | .range => Lib.atoiSat l | _ => 0
def numOk (l : List UInt8) : Bool := match Lib.atoiAll l with | .ok _ => true | _ => false
structure BtwR where
  n : Int
  rest : List UInt8
  ok : Bool
def btwL (s head tail : List UInt8) : BtwR :=
  let c := Lib.cut (Lib.trimPrefix s head) tail
  ⟨numOf c.1, c.2.1, Lib.hasPrefix s head && c.2.2 && numOk c.1⟩
def stageL (what : List UInt8) : Int := if what = phr4 then 4 else if what = phr3 then 3 else if what = phr2 then 2 else if what = phr1 then 1 else 0
/-- what is read ahead of the last test -/
def tryL (s : List UInt8) : Option FindR :=
  let a := btwL s txtGood txtEntries
  let b := btwL a.rest [] txtOctets
  if a.ok && b.ok then some ⟨0, a.n, b.n, 0⟩
  else
    let c := btwL s txtEntry txtAt
    let d := btwL c.rest [] txtColon
    let w := Lib.cut d.rest txtOpen
    let g := btwL w.2.1 txtError txtClose
    if c.ok && d.ok && g.ok then some ⟨stageL w.1, c.n, d.n, g.n⟩ else none
def readsB (f : FindR) (s : List UInt8) : Bool := decide (explE f = 0) && decide (explT f = s)
def parseF (s : List UInt8) : FindR := match tryL s with | some f => if readsB f s then f else zeroF | none => zeroF
def parseFE (s : List UInt8) : Int := match tryL s with | some f => if readsB f s then 0 else 11 | none => 11

theorem parseF_no {s : List UInt8} (h : parseFE s ≠ 0) : parseFE s = 11 ∧ parseF s = zeroF := by
  unfold parseFE parseF at *
  cases ht : tryL s with
  | none => simp
  | some f =>
    rw [ht] at h
    cases hr : readsB f s with
    | true => simp [hr] at h
    | false => simp [hr]
theorem parseF_yes {s : List UInt8} (h : parseFE s = 0) : explE (parseF s) = 0 ∧ explT (parseF s) = s := by
  unfold parseFE parseF at *
  cases ht : tryL s with
  | none => rw [ht] at h; simp at h
  | some f =>
    rw [ht] at h
    cases hr : readsB f s with
    | false => simp [hr] at h
    | true =>
      simp only [hr, if_true]
      unfold readsB at hr
      simpa using hr

/-! ### numerals are read back -/
def digB (c : UInt8) : Bool := decide (48 ≤ c.toNat) && decide (c.toNat ≤ 57)
theorem ofNat48 (d : Nat) (h : d < 10) : (UInt8.ofNat (48 + d)).toNat = 48 + d := by
  rw [UInt8.toNat_ofNat']; omega
theorem parse_append : ∀ (l : List UInt8) (acc u d : Nat), Lib.parseUint10 acc l = .ok u → d < 10 → u < 1844674407370955161 → Lib.parseUint10 acc (l ++ [UInt8.ofNat (48 + d)]) = .ok (u * 10 + d)
  | [], acc, u, d, h, hd, hu => by
    simp only [Lib.parseUint10] at h
    injection h with h
    subst h
    have h1 := ofNat48 d hd
    simp only [List.nil_append, Lib.parseUint10, h1]
    rw [if_pos (by omega), if_neg (by omega), if_neg (by omega)]
    congr 1
    omega
  | c :: r, acc, u, d, h, hd, hu => by
    simp only [Lib.parseUint10, List.cons_append] at h ⊢
    split at h
    · split at h
      · cases h
      · split at h
        · cases h
        · rename_i h1 h2 h3
          rw [if_pos h1, if_neg h2, if_neg h3]
          exact parse_append r _ u d h hd hu
    · cases h
theorem parse_dec (u : Nat) : u < 18446744073709551610 → Lib.parseUint10 0 (Lib.decDigits u) = .ok u := by
  induction u using Nat.strongRecOn with
  | _ u ih =>
    intro hu
    rw [Lib.decDigits]
    by_cases h : u < 10
    · rw [dif_pos h]
      have h1 := ofNat48 u h
      simp only [Lib.parseUint10, h1]
      rw [if_pos (by omega), if_neg (by omega), if_neg (by omega)]
      congr 1
      omega
    · rw [dif_neg h, parse_append _ 0 (u / 10) (u % 10) (ih (u / 10) (by omega) (by omega)) (by omega) (by omega)]
      congr 1
      omega
theorem dec_dig (u : Nat) : ∀ c ∈ Lib.decDigits u, digB c = true := by
  induction u using Nat.strongRecOn with
  | _ u ih =>
    intro c hc
    rw [Lib.decDigits] at hc
    by_cases h : u < 10
    · rw [dif_pos h] at hc
      have : c = UInt8.ofNat (48 + u) := by simpa using hc
      subst this
      have h1 := ofNat48 u h
      simp [digB, h1]; omega
    · rw [dif_neg h] at hc
      rcases List.mem_append.1 hc with hc | hc
      · exact ih (u / 10) (by omega) c hc
      · have : c = UInt8.ofNat (48 + u % 10) := by simpa using hc
        subst this
        have h1 := ofNat48 (u % 10) (by omega)
        simp [digB, h1]; omega
theorem dec_ne (u : Nat) : Lib.decDigits u ≠ [] := by
  rw [Lib.decDigits]
  split <;> simp
theorem itoa_dec {n : Int} (h : 0 ≤ n) : Lib.itoa n = Lib.decDigits n.toNat := by unfold Lib.itoa; rw [if_neg (by omega)]
theorem itoa_dig {n : Int} (h : 0 ≤ n) : ∀ c ∈ Lib.itoa n, digB c = true := by rw [itoa_dec h]; exact dec_dig _
theorem atoi_itoa {n : Int} (h : 0 ≤ n) (hm : n ≤ 9223372036854775807) : Lib.atoiAll (Lib.itoa n) = .ok n := by
  have hd := itoa_dig h
  rw [itoa_dec h] at hd ⊢
  have hp := parse_dec n.toNat (by omega)
  have hne := dec_ne n.toNat
  cases hl : Lib.decDigits n.toNat with
  | nil => exact absurd hl hne
  | cons c r =>
    rw [hl] at hp hd
    have hc := hd c (by simp)
    simp only [digB, Bool.and_eq_true, decide_eq_true_eq] at hc
    unfold Lib.atoiAll
    simp only
    rw [if_neg (by omega)]
    unfold Lib.parseMag
    rw [if_neg (by simp), hp]
    simp only
    rw [if_neg (by omega), if_neg (by omega), if_neg (by omega)]
    congr 1
    omega
theorem numOk_itoa {n : Int} (h : 0 ≤ n) (hm : n ≤ 9223372036854775807) : numOk (Lib.itoa n) = true := by unfold numOk; rw [atoi_itoa h hm]
theorem numOf_itoa {n : Int} (h : 0 ≤ n) (hm : n ≤ 9223372036854775807) : numOf (Lib.itoa n) = n := by unfold numOf; rw [atoi_itoa h hm]

theorem dec_len : ∀ (k u : Nat), u < 10 ^ (k + 1) → (Lib.decDigits u).length ≤ k + 1
  | 0, u, h => by rw [Lib.decDigits, dif_pos (by simpa using h)]; simp
  | k + 1, u, h => by
    rw [Lib.decDigits]
    by_cases h1 : u < 10
    · rw [dif_pos h1]; simp
    · rw [dif_neg h1, List.length_append]
      have := dec_len k (u / 10) (by rw [Nat.pow_succ] at h; omega)
      simp; omega
theorem itoa_len {n : Int} (h0 : -9223372036854775808 ≤ n) (h1 : n ≤ 9223372036854775807) : (Lib.itoa n).length ≤ 20 := by
  unfold Lib.itoa
  split
  · have := dec_len 18 n.natAbs (by simp; omega)
    simp; omega
  · have := dec_len 18 n.toNat (by simp; omega)
    omega
theorem phrase_len (st : Int) : (phraseL st).length ≤ 22 := by
  unfold phraseL
  split
  · decide
  · split
    · decide
    · split <;> decide

/-! ### cuts behind numerals -/
theorem index_behind {t : UInt8} {ts r : List UInt8} : ∀ (d : List UInt8), t ∉ d → Lib.index (d ++ (t :: ts) ++ r) (t :: ts) = d.length
  | [], _ => by
    simp only [List.nil_append, List.cons_append, Lib.index, List.length_nil]
    rw [if_pos]
    · rfl
    · simp
  | c :: d, h => by
    have h1 : t ≠ c := fun e => h (by simp [e])
    have h2 := index_behind (t := t) (ts := ts) (r := r) d (fun e => h (by simp [e]))
    simp only [List.cons_append, Lib.index, List.length_cons] at h2 ⊢
    rw [if_neg (by simp [h1]), h2, if_neg (by simp)]
    omega
theorem cut_behind {t : UInt8} {ts r : List UInt8} (d : List UInt8) (h : t ∉ d) : Lib.cut (d ++ (t :: ts) ++ r) (t :: ts) = (d, r, true) := by
  unfold Lib.cut
  rw [index_behind d h, if_pos (by omega)]
  have e1 : ((d.length : Int)).toNat = d.length := by omega
  rw [e1]
  congr 1
  · simp
  · congr 1
    rw [List.append_assoc, List.drop_append, List.drop_of_length_le (by omega), List.nil_append, show d.length + (t :: ts).length - d.length = (t :: ts).length by omega]
    simp
theorem not_dig {n : Int} (h : 0 ≤ n) {t : UInt8} (ht : digB t = false) : t ∉ Lib.itoa n := fun hm => by rw [itoa_dig h t hm] at ht; cases ht
theorem prefix_of (p r : List UInt8) : Lib.hasPrefix (p ++ r) p = true := by unfold Lib.hasPrefix; simp
theorem trim_of (p r : List UInt8) : Lib.trimPrefix (p ++ r) p = r := by unfold Lib.trimPrefix; rw [prefix_of]; simp
theorem btw_of {n : Int} (h : 0 ≤ n) (hm : n ≤ 9223372036854775807) {p ts r : List UInt8} {t : UInt8} (ht : digB t = false) : btwL (p ++ (Lib.itoa n ++ (t :: ts) ++ r)) p (t :: ts) = ⟨n, r, true⟩ := by
  unfold btwL
  simp only [trim_of, prefix_of, cut_behind _ (not_dig h ht), numOk_itoa h hm, numOf_itoa h hm, Bool.and_self]
theorem index_two {r : List UInt8} : ∀ (d : List UInt8), (40 : UInt8) ∉ d → Lib.index (d ++ txtOpen ++ r) txtOpen = d.length
  | [], _ => by
    simp only [txtOpen, List.nil_append, List.cons_append, Lib.index, List.length_nil]
    rw [if_pos]
    · rfl
    · simp
  | c :: d, h => by
    have h2 := index_two (r := r) d (fun e => h (by simp [e]))
    have h3 : txtOpen.isPrefixOf (c :: (d ++ txtOpen ++ r)) = false := by
      cases d with
      | nil =>
        simp only [txtOpen, List.nil_append, List.cons_append, List.isPrefixOf]
        simp
      | cons x d =>
        have hx : (40 : UInt8) ≠ x := fun e => h (by simp [e])
        simp only [txtOpen, List.cons_append, List.isPrefixOf]
        simp [hx]
    simp only [List.cons_append, Lib.index, List.length_cons] at h2 ⊢
    rw [h3]
    simp only [Bool.false_eq_true, if_false]
    rw [h2, if_neg (by simp)]
    omega
theorem cut_two {r : List UInt8} (d : List UInt8) (h : (40 : UInt8) ∉ d) : Lib.cut (d ++ txtOpen ++ r) txtOpen = (d, r, true) := by
  unfold Lib.cut
  rw [index_two d h, if_pos (by omega)]
  have e1 : ((d.length : Int)).toNat = d.length := by omega
  rw [e1]
  congr 1
  · simp
  · congr 1
    rw [List.append_assoc, List.drop_append, List.drop_of_length_le (by omega), List.nil_append, show d.length + txtOpen.length - d.length = txtOpen.length by omega]
    simp
theorem cut_phrase (st : Int) (r : List UInt8) : Lib.cut (phraseL st ++ txtOpen ++ r) txtOpen = (phraseL st, r, true) := by
  refine cut_two _ ?_
  unfold phraseL
  split
  · decide
  · split
    · decide
    · split <;> decide
theorem stage_phrase {st : Int} (h0 : st ≠ 0) (h1 : 0 ≤ st) (h4 : st ≤ 4) : stageL (phraseL st) = st := by
  have : st = 1 ∨ st = 2 ∨ st = 3 ∨ st = 4 := by omega
  rcases this with rfl | rfl | rfl | rfl <;> decide

theorem parse_expl {f : FindR} (h : explE f = 0) (b1 : f.en ≤ 9223372036854775807) (b2 : f.at_ ≤ 9223372036854775807) (b3 : f.er ≤ 9223372036854775807) : parseF (explT f) = f ∧ parseFE (explT f) = 0 := by
  obtain ⟨st, en, a, er⟩ := f
  have h' := h
  unfold explE at h
  simp only at h b1 b2 b3
  split at h
  · simp at h
  rename_i g1
  split at h
  · simp at h
  rename_i g2
  split at h
  · simp at h
  rename_i g3
  have key : tryL (explT ⟨st, en, a, er⟩) = some ⟨st, en, a, er⟩ := by
    unfold tryL
    by_cases hs : st = 0
    · subst hs
      have he : er = 0 := by simpa using g3
      subst he
      rw [explT_none]
      have e1 : btwL (txtGood ++ Lib.itoa en ++ txtEntries ++ Lib.itoa a ++ txtOctets) txtGood txtEntries = ⟨en, Lib.itoa a ++ txtOctets, true⟩ := by
        have := btw_of (n := en) (by omega) b1 (p := txtGood) (t := 32) (ts := [101, 110, 116, 114, 105, 101, 115, 44, 32]) (r := Lib.itoa a ++ txtOctets) (by decide)
        have e : txtGood ++ Lib.itoa en ++ txtEntries ++ Lib.itoa a ++ txtOctets = txtGood ++ (Lib.itoa en ++ txtEntries ++ (Lib.itoa a ++ txtOctets)) := by simp only [List.append_assoc]
        rw [e]; exact this
      have e2 : btwL (Lib.itoa a ++ txtOctets) [] txtOctets = ⟨a, [], true⟩ := by
        have := btw_of (n := a) (by omega) b2 (p := []) (t := 32) (ts := [111, 99, 116, 101, 116, 115]) (r := []) (by decide)
        have e : Lib.itoa a ++ txtOctets = [] ++ (Lib.itoa a ++ txtOctets ++ []) := by simp
        rw [e]; exact this
      rw [e1]
      simp only
      rw [e2]
      simp
    · rw [explT_some hs]
      have hne : er ≠ 0 := by
        intro he
        subst he
        simp [hs] at g3
      have e0 : ∀ r, (btwL (txtEntry ++ r) txtGood txtEntries).ok = false := by
        intro r
        unfold btwL
        simp only
        have : Lib.hasPrefix (txtEntry ++ r) txtGood = false := rfl
        rw [this]; rfl
      have e1 : btwL (txtEntry ++ Lib.itoa en ++ txtAt ++ Lib.itoa a ++ txtColon ++ phraseL st ++ (txtOpen ++ txtError) ++ Lib.itoa er ++ txtClose) txtEntry txtAt = ⟨en, Lib.itoa a ++ txtColon ++ phraseL st ++ (txtOpen ++ txtError) ++ Lib.itoa er ++ txtClose, true⟩ := by
        have := btw_of (n := en) (by omega) b1 (p := txtEntry) (t := 32) (ts := [97, 116, 32]) (r := Lib.itoa a ++ txtColon ++ phraseL st ++ (txtOpen ++ txtError) ++ Lib.itoa er ++ txtClose) (by decide)
        rw [show txtEntry ++ Lib.itoa en ++ txtAt ++ Lib.itoa a ++ txtColon ++ phraseL st ++ (txtOpen ++ txtError) ++ Lib.itoa er ++ txtClose = txtEntry ++ (Lib.itoa en ++ txtAt ++ (Lib.itoa a ++ txtColon ++ phraseL st ++ (txtOpen ++ txtError) ++ Lib.itoa er ++ txtClose)) by simp only [List.append_assoc]]
        exact this
      have e2 : btwL (Lib.itoa a ++ txtColon ++ phraseL st ++ (txtOpen ++ txtError) ++ Lib.itoa er ++ txtClose) [] txtColon = ⟨a, phraseL st ++ (txtOpen ++ txtError) ++ Lib.itoa er ++ txtClose, true⟩ := by
        have := btw_of (n := a) (by omega) b2 (p := []) (t := 58) (ts := [32]) (r := phraseL st ++ (txtOpen ++ txtError) ++ Lib.itoa er ++ txtClose) (by decide)
        rw [show Lib.itoa a ++ txtColon ++ phraseL st ++ (txtOpen ++ txtError) ++ Lib.itoa er ++ txtClose = [] ++ (Lib.itoa a ++ txtColon ++ (phraseL st ++ (txtOpen ++ txtError) ++ Lib.itoa er ++ txtClose)) by simp only [List.append_assoc, List.nil_append]]
        exact this
      have e3 : Lib.cut (phraseL st ++ (txtOpen ++ txtError) ++ Lib.itoa er ++ txtClose) txtOpen = (phraseL st, txtError ++ Lib.itoa er ++ txtClose, true) := by
        have := cut_phrase st (txtError ++ Lib.itoa er ++ txtClose)
        rw [show phraseL st ++ (txtOpen ++ txtError) ++ Lib.itoa er ++ txtClose = phraseL st ++ txtOpen ++ (txtError ++ Lib.itoa er ++ txtClose) by simp only [List.append_assoc]]
        exact this
      have e4 : btwL (txtError ++ Lib.itoa er ++ txtClose) txtError txtClose = ⟨er, [], true⟩ := by
        have := btw_of (n := er) (by omega) b3 (p := txtError) (t := 41) (ts := []) (r := []) (by decide)
        rw [show txtError ++ Lib.itoa er ++ txtClose = txtError ++ (Lib.itoa er ++ txtClose ++ []) by simp]
        exact this
      have e5 : (btwL (txtEntry ++ Lib.itoa en ++ txtAt ++ Lib.itoa a ++ txtColon ++ phraseL st ++ (txtOpen ++ txtError) ++ Lib.itoa er ++ txtClose) txtGood txtEntries).ok = false := by
        simp only [List.append_assoc]
        exact e0 _
      rw [e1]
      simp only [e5, Bool.false_and, Bool.false_eq_true, if_false]
      rw [e2]
      simp only
      rw [e3]
      simp only
      rw [e4]
      simp only [Bool.and_self, if_true]
      rw [stage_phrase hs (by omega) (by omega)]
  have hr : readsB ⟨st, en, a, er⟩ (explT ⟨st, en, a, er⟩) = true := by
    unfold readsB
    rw [h']; simp
  unfold parseF parseFE
  rw [key]
  simp [hr]
end Go.Proofs.YthfddfgncolnbaaDoor
