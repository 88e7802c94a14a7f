/- Contracts and laws that the claim's row leans on (4 texts, joined): Bodies printed and parsed: plain laws. slices.Equal of equal rows of strings and of IDs; keylaw1.sameBody of equal bodies; conditions: the bodies' memory. keylaw1.sameBody of equal bodies; conditions: the bodies' memory. The reference's printing of bodies: its closure, short, truth; what holds between the letters; conditions: the sizes. -/
import Derived.Test.YtkcjdginoccgjaaJ7
namespace Go.Proofs.Ytkcjdginoccgjaa
section
open Go Go.RowKit

/-- one field taken over -/
def setF (i : Nat) (x y : BodyP) : BodyP :=
  if i = 0 then { x with text := y.text }
  else if i = 1 then { x with member := y.member }
  else if i = 2 then { x with roles := y.roles }
  else if i = 3 then { x with label := y.label }
  else if i = 4 then { x with commit := y.commit }
  else if i = 5 then { x with epoch := y.epoch }
  else if i = 6 then { x with purpose := y.purpose }
  else if i = 7 then { x with reason := y.reason }
  else if i = 8 then { x with need := y.need }
  else if i = 9 then { x with holders := y.holders }
  else if i = 10 then { x with version := y.version }
  else { x with count := y.count }
theorem octI_small {n : Int} (h : 0 ≤ n ∧ n ≤ 255) : ((octI n).toNat : Int) = n := by
  unfold octI
  rw [UInt8.toNat_ofNat']; omega
theorem numbers_of {act : Int} {b : BodyR} (h : Right b act) : (needAt act 6 = true → 0 ≤ b.purpose ∧ b.purpose ≤ 255) ∧ (0 ≤ b.reason ∧ b.reason ≤ 255) ∧ (needAt act 8 = true → 0 ≤ b.need ∧ b.need ≤ 255) ∧ (0 ≤ b.version ∧ b.version ≤ 255) := by
  have hrg := h.range
  unfold rangeB outB at hrg
  simp only [Bool.or_eq_false_iff, Bool.and_eq_false_imp, decide_eq_false_iff_not] at hrg
  obtain ⟨⟨⟨⟨⟨r1, r2⟩, r3⟩, r4⟩, r5⟩, r6⟩ := hrg
  exact ⟨fun q => by have := r1 q; omega, by omega, fun q => by have := r4 q; omega, by omega⟩
theorem octL_nat (N : Nat) (h : N ≤ 4294967295) : natOf (octL (UInt32.ofNat N)) = N := by
  rw [num4 (x := octL (UInt32.ofNat N)) rfl]
  have := word4_octL [] (UInt32.ofNat N) 0 rfl
  rw [List.nil_append] at this
  rw [this, UInt32.toNat_ofNat']; omega
theorem longL_nat (N : Nat) (h : N ≤ 65536) : long8 (longL (UInt64.ofNat N)) 0 = N := by
  have := long8_longL [] (UInt64.ofNat N) 0 rfl
  rw [List.nil_append] at this
  rw [this, UInt64.toNat_ofNat']; omega
/-- a field is read as it was written -/
theorem field_app {act : Int} {b : BodyR} (h : Right b act) (hm : b.member.length = 16) (hc : b.commit.length = 32) (hrl : b.roles.length = b.rn) (hhl : b.holders.length = b.hn) (h16 : All16 b.holders) (i : Nat) (hi : needAt act i = true) (hi12 : i < 12) (h0 : i ≠ 0) (x : BodyP) (r : List UInt8) : fieldP lcountF i x (fieldL i b.p ++ r) = some (setF i x b.p, r) := by
  have sm := h.small
  obtain ⟨n6, n7, n8, n10⟩ := numbers_of h
  rcases (by omega : i = 1 ∨ i = 2 ∨ i = 3 ∨ i = 4 ∨ i = 5 ∨ i = 6 ∨ i = 7 ∨ i = 8 ∨ i = 9 ∨ i = 10 ∨ i = 11) with rfl | rfl | rfl | rfl | rfl | rfl | rfl | rfl | rfl | rfl | rfl
  · simp only [fieldP, fieldL, setF, reduceIte, Nat.reduceEqDiff, BodyR.p]
    rw [takeP_app 16 _ _ hm]; rfl
  · simp only [fieldP, fieldL, setF, reduceIte, Nat.reduceEqDiff, BodyR.p]
    unfold rolesL
    rw [List.cons_append, octP_cons]
    have hn : (UInt8.ofNat b.roles.length).toNat = b.roles.length := by rw [UInt8.toNat_ofNat']; have := sm.rn; omega
    show (manyP textP _ [] _).map _ = _
    rw [hn, many_texts r b.roles [] (fun s hs => by have := sm.rs s hs; omega)]
    rfl
  · simp only [fieldP, fieldL, setF, reduceIte, Nat.reduceEqDiff, BodyR.p]
    rw [textP_app _ _ (by have := sm.l; omega)]; rfl
  · simp only [fieldP, fieldL, setF, reduceIte, Nat.reduceEqDiff, BodyR.p]
    rw [takeP_app 32 _ _ hc]; rfl
  · simp only [fieldP, fieldL, setF, reduceIte, Nat.reduceEqDiff, BodyR.p]
    rw [takeP_app 4 _ _ rfl]
    show some (({ x with epoch := _ } : BodyP), r) = some (({ x with epoch := b.epoch } : BodyP), r)
    have he := sm.e
    rw [octL_nat _ (by omega), show ((b.epoch.toNat : Nat) : Int) = b.epoch by omega]
  · simp only [fieldP, fieldL, setF, reduceIte, Nat.reduceEqDiff, BodyR.p]
    rw [List.cons_append, List.nil_append, octP_cons]
    show some (({ x with purpose := _ } : BodyP), r) = some (({ x with purpose := b.purpose } : BodyP), r)
    rw [octI_small (n6 hi)]
  · simp only [fieldP, fieldL, setF, reduceIte, Nat.reduceEqDiff, BodyR.p]
    rw [List.cons_append, List.nil_append, octP_cons]
    show some (({ x with reason := _ } : BodyP), r) = some (({ x with reason := b.reason } : BodyP), r)
    rw [octI_small (n7)]
  · simp only [fieldP, fieldL, setF, reduceIte, Nat.reduceEqDiff, BodyR.p]
    rw [List.cons_append, List.nil_append, octP_cons]
    show some (({ x with need := _ } : BodyP), r) = some (({ x with need := b.need } : BodyP), r)
    rw [octI_small (n8 hi)]
  · simp only [fieldP, fieldL, setF, reduceIte, Nat.reduceEqDiff, BodyR.p]
    unfold holdersL
    rw [List.cons_append, octP_cons]
    have hn : (UInt8.ofNat b.holders.length).toNat = b.holders.length := by rw [UInt8.toNat_ofNat']; have := sm.hn; omega
    show (manyP (takeP 16) _ [] _).map _ = _
    rw [hn, many_ids r b.holders [] h16]
    rfl
  · simp only [fieldP, fieldL, setF, reduceIte, Nat.reduceEqDiff, BodyR.p]
    rw [List.cons_append, List.nil_append, octP_cons]
    show some (({ x with version := _ } : BodyP), r) = some (({ x with version := b.version } : BodyP), r)
    rw [octI_small n10]
  · simp only [fieldP, fieldL, setF, reduceIte, Nat.reduceEqDiff, BodyR.p]
    unfold countP
    rw [takeP_app 8 _ _ rfl]
    have hk := sm.c
    have hv : lcountF (longL (UInt64.ofNat b.count.toNat)) = b.count := by
      unfold lcountF
      rw [longL_nat _ (by omega), if_pos (by omega)]; omega
    show some (({ x with count := lcountF (longL (UInt64.ofNat b.count.toNat)) } : BodyP), r) = some (({ x with count := b.count } : BodyP), r)
    rw [hv]
theorem run_app {act : Int} {b : BodyR} (h : Right b act) (hm : b.member.length = 16) (hc : b.commit.length = 32) (hrl : b.roles.length = b.rn) (hhl : b.holders.length = b.hn) (h16 : All16 b.holders) : ∀ (s : List Nat) (x : BodyP), (∀ i ∈ s, needAt act i = true ∧ i < 12 ∧ i ≠ 0) → runP lcountF s x (printL s b.p) = some (s.foldl (fun x i => setF i x b.p) x, [])
  | [], x, _ => rfl
  | i :: s, x, hs => by
    have hi := hs i (by simp)
    have hp : printL (i :: s) b.p = fieldL i b.p ++ printL s b.p := rfl
    rw [hp, runP, field_app h hm hc hrl hhl h16 i hi.1 hi.2.1 hi.2.2]
    exact run_app h hm hc hrl hhl h16 s _ (fun j hj => hs j (by simp [hj]))
theorem fold_p {act : Int} {b : BodyR} (h : Right b act) (hrl : b.roles.length = b.rn) (hhl : b.holders.length = b.hn) : (seqOf act).foldl (fun x i => setF i x b.p) zeroP = b.p := by
  have z := h.zeros
  have zr : needAt act 2 = false → b.roles = [] := fun q => List.length_eq_zero_iff.1 (by rw [hrl]; exact z.r q)
  have zh : needAt act 9 = false → b.holders = [] := fun q => List.length_eq_zero_iff.1 (by rw [hhl]; exact z.h q)
  rcases acts12 h.isa with rfl | rfl | rfl | rfl | rfl | rfl | rfl | rfl | rfl | rfl | rfl | rfl
  · show (⟨b.text, List.replicate 16 0, [], ⟨#[]⟩, List.replicate 32 0, 0, 0, 0, 0, 0, 0, []⟩ : BodyP) = ⟨b.text, b.member, b.roles, b.label, b.commit, b.epoch, b.purpose, b.reason, b.need, b.version, b.count, b.holders⟩
    rw [z.m rfl, zr rfl, z.l rfl, z.c rfl, z.e rfl, z.p rfl, z.a rfl, z.n rfl, z.v rfl, z.k rfl, zh rfl]
  · show (⟨⟨#[]⟩, b.member, b.roles, ⟨#[]⟩, List.replicate 32 0, 0, 0, 0, 0, 0, 0, []⟩ : BodyP) = ⟨b.text, b.member, b.roles, b.label, b.commit, b.epoch, b.purpose, b.reason, b.need, b.version, b.count, b.holders⟩
    rw [z.t rfl, z.l rfl, z.c rfl, z.e rfl, z.p rfl, z.a rfl, z.n rfl, z.v rfl, z.k rfl, zh rfl]
  · show (⟨⟨#[]⟩, b.member, [], ⟨#[]⟩, List.replicate 32 0, 0, 0, 0, 0, 0, 0, []⟩ : BodyP) = ⟨b.text, b.member, b.roles, b.label, b.commit, b.epoch, b.purpose, b.reason, b.need, b.version, b.count, b.holders⟩
    rw [z.t rfl, zr rfl, z.l rfl, z.c rfl, z.e rfl, z.p rfl, z.a rfl, z.n rfl, z.v rfl, z.k rfl, zh rfl]
  · show (⟨⟨#[]⟩, List.replicate 16 0, [], b.label, b.commit, 0, 0, 0, 0, 0, 0, []⟩ : BodyP) = ⟨b.text, b.member, b.roles, b.label, b.commit, b.epoch, b.purpose, b.reason, b.need, b.version, b.count, b.holders⟩
    rw [z.t rfl, z.m rfl, zr rfl, z.e rfl, z.p rfl, z.a rfl, z.n rfl, z.v rfl, z.k rfl, zh rfl]
  · show (⟨⟨#[]⟩, List.replicate 16 0, [], ⟨#[]⟩, b.commit, b.epoch, 0, 0, 0, 0, 0, []⟩ : BodyP) = ⟨b.text, b.member, b.roles, b.label, b.commit, b.epoch, b.purpose, b.reason, b.need, b.version, b.count, b.holders⟩
    rw [z.t rfl, z.m rfl, zr rfl, z.l rfl, z.p rfl, z.a rfl, z.n rfl, z.v rfl, z.k rfl, zh rfl]
  · show (⟨⟨#[]⟩, List.replicate 16 0, [], ⟨#[]⟩, b.commit, b.epoch, b.purpose, 0, 0, 0, 0, []⟩ : BodyP) = ⟨b.text, b.member, b.roles, b.label, b.commit, b.epoch, b.purpose, b.reason, b.need, b.version, b.count, b.holders⟩
    rw [z.t rfl, z.m rfl, zr rfl, z.l rfl, z.a rfl, z.n rfl, z.v rfl, z.k rfl, zh rfl]
  · show (⟨⟨#[]⟩, List.replicate 16 0, [], ⟨#[]⟩, List.replicate 32 0, 0, 0, b.reason, 0, 0, 0, []⟩ : BodyP) = ⟨b.text, b.member, b.roles, b.label, b.commit, b.epoch, b.purpose, b.reason, b.need, b.version, b.count, b.holders⟩
    rw [z.t rfl, z.m rfl, zr rfl, z.l rfl, z.c rfl, z.e rfl, z.p rfl, z.n rfl, z.v rfl, z.k rfl, zh rfl]
  · show (⟨⟨#[]⟩, List.replicate 16 0, [], ⟨#[]⟩, b.commit, 0, 0, 0, 0, 0, 0, []⟩ : BodyP) = ⟨b.text, b.member, b.roles, b.label, b.commit, b.epoch, b.purpose, b.reason, b.need, b.version, b.count, b.holders⟩
    rw [z.t rfl, z.m rfl, zr rfl, z.l rfl, z.e rfl, z.p rfl, z.a rfl, z.n rfl, z.v rfl, z.k rfl, zh rfl]
  · show (⟨⟨#[]⟩, List.replicate 16 0, [], ⟨#[]⟩, b.commit, b.epoch, 0, 0, b.need, 0, 0, b.holders⟩ : BodyP) = ⟨b.text, b.member, b.roles, b.label, b.commit, b.epoch, b.purpose, b.reason, b.need, b.version, b.count, b.holders⟩
    rw [z.t rfl, z.m rfl, zr rfl, z.l rfl, z.p rfl, z.a rfl, z.v rfl, z.k rfl]
  · show (⟨⟨#[]⟩, List.replicate 16 0, [], ⟨#[]⟩, b.commit, b.epoch, 0, 0, 0, 0, 0, b.holders⟩ : BodyP) = ⟨b.text, b.member, b.roles, b.label, b.commit, b.epoch, b.purpose, b.reason, b.need, b.version, b.count, b.holders⟩
    rw [z.t rfl, z.m rfl, zr rfl, z.l rfl, z.p rfl, z.a rfl, z.n rfl, z.v rfl, z.k rfl]
  · show (⟨⟨#[]⟩, List.replicate 16 0, [], ⟨#[]⟩, b.commit, 0, 0, 0, 0, b.version, 0, []⟩ : BodyP) = ⟨b.text, b.member, b.roles, b.label, b.commit, b.epoch, b.purpose, b.reason, b.need, b.version, b.count, b.holders⟩
    rw [z.t rfl, z.m rfl, zr rfl, z.l rfl, z.e rfl, z.p rfl, z.a rfl, z.n rfl, z.k rfl, zh rfl]
  · show (⟨⟨#[]⟩, List.replicate 16 0, [], ⟨#[]⟩, b.commit, 0, 0, 0, 0, b.version, b.count, []⟩ : BodyP) = ⟨b.text, b.member, b.roles, b.label, b.commit, b.epoch, b.purpose, b.reason, b.need, b.version, b.count, b.holders⟩
    rw [z.t rfl, z.m rfl, zr rfl, z.l rfl, z.e rfl, z.p rfl, z.a rfl, z.n rfl, zh rfl]
theorem seq_shape {act : Int} (h : lactB act = true) : (act = 1 ∧ seqOf act = [0]) ∨ (∀ i ∈ seqOf act, i < 12 ∧ i ≠ 0) := by
  rcases acts12 h with rfl | rfl | rfl | rfl | rfl | rfl | rfl | rfl | rfl | rfl | rfl | rfl
  · exact .inl ⟨rfl, rfl⟩
  all_goals exact .inr (by decide)
theorem seq_len {act : Int} (h : lactB act = true) : (seqOf act).length ≤ 4 := by
  rcases acts12 h with rfl | rfl | rfl | rfl | rfl | rfl | rfl | rfl | rfl | rfl | rfl | rfl <;> decide
theorem printL_len {act : Int} {b : BodyR} (h : Right b act) (hm : b.member.length = 16) (hc : b.commit.length = 32) (hrl : b.roles.length = b.rn) (hhl : b.holders.length = b.hn) (h16 : All16 b.holders) : (printL (seqOf act) b.p).length ≤ 32768 := by
  rcases seq_shape h.isa with ⟨h1, h2⟩ | h2
  · rw [h2]
    show (b.text.data.toList ++ []).length ≤ _
    rw [List.append_nil, Array.length_toList]; exact h.t
  · have hf : ∀ i ∈ seqOf act, (fieldL i b.p).length ≤ 600 := by
      intro i hi
      obtain ⟨h12, h0⟩ := h2 i hi
      rcases (by omega : i = 1 ∨ i = 2 ∨ i = 3 ∨ i = 4 ∨ i = 5 ∨ i = 6 ∨ i = 7 ∨ i = 8 ∨ i = 9 ∨ i = 10 ∨ i = 11) with rfl | rfl | rfl | rfl | rfl | rfl | rfl | rfl | rfl | rfl | rfl
      · show b.member.length ≤ _; omega
      · exact rolesL_len h.small hrl
      · show (textL b.label).length ≤ _; rw [textL_len]; have := h.small.l; omega
      · show b.commit.length ≤ _; omega
      · show (octL _).length ≤ _; simp [octL]
      · show [octI _].length ≤ _; simp
      · show [octI _].length ≤ _; simp
      · show [octI _].length ≤ _; simp
      · exact holdersL_len h.small hhl h16
      · show [octI _].length ≤ _; simp
      · show (longL _).length ≤ _; rw [longL_length]; decide
    have hl := flat_len (l := (seqOf act).map fun i => fieldL i b.p) (k := 600) (by
      intro x hx
      obtain ⟨i, hi, rfl⟩ := List.mem_map.1 hx
      exact hf i hi)
    rw [List.length_map] at hl
    have := seq_len h.isa
    unfold printL
    have h4 : (seqOf act).length * 600 ≤ 4 * 600 := Nat.mul_le_mul_right _ this
    omega
/-- what is printed is parsed -/
theorem printed_parsed {act : Int} {b : BodyR} (he : bodyE act b = 0) (hm : b.member.length = 16) (hc : b.commit.length = 32) (hrl : b.roles.length = b.rn) (hhl : b.holders.length = b.hn) (h16 : All16 b.holders) : parseB lcountF act (printL (seqOf act) b.p) = (b.p, 0) := by
  have h := right_of he
  have hrun : runP lcountF (seqOf act) zeroP (printL (seqOf act) b.p) = some (b.p, []) := by
    rcases seq_shape h.isa with ⟨h1, h2⟩ | h2
    · have hf := fold_p h hrl hhl
      rw [h2] at hf ⊢
      rw [← hf]
      show some (({ zeroP with text := ⟨(b.text.data.toList ++ []).toArray⟩ } : BodyP), ([] : List UInt8)) = some (({ zeroP with text := b.text } : BodyP), [])
      rw [List.append_nil]
    · have hs : ∀ i ∈ seqOf act, needAt act i = true ∧ i < 12 ∧ i ≠ 0 := fun i hi => ⟨by
        rw [← seq_code h.isa] at hi; exact (List.mem_filter.1 hi).2, h2 i hi⟩
      rw [run_app h hm hc hrl hhl h16 (seqOf act) zeroP hs, fold_p h hrl hhl]
  unfold parseB
  rw [if_neg (by rw [h.isa]; simp), if_neg (by have := printL_len h hm hc hrl hhl h16; omega), hrun]
  show (if 0 < ([] : List UInt8).length then _ else _) = _
  rw [if_neg (by simp), ← bodyE_p hrl hhl, if_pos he]
theorem fieldP_f (f g : List UInt8 → Int) (i : Nat) (hi : i < 11) (x : BodyP) (l : List UInt8) : fieldP f i x l = fieldP g i x l := by
  rcases (by omega : i = 0 ∨ i = 1 ∨ i = 2 ∨ i = 3 ∨ i = 4 ∨ i = 5 ∨ i = 6 ∨ i = 7 ∨ i = 8 ∨ i = 9 ∨ i = 10) with rfl | rfl | rfl | rfl | rfl | rfl | rfl | rfl | rfl | rfl | rfl <;> simp only [fieldP, reduceIte, Nat.reduceEqDiff]
theorem runP_f (f g : List UInt8 → Int) : ∀ (s : List Nat) (x : BodyP) (l : List UInt8), (∀ i ∈ s, i < 11) → runP f s x l = runP g s x l
  | [], _, _, _ => rfl
  | i :: s, x, l, h => by
    rw [runP, runP, fieldP_f f g i (h i (by simp))]
    cases fieldP g i x l with
    | none => rfl
    | some p => exact runP_f f g s p.1 p.2 (fun j hj => h j (by simp [hj]))
/-- a count that is out of range, whatever it is, is the same error -/
theorem count_out {x : BodyP} {m n : Int} (hm : outB m 0 65536 = true) (hn : outB n 0 65536 = true) : bodyEP 12 { x with count := m } = bodyEP 12 { x with count := n } ∧ bodyEP 12 { x with count := m } ≠ 0 := by
  have hx : ∀ k : Int, extraB (({ x with count := k } : BodyP).r) (needsL 12) = extraB (({ x with count := 0 } : BodyP).r) (needsL 12) := fun k => by
    rfl
  have hr : ∀ k : Int, outB k 0 65536 = true → rangeB 12 (({ x with count := k } : BodyP).r) = true := fun k hk => by
    unfold rangeB
    rw [show (({ x with count := k } : BodyP).r).count = k from rfl, hk, Bool.or_true]
  have key : ∀ k : Int, outB k 0 65536 = true → bodyEP 12 { x with count := k } = if extraB (({ x with count := 0 } : BodyP).r) (needsL 12) then 2
      else if decide (32768 < x.text.size) || (decide (16 < x.roles.length) || decide (32 < x.holders.length)) then 5
      else if rolesE x.roles != 0 then rolesE x.roles else if needAt 12 3 && !isNameL x.label.data.toList then 6 else 4 := fun k hk => by
    unfold bodyEP bodyE
    rw [hx k, hr k hk]
    rfl
  rw [key m hm, key n hn]
  refine ⟨rfl, ?_⟩
  split
  · decide
  · split
    · decide
    · split
      · rename_i h; simpa using h
      · split <;> decide
theorem run12 (f : List UInt8 → Int) (l : List UInt8) : runP f [10, 11, 4] zeroP l = (octP l).bind fun p => (takeP 8 p.2).bind fun q => (takeP 32 q.2).map fun u => (({ ({ zeroP with version := (p.1 : Int), commit := u.1 } : BodyP) with count := f q.1 } : BodyP), u.2) := by
  show ((octP l).map _).bind _ = _
  cases octP l with
  | none => rfl
  | some p =>
    show (((takeP 8 p.2).map _).map _).bind _ = (takeP 8 p.2).bind _
    cases takeP 8 p.2 with
    | none => rfl
    | some q =>
      show (((takeP 32 q.2).map _).bind _) = (takeP 32 q.2).map _
      cases takeP 32 q.2 <;> rfl
theorem takeP_len {n : Nat} {l : List UInt8} {p : List UInt8 × List UInt8} (h : takeP n l = some p) : p.1.length = n := by
  unfold takeP at h
  split at h
  · cases h
  · injection h with h
    rw [← h, List.length_take]; omega
/-- both parsers say the same -/
theorem parse_same (act : Int) (l : List UInt8) : parseB lcountF act l = parseB rcountF act l := by
  unfold parseB
  by_cases ha : lactB act = false
  · rw [if_pos ha, if_pos ha]
  · rw [if_neg ha, if_neg ha]
    by_cases hl : 32768 < l.length
    · rw [if_pos hl, if_pos hl]
    · rw [if_neg hl, if_neg hl]
      by_cases h12 : act = 12
      · subst h12
        show (match runP lcountF [10, 11, 4] zeroP l with | none => _ | some (x, rest) => _) = (match runP rcountF [10, 11, 4] zeroP l with | none => _ | some (x, rest) => _)
        rw [run12, run12]
        cases octP l with
        | none => rfl
        | some p =>
          simp only [Option.bind_some]
          cases hq : takeP 8 p.2 with
          | none => rfl
          | some q =>
            simp only [Option.bind_some]
            cases takeP 32 q.2 with
            | none => rfl
            | some u =>
              simp only [Option.map_some]
              by_cases hr : 0 < u.2.length
              · rw [if_pos hr, if_pos hr]
              · rw [if_neg hr, if_neg hr]
                have hq8 := takeP_len hq
                have hnat : natOf q.1 = long8 q.1 0 := by
                  have := natOf_8 (l := q.1) (p := 0) (by omega)
                  rw [List.drop_zero, List.take_of_length_le (by omega)] at this; exact this
                by_cases hc : long8 q.1 0 ≤ 4611686018427387904
                · have h1 : lcountF q.1 = rcountF q.1 := by
                    unfold lcountF rcountF
                    rw [if_pos hc, hnat, w64_small (by omega)]
                  rw [h1]
                · have h1 : outB (lcountF q.1) 0 65536 = true := by
                    unfold lcountF outB
                    rw [if_neg hc]; decide
                  have h2 : outB (rcountF q.1) 0 65536 = true := by
                    have hlt := long8_lt q.1 0
                    unfold rcountF outB w64
                    rw [hnat, IntKind.wrap_i64]
                    generalize long8 q.1 0 = M at *
                    simp only [Bool.or_eq_true, decide_eq_true_eq]
                    omega
                  obtain ⟨h3, h4⟩ := count_out (x := { zeroP with version := (p.1 : Int), commit := u.1 }) h1 h2
                  rw [if_neg h4, if_neg (by rw [← h3]; exact h4), h3]
      · have hs : ∀ i ∈ seqOf act, i < 11 := by
          have ha' : lactB act = true := by simpa using ha
          rcases acts12 ha' with rfl | rfl | rfl | rfl | rfl | rfl | rfl | rfl | rfl | rfl | rfl | rfl
          all_goals first | decide | exact absurd rfl h12
        rw [runP_f lcountF rcountF (seqOf act) zeroP l hs]
end

section
open Go Go.RowKit

set_option maxRecDepth 100000 in
set_option maxHeartbeats 1000000 in
theorem eqStrs_c (ls : List ByteArray) (a b : Option Addr) (n c d : Nat) (w : World) (hl : ls.length = n) (hn : n ≤ 140737488355328) (ha : Cells w a (ls.map encStr)) (hb : Cells w b (ls.map encStr)) :
    Calls Try.prog 88 #[.slice a n c, .slice b n d] w fun e w' => e = .returned (.bool true) ∧ Ext w w' := by
  have HL := hid hl
  have HA := hid ha
  have HB := hid hb
  clear hl ha hb
  go_enter Try.func88, Try.ntmps88
  go_wp2_with fail
  go_loopw [13] (fun i wr => ∃ k : Nat, k ≤ n ∧ i = .int .i64 (k : Int) ∧ Ext w wr) (fun i _ => n - (intOf i).toNat)
  case atStart => exact ⟨0, by omega, rfl, Ext.refl _⟩
  case round =>
    obtain ⟨k, hk, rfl, e1⟩ := hrel
    have E1 := hid e1
    clear e1
    by_cases hlt : k < n
    · have d1 : decide ((k : Int) < (n : Int)) = true := decide_eq_true (by omega)
      have d2 : decide (k < n) = true := decide_eq_true hlt
      have HL2 := HL.out
      obtain ⟨x, hxk⟩ : ∃ x, ls[k]? = some x := ⟨ls[k]'(by omega), List.getElem?_eq_getElem _⟩
      obtain ⟨A, rfl, hca⟩ := strs_at HA.out hxk
      obtain ⟨A2, rfl, hcb⟩ := strs_at HB.out hxk
      have CA := hid (cell_extU hca E1.out)
      have CB := hid (cell_extU hcb E1.out)
      clear hca hcb hxk HL2
      go_upto_region 6 with (fail)
      obtain ⟨C, hC⟩ : ∃ C : World → Prop, C = fun w' => Ext wr w' := ⟨_, rfl⟩
      have hC0 : ∀ w', C w' ↔ Ext wr w' := fun w' => by rw [hC]
      clear hC
      have HCC := hid hC0
      clear hC0
      have hCx : ∀ w w', C w → Ext w w' → C w' := fun w w' h1 h2 => (HCC.out w').2 (((HCC.out w).1 h1).ext h2)
      refine wp_region_held_drew (S := C) (by kernel_rfl) ((HCC.out _).2 (Ext.refl wr).drew) (fun hS0 => ?_)
      refine held_take 0 (v := ?tv1) rfl (by kernel_rfl) (by kernel_rfl) (by kernel_rfl) (fun _ _ _ h => h) (.inl ⟨rfl, ?ty1⟩) hS0 ?tr1
      case ty1 => (intro _ _; go_simp; try with_reducible rfl)
      case tr1 =>
      simp only [Act.put, List.setIfInBounds_toArray, List.set_cons_succ, List.set_cons_zero]
      refine held_take 1 (v := ?tv2) rfl (by kernel_rfl) (by kernel_rfl) (by kernel_rfl) (fun _ _ _ h => h) (.inl ⟨rfl, ?ty2⟩) hS0 ?tr2
      case ty2 => (intro _ _; go_simp; try with_reducible rfl)
      case tr2 =>
      simp only [Act.put, List.setIfInBounds_toArray, List.set_cons_succ, List.set_cons_zero]
      refine held_take 2 (v := _) rfl (by kernel_rfl) (by kernel_rfl) (by kernel_rfl) (fun _ _ _ h => h) (yieldsI_run rfl (fun w1 _ => exec_index (i := k) rfl rfl rfl Try.underlying69 size_str hlt w1)) hS0 ?_
      simp only [Act.put, List.setIfInBounds_toArray, List.set_cons_succ, List.set_cons_zero]
      refine held_take 3 (v := _) rfl (by kernel_rfl) (by kernel_rfl) (by kernel_rfl) (fun _ _ _ h => h) (yieldsI_run rfl (fun w1 h => exec_load_oneU rfl rfl (cell_extU CA.out ((HCC.out w1).1 h)) one_str)) hS0 ?_
      simp only [Act.put, List.setIfInBounds_toArray, List.set_cons_succ, List.set_cons_zero]
      refine held_take 4 (v := ?tv3) rfl (by kernel_rfl) (by kernel_rfl) (by kernel_rfl) (fun _ _ _ h => h) (.inl ⟨rfl, ?ty3⟩) hS0 ?tr3
      case ty3 => (intro _ _; go_simp; try with_reducible rfl)
      case tr3 =>
      simp only [Act.put, List.setIfInBounds_toArray, List.set_cons_succ, List.set_cons_zero]
      refine held_take 5 (v := ?tv4) rfl (by kernel_rfl) (by kernel_rfl) (by kernel_rfl) (fun _ _ _ h => h) (.inl ⟨rfl, ?ty4⟩) hS0 ?tr4
      case ty4 => (intro _ _; go_simp; try with_reducible rfl)
      case tr4 =>
      simp only [Act.put, List.setIfInBounds_toArray, List.set_cons_succ, List.set_cons_zero]
      refine held_take 6 (v := _) rfl (by kernel_rfl) (by kernel_rfl) (by kernel_rfl) (fun _ _ _ h => h) (yieldsI_run rfl (fun w1 _ => exec_index (i := k) rfl rfl rfl Try.underlying69 size_str hlt w1)) hS0 ?_
      simp only [Act.put, List.setIfInBounds_toArray, List.set_cons_succ, List.set_cons_zero]
      refine held_take 7 (v := _) rfl (by kernel_rfl) (by kernel_rfl) (by kernel_rfl) (fun _ _ _ h => h) (yieldsI_run rfl (fun w1 h => exec_load_oneU rfl rfl (cell_extU CB.out ((HCC.out w1).1 h)) one_str)) hS0 ?_
      simp only [Act.put, List.setIfInBounds_toArray, List.set_cons_succ, List.set_cons_zero]
      refine held_take 8 (v := ?tv5) rfl (by kernel_rfl) (by kernel_rfl) (by kernel_rfl) (fun _ _ _ h => h) (.inl ⟨rfl, ?ty5⟩) hS0 ?tr5
      case ty5 => (intro _ _; go_simp; try with_reducible rfl)
      case tr5 =>
      simp only [Act.put, List.setIfInBounds_toArray, List.set_cons_succ, List.set_cons_zero]
      refine wpAnyH_done (by kernel_rfl) ?_ _
      have hqx := (HCC.out _).1 hS0
      go_wp2_with fail
      go_roundw
      case rel => exact ⟨k + 1, by omega, by go_num, E1.out.ext hqx⟩
      case measure => simp [intOf]; omega
    · have d1 : decide ((k : Int) < (n : Int)) = false := decide_eq_false (by omega)
      have d2 : decide (k < n) = false := decide_eq_false hlt
      go_wp2_with fail
      go_ret
      exact ⟨rfl, E1.out⟩

theorem neq_self_id (x : List UInt8) (hx : x.length = 16) (w : World) : (binOp .neq 68 (.agg (x.map u8v).toArray) (.agg (x.map u8v).toArray)).run Try.prog w = .ok (.bool false) w := by
  have h := neq_arr Try.underlying68 x x hx hx w
  rw [beq_self_eq_true] at h; exact h

set_option maxRecDepth 100000 in
set_option maxHeartbeats 1000000 in
theorem eqIds_c (ls : List (List UInt8)) (a b : Option Addr) (n c d : Nat) (w : World) (hl : ls.length = n) (hn : n ≤ 140737488355328) (h16 : All16 ls) (ha : Cells w a (rows ls)) (hb : Cells w b (rows ls)) :
    Calls Try.prog 89 #[.slice a n c, .slice b n d] w fun e w' => e = .returned (.bool true) ∧ Ext w w' := by
  have HL := hid hl
  have HA := hid ha
  have HB := hid hb
  clear hl ha hb
  go_enter Try.func89, Try.ntmps89
  go_wp2_with fail
  go_loopw [13] (fun i wr => ∃ k : Nat, k ≤ n ∧ i = .int .i64 (k : Int) ∧ Ext w wr) (fun i _ => n - (intOf i).toNat)
  case atStart => exact ⟨0, by omega, rfl, Ext.refl _⟩
  case round =>
    obtain ⟨k, hk, rfl, e1⟩ := hrel
    have E1 := hid e1
    clear e1
    by_cases hlt : k < n
    · have d1 : decide ((k : Int) < (n : Int)) = true := decide_eq_true (by omega)
      have d2 : decide (k < n) = true := decide_eq_true hlt
      have HL2 := HL.out
      obtain ⟨x, hxk⟩ : ∃ x, ls[k]? = some x := ⟨ls[k]'(by omega), List.getElem?_eq_getElem _⟩
      have hx := h16 x (List.mem_of_getElem? hxk)
      obtain ⟨A, rfl, hra⟩ := row16_at HA.out h16 hxk
      obtain ⟨A2, rfl, hrb⟩ := row16_at HB.out h16 hxk
      have CA := hid ((hra k x hxk).ext E1.out)
      have CB := hid ((hrb k x hxk).ext E1.out)
      have HXL := hid (show (x.map u8v).length = 16 by rw [List.length_map]; exact hx)
      have NE := hid (neq_self_id x hx)
      clear hra hrb hxk HL2 hx
      go_upto_region 6 with (fail)
      obtain ⟨C, hC⟩ : ∃ C : World → Prop, C = fun w' => Ext wr w' := ⟨_, rfl⟩
      have hC0 : ∀ w', C w' ↔ Ext wr w' := fun w' => by rw [hC]
      clear hC
      have HCC := hid hC0
      clear hC0
      have hCx : ∀ w w', C w → Ext w w' → C w' := fun w w' h1 h2 => (HCC.out w').2 (((HCC.out w).1 h1).ext h2)
      refine wp_region_held_drew (S := C) (by kernel_rfl) ((HCC.out _).2 (Ext.refl wr).drew) (fun hS0 => ?_)
      refine held_take 0 (v := ?tv6) rfl (by kernel_rfl) (by kernel_rfl) (by kernel_rfl) (fun _ _ _ h => h) (.inl ⟨rfl, ?ty6⟩) hS0 ?tr6
      case ty6 => (intro _ _; go_simp; try with_reducible rfl)
      case tr6 =>
      simp only [Act.put, List.setIfInBounds_toArray, List.set_cons_succ, List.set_cons_zero]
      refine held_take 1 (v := ?tv7) rfl (by kernel_rfl) (by kernel_rfl) (by kernel_rfl) (fun _ _ _ h => h) (.inl ⟨rfl, ?ty7⟩) hS0 ?tr7
      case ty7 => (intro _ _; go_simp; try with_reducible rfl)
      case tr7 =>
      simp only [Act.put, List.setIfInBounds_toArray, List.set_cons_succ, List.set_cons_zero]
      refine held_take 2 (v := _) rfl (by kernel_rfl) (by kernel_rfl) (by kernel_rfl) (fun _ _ _ h => h) (yieldsI_run rfl (fun w1 _ => exec_index (i := k) rfl rfl rfl Try.underlying70 size_id hlt w1)) hS0 ?_
      simp only [Act.put, List.setIfInBounds_toArray, List.set_cons_succ, List.set_cons_zero]
      refine held_take 3 (v := _) rfl (by kernel_rfl) (by kernel_rfl) (by kernel_rfl) (fun _ _ _ h => h) (yieldsI_run rfl (fun w1 h => exec_load_at rfl rfl (CA.out.ext ((HCC.out w1).1 h)) agg_id HXL.out)) hS0 ?_
      simp only [Act.put, List.setIfInBounds_toArray, List.set_cons_succ, List.set_cons_zero]
      refine held_take 4 (v := ?tv8) rfl (by kernel_rfl) (by kernel_rfl) (by kernel_rfl) (fun _ _ _ h => h) (.inl ⟨rfl, ?ty8⟩) hS0 ?tr8
      case ty8 => (intro _ _; go_simp; try with_reducible rfl)
      case tr8 =>
      simp only [Act.put, List.setIfInBounds_toArray, List.set_cons_succ, List.set_cons_zero]
      refine held_take 5 (v := ?tv9) rfl (by kernel_rfl) (by kernel_rfl) (by kernel_rfl) (fun _ _ _ h => h) (.inl ⟨rfl, ?ty9⟩) hS0 ?tr9
      case ty9 => (intro _ _; go_simp; try with_reducible rfl)
      case tr9 =>
      simp only [Act.put, List.setIfInBounds_toArray, List.set_cons_succ, List.set_cons_zero]
      refine held_take 6 (v := _) rfl (by kernel_rfl) (by kernel_rfl) (by kernel_rfl) (fun _ _ _ h => h) (yieldsI_run rfl (fun w1 _ => exec_index (i := k) rfl rfl rfl Try.underlying70 size_id hlt w1)) hS0 ?_
      simp only [Act.put, List.setIfInBounds_toArray, List.set_cons_succ, List.set_cons_zero]
      refine held_take 7 (v := _) rfl (by kernel_rfl) (by kernel_rfl) (by kernel_rfl) (fun _ _ _ h => h) (yieldsI_run rfl (fun w1 h => exec_load_at rfl rfl (CB.out.ext ((HCC.out w1).1 h)) agg_id HXL.out)) hS0 ?_
      simp only [Act.put, List.setIfInBounds_toArray, List.set_cons_succ, List.set_cons_zero]
      refine held_take 8 (v := _) rfl (by kernel_rfl) (by kernel_rfl) (by kernel_rfl) (fun _ _ _ h => h) (yieldsI_run rfl (fun w1 _ => exec_cmpE rfl rfl rfl guard_id NE.out w1)) hS0 ?_
      simp only [Act.put, List.setIfInBounds_toArray, List.set_cons_succ, List.set_cons_zero]
      refine wpAnyH_done (by kernel_rfl) ?_ _
      have hqx := (HCC.out _).1 hS0
      go_wp2_with fail
      go_roundw
      case rel => exact ⟨k + 1, by omega, by go_num, E1.out.ext hqx⟩
      case measure => simp [intOf]; omega
    · have d1 : decide ((k : Int) < (n : Int)) = false := decide_eq_false (by omega)
      have d2 : decide (k < n) = false := decide_eq_false hlt
      go_wp2_with fail
      go_ret
      exact ⟨rfl, E1.out⟩
end

section
open Go Go.RowKit

theorem eq_self_arr {t : TypeId} {n : Nat} (ht : Try.prog.underlying t = some (.array n 5)) (x : List UInt8) (hx : x.length = n) (w : World) : (binOp .eql t (.agg (x.map u8v).toArray) (.agg (x.map u8v).toArray)).run Try.prog w = .ok (.bool true) w := by
  have h := eq_arr ht x x hx hx w
  rw [beq_self_eq_true] at h; exact h

set_option maxRecDepth 100000 in
set_option maxHeartbeats 4000000 in
theorem sameBody_c (x y : BodyR) (w : World) (hx : x.Ok w) (hy : y.Ok w) (hp : x.p = y.p) :
    Calls Try.prog 40 #[.agg x.v.toArray, .agg y.v.toArray] w fun e w' => e = .returned (.bool true) ∧ Ext w w' := by
  have p0 : y.text = x.text := (congrArg BodyP.text hp).symm
  have p1 : y.member = x.member := (congrArg BodyP.member hp).symm
  have p2 : y.roles = x.roles := (congrArg BodyP.roles hp).symm
  have p3 : y.label = x.label := (congrArg BodyP.label hp).symm
  have p4 : y.commit = x.commit := (congrArg BodyP.commit hp).symm
  have p5 : y.epoch = x.epoch := (congrArg BodyP.epoch hp).symm
  have p6 : y.purpose = x.purpose := (congrArg BodyP.purpose hp).symm
  have p7 : y.reason = x.reason := (congrArg BodyP.reason hp).symm
  have p8 : y.need = x.need := (congrArg BodyP.need hp).symm
  have p9 : y.holders = x.holders := (congrArg BodyP.holders hp).symm
  have p10 : y.version = x.version := (congrArg BodyP.version hp).symm
  have p11 : y.count = x.count := (congrArg BodyP.count hp).symm
  have hn : y.rn = x.rn := by rw [← hx.rl, ← hy.rl, p2]
  have hh : y.hn = x.hn := by rw [← hx.hl, ← hy.hl, p9]
  have HX := hid hx
  have HY := hid hy
  clear hx hy hp
  have s1 : (x.text.toList == x.text.toList) = true := beq_self_eq_true _
  have s2 : (x.label.toList == x.label.toList) = true := beq_self_eq_true _
  have s3 : (x.epoch == x.epoch) = true := beq_self_eq_true _
  have s4 : (x.purpose == x.purpose) = true := beq_self_eq_true _
  have s5 : (x.reason == x.reason) = true := beq_self_eq_true _
  have s6 : (x.need == x.need) = true := beq_self_eq_true _
  have s7 : (x.version == x.version) = true := beq_self_eq_true _
  have s8 : (x.count == x.count) = true := beq_self_eq_true _
  go_enter Try.func40, Try.ntmps40
  go_upto_region 1 with (fail)
  generalize hwA : World.alloc (World.alloc w _) _ = wA
  have xA : Blk wA w.heap.size x.v 72 := by rw [← hwA]; exact (Blk.mk_alloc rfl rfl).alloc _
  have yA : Blk wA (w.heap.size + 1) y.v 72 := by rw [← hwA]; exact Blk.mk_alloc (size_alloc _ _).symm rfl
  have eA : Ext w wA := by rw [← hwA]; exact ((Ext.refl w).alloc _).alloc _
  have HXA := hid (HX.out.ext eA)
  have HYA := hid (HY.out.ext eA)
  have EA := hid eA
  have XA := hid xA
  have YA := hid yA
  clear hwA xA yA eA
  simp only [List.append_eq, List.cons_append, List.nil_append]
  have x0 := XA.out.cell' (BodyR.at0 x)
  have x18 := XA.out.cell' (BodyR.at18 HX.out)
  have y0 := YA.out.cell' (BodyR.at0 y)
  have y18 := YA.out.cell' (BodyR.at18 HY.out)
  have x17 := XA.out.cell' (BodyR.at17 HX.out)
  have y17 := YA.out.cell' (BodyR.at17 HY.out)
  rw [p0] at y0
  rw [p3] at y18
  rw [hn] at y17
  have CXM := hid (BodyR.memb HXA.out XA.out)
  have cym := BodyR.memb HYA.out YA.out
  rw [p1] at cym
  have CYM := hid cym
  have hm16 := HX.out.hm
  have HML := hid (show (x.member.map u8v).length = 16 by rw [List.length_map]; exact hm16)
  have HCL := hid (show (x.commit.map u8v).length = 32 by rw [List.length_map]; exact HX.out.hcm)
  have EQM := hid (eq_self_arr Try.underlying68 x.member hm16)
  have EQC := hid (eq_self_arr Try.underlying32 x.commit HX.out.hcm)
  have hcr := HYA.out.rcell
  have hch := HYA.out.hcell
  rw [p2] at hcr
  rw [p9] at hch
  have HCR := hid hcr
  have HCH := hid hch
  have P4 := hid p4
  have P3 := hid p3
  have P5 := hid p5
  have P6 := hid p6
  have P7 := hid p7
  have P8 := hid p8
  have P10 := hid p10
  have P11 := hid p11
  have HH := hid hh
  clear p0 p1 p2 p3 p4 p5 p6 p7 p8 p9 p10 p11 hn hh cym hm16 hcr hch
  go_wp2_with (first | (refine wpg_run rfl (exec_load_at rfl rfl CXM.out agg_id HML.out) ?_) | (refine wpg_run rfl (exec_load_at rfl rfl CYM.out agg_id HML.out) ?_) | (refine wpg_run rfl (exec_cmpE rfl rfl rfl guard_id EQM.out _) ?_))
  refine (eqStrs_c x.roles x.ra y.ra x.rn x.rc y.rc wA HX.out.rl HX.out.rm HXA.out.rcell HCR.out).mono ?_
  rintro e wB ⟨rfl, eB⟩
  have XB := hid (XA.out.ext eB)
  have YB := hid (YA.out.ext eB)
  have EB := hid (EA.out.ext eB)
  have HXB := hid (HXA.out.ext eB)
  have HYB := hid (HYA.out.ext eB)
  have hchB := HCH.out.ext eB
  have HCHB := hid hchB
  clear eB x0 y0 x17 y17 x18 y18 XA YA EA HCR HCH hchB
  have x18 := XB.out.cell' (BodyR.at18 HX.out)
  have x51 := XB.out.cell' (BodyR.at51 HX.out)
  have x52 := XB.out.cell' (BodyR.at52 HX.out)
  have x53 := XB.out.cell' (BodyR.at53 HX.out)
  have x54 := XB.out.cell' (BodyR.at54 HX.out)
  have x55 := XB.out.cell' (BodyR.at55 HX.out)
  have x56 := XB.out.cell' (BodyR.at56 HX.out)
  have x57 := XB.out.cell' (BodyR.at57 HX.out)
  have y18 := YB.out.cell' (BodyR.at18 HY.out)
  have y51 := YB.out.cell' (BodyR.at51 HY.out)
  have y52 := YB.out.cell' (BodyR.at52 HY.out)
  have y53 := YB.out.cell' (BodyR.at53 HY.out)
  have y54 := YB.out.cell' (BodyR.at54 HY.out)
  have y55 := YB.out.cell' (BodyR.at55 HY.out)
  have y56 := YB.out.cell' (BodyR.at56 HY.out)
  have y57 := YB.out.cell' (BodyR.at57 HY.out)
  rw [P5.out] at y51
  rw [P6.out] at y52
  rw [P7.out] at y53
  rw [P8.out] at y54
  rw [P10.out] at y55
  rw [P11.out] at y56
  rw [HH.out] at y57
  have CXC := hid (BodyR.comm HXB.out XB.out)
  have cyc := BodyR.comm HYB.out YB.out
  rw [P4.out] at cyc
  have CYC := hid cyc
  clear cyc
  have hlab := P3.out
  rw [hlab] at y18
  clear hlab
  go_wp2_with (first | (refine wpg_run rfl (exec_load_at rfl rfl CXC.out agg_apisum HCL.out) ?_) | (refine wpg_run rfl (exec_load_at rfl rfl CYC.out agg_apisum HCL.out) ?_) | (refine wpg_run rfl (exec_cmpE rfl rfl rfl guard_sum EQC.out _) ?_))
  refine (eqIds_c x.holders x.ha y.ha x.hn x.hc y.hc wB HX.out.hl HX.out.hcmax HX.out.h16 HXB.out.hcell HCHB.out).mono ?_
  rintro e wC ⟨rfl, eC⟩
  have EC := hid (EB.out.ext eC)
  clear eC
  go_wp2_with fail
  go_ret
  exact ⟨rfl, EC.out⟩
end

section
open Go Go.RowKit

/-- below B just block g may have turned -/
structure Tch (B g : Nat) (w w' : World) : Prop where
  os : w'.os = w.os
  tape : w'.tape = w.tape
  output : w'.output = w.output
  size : w.heap.size ≤ w'.heap.size
  block : ∀ k, k < B → k ≠ g → w'.heap[k]? = w.heap[k]?
theorem Tch.refl (B g : Nat) (w : World) : Tch B g w w := ⟨rfl, rfl, rfl, Nat.le_refl _, fun _ _ _ => rfl⟩
theorem Tch.trans {B g : Nat} {a b c : World} (h : Tch B g a b) (k : Tch B g b c) : Tch B g a c := ⟨k.os.trans h.os, k.tape.trans h.tape, k.output.trans h.output, Nat.le_trans h.size k.size, fun i hi hn => (k.block i hi hn).trans (h.block i hi hn)⟩
theorem Tch.below {B g : Nat} {a b : World} (h : Below B a b) : Tch B g a b := ⟨h.os, h.tape, h.output, h.size, fun k hk _ => h.block k hk⟩
theorem Tch.upd {B g : Nat} {a b : World} (h : Upd a g b) : Tch B g a b := ⟨h.os, h.tape, h.output, by rw [h.size]; exact Nat.le_refl _, fun k _ hn => h.block k hn⟩
theorem Tch.blk {B g k : Nat} {w w' : World} {vs : List Value} {T : TypeId} (h : Tch B g w w') (hk : k < B) (hn : k ≠ g) (hb : Blk w k vs T) : Blk w' k vs T := by
  unfold Blk at *; rw [h.block k hk hn]; exact hb
abbrev ST : TypeId := 28
theorem one_st : OneT Try.prog ST := ⟨⟨_, Try.underlying28, rfl⟩, by kernel_rfl⟩

set_option maxRecDepth 100000 in
set_option maxHeartbeats 2000000 in
theorem text81_c (l : List UInt8) (s : ByteArray) (v : Value) (n B g : Nat) (w : World) (own : OwnM w B v n l) (hb : Blk w g [v] ST) (hg : g < B) (hB : B ≤ w.heap.size) (hn : n + s.size + 1 ≤ 140737488355328) :
    Calls Try.prog 81 #[.string s, .pointer (some ⟨g, 0, none⟩)] w fun e w' => ∃ v', e = .returned (.tuple #[]) ∧ OwnM w' B v' (n + (s.size + 1)) (l ++ textL s) ∧ Blk w' g [v'] ST ∧ Tch B g w w' := by
  obtain ⟨av, cv, rfl, hnc, hcm, hn0, -⟩ := own.slice
  obtain ⟨o, ho⟩ : ∃ o : UInt8, UInt8.ofNat s.size = o := ⟨_, rfl⟩
  have hw := wrap_u8_nat s.size
  have htl : textL s = o :: s.data.toList := by unfold textL; rw [ho]
  rw [ho] at hw
  have HTL := hid htl
  clear htl ho
  obtain ⟨N, hN⟩ : ∃ N, s.size = N := ⟨_, rfl⟩
  have HN := hid hN
  rw [hN] at hw
  have zB : Blk (w.alloc (.cells #[.int .u8 o.toNat] 5)) w.heap.size (([o] : List UInt8).map u8v) 5 := Blk.mk_alloc rfl rfl
  have eB : Ext w (w.alloc (.cells #[.int .u8 o.toNat] 5)) := (Ext.refl w).alloc _
  have ZB := hid zB
  have O1 := hid (own.ext eB)
  have E1 := hid ((Below.refl B w).alloc hB (.cells #[.int .u8 o.toNat] 5))
  have hb1' : B ≤ (w.alloc (.cells #[.int .u8 o.toNat] 5)).heap.size := Nat.le_trans hB eB.size
  have kv := hb.cell' (i := 0) (v := .slice av n cv) rfl
  have HB := hid hb
  clear zB eB own hnc hcm hn0 hb
  go_enter Try.func81, Try.ntmps81
  go_wp2_with (first | (at_builtin; refine wpl_appendM rfl _ _ rfl B (ys := [o]) rfl rfl O1.out rfl (news_blk ZB.out) (by omega) hb1' ?_))
  intro v3 w3 own3 g3
  have O3 := hid own3
  have hv3 := O1.out.block_ge
  have E3 := hid (E1.out.grown g3 hb1' (by intro q hq; exact hv3 _ hq))
  have hb3 : B ≤ w3.heap.size := Nat.le_trans hb1' g3.size
  clear own3 g3 hv3 O1 E1 ZB kv
  go_wp2_with (first | (at_builtin; refine wpl_appendMS rfl _ _ rfl B rfl rfl O3.out (by omega) hb3 ?_))
  intro v4 w4 own4 g4
  have own4' : OwnM w4 B v4 (n + (N + 1)) (l ++ textL s) := by
    rw [HTL.out, show n + (N + 1) = n + 1 + N by omega]
    exact own4
  have hv4 := O3.out.block_ge
  have E4 := hid (E3.out.grown g4 hb3 (by intro q hq; exact hv4 _ hq))
  have O4 := hid own4'
  clear own4 own4' g4 hv4 O3 E3
  have hb4 := Below.blkB E4.out hg HB.out
  have kb := hb4.cell' (i := 0) (v := .slice av n cv) rfl
  have fb := hb4.frozen 0
  obtain ⟨a6, c6, rfl, -, -, -, -⟩ := O4.out.slice
  have HB4 := hid hb4
  clear hb4
  go_wp2_with fail
  generalize hwC : World.setCell w4 _ _ = wC
  have bC : Blk wC g [.slice a6 (n + (N + 1)) c6] ST := by rw [← hwC]; exact HB4.out.set 0 (.slice a6 (n + (N + 1)) c6)
  have uC : Upd w4 g wC := by rw [← hwC]; exact Upd.setCell _
  have hfin : OwnM wC B (.slice a6 (n + (N + 1)) c6) (n + (s.size + 1)) (l ++ textL s) := by rw [HN.out]; exact O4.out.turn fun i hi _ => uC.block i (by omega)
  have htc : Tch B g w wC := (Tch.below E4.out).trans (Tch.upd uC)
  have HFIN := hid hfin
  have HTC := hid htc
  have HBC := hid bC
  clear hfin htc bC uC hwC kb fb
  go_end0
  exact ⟨_, rfl, HFIN.out, HBC.out, HTC.out⟩

set_option maxRecDepth 100000 in
set_option maxHeartbeats 1000000 in
theorem truth_c (b : Bool) (w : World) : Calls Try.prog 84 #[.bool b] w fun e w' => e = .returned (.int .i64 (if b then 1 else 0)) ∧ w = w' := by
  cases b <;> (
    go_enter Try.func84, Try.ntmps84
    go_wp2
    go_ret
    exact ⟨rfl, rfl⟩)
/-- what holds between the letters -/
structure PRInv (w0 : World) (gb gi B : Nat) (us : ByteArray) (b : BodyR) (N : Nat) (sq : List Nat) (w : World) (v : Value) : Prop where
  body : Blk w w0.heap.size b.v 72
  var : Blk w gb [v] ST
  own : OwnM w B v (printL sq b.p).length (printL sq b.p)
  len : (printL sq b.p).length ≤ N * sq.length
  ext : Ext w0 w
  le : B ≤ w.heap.size
  it : w.heap[gi]? = some (.stringIter us sq.length)
structure PRMid (w0 : World) (gb gi B : Nat) (us : ByteArray) (b : BodyR) (N : Nat) (sq : List Nat) (w : World) (v : Value) : Prop where
  body : Blk w w0.heap.size b.v 72
  var : Blk w gb [v] ST
  own : OwnM w B v (printL sq b.p).length (printL sq b.p)
  len : (printL sq b.p).length ≤ N * sq.length
  ext : Ext w0 w
  le : B ≤ w.heap.size
  it : w.heap[gi]? = some (.stringIter us (sq.length + 1))
section
variable {w0 : World} {gb gi B N i m : Nat} {us : ByteArray} {b : BodyR} {sq : List Nat} {w w2 : World} {v v3 : Value}
theorem PRInv.next (h : PRInv w0 gb gi B us b N sq w v) (h0 : w0.heap.size ≠ gi) (hb : gb ≠ gi) (hi0 : w0.heap.size ≤ gi) (hB : gi < B) (u : ∀ k, k ≠ gi → w2.heap[k]? = w.heap[k]?) (hs : w2.heap.size = w.heap.size) (ho : w2.os = w.os ∧ w2.tape = w.tape ∧ w2.output = w.output) (hi : w2.heap[gi]? = some (.stringIter us (sq.length + 1))) : PRMid w0 gb gi B us b N sq w2 v where
  body := by unfold Blk; rw [u _ h0]; exact h.body
  var := by unfold Blk; rw [u _ hb]; exact h.var
  own := h.own.turn fun k hk _ => u k (by omega)
  len := h.len
  ext := ⟨ho.1.trans h.ext.os, ho.2.1.trans h.ext.tape, ho.2.2.trans h.ext.output, by have := h.ext.size; omega, fun k hk => (u k (by omega)).trans (h.ext.block k hk)⟩
  le := by rw [hs]; exact h.le
  it := hi
theorem PRMid.next (h : PRMid w0 gb gi B us b N sq w v) (h0 : w0.heap.size < gb) (hgi : gi ≠ gb) (h0B : w0.heap.size < B) (hiB : gi < B) (t : Tch B gb w w2) (hv : Blk w2 gb [v3] ST) (own : OwnM w2 B v3 m (printL sq b.p ++ fieldL i b.p)) (hf : (fieldL i b.p).length ≤ N) : PRInv w0 gb gi B us b N (sq ++ [i]) w2 v3 where
  body := t.blk h0B (by omega) h.body
  var := hv
  own := by
    have hm := own.1
    rw [printL_snoc]; rw [hm]; exact own
  len := by
    have := h.len
    rw [printL_snoc, List.length_append, List.length_append, List.length_singleton, Nat.mul_add, Nat.mul_one]; omega
  ext := ⟨t.os.trans h.ext.os, t.tape.trans h.ext.tape, t.output.trans h.ext.output, Nat.le_trans h.ext.size t.size, fun k hk => (t.block k (by omega) (by omega)).trans (h.ext.block k hk)⟩
  le := Nat.le_trans h.le t.size
  it := by rw [t.block gi hiB hgi, h.it, List.length_append]; rfl
end
/-- which of the four numbers an act has, it has alone -/
theorem seq_alone {act : Int} (h : lactB act = true) : (6 ∈ seqOf act → needAt act 7 = false) ∧ (7 ∈ seqOf act → needAt act 6 = false) ∧ (8 ∈ seqOf act → needAt act 6 = false ∧ needAt act 7 = false) ∧ (10 ∈ seqOf act → needAt act 6 = false ∧ needAt act 7 = false) := by
  rcases acts12 h with rfl | rfl | rfl | rfl | rfl | rfl | rfl | rfl | rfl | rfl | rfl | rfl <;> decide
theorem need_mem {act : Int} (h : lactB act = true) {i : Nat} (hi : i ∈ seqOf act) : needAt act i = true := by
  rw [← seq_code h] at hi
  exact (List.mem_filter.1 hi).2
end
end Go.Proofs.Ytkcjdginoccgjaa
