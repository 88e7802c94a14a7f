/- Contracts and laws that the claim's row leans on (19 texts, joined): Bodies printed and parsed: plain laws. Entries as values: 68 cells; ledger.entryFault, keyref1.EntryError; conditions: the sizes. sides: on which side each sum of a path stands; conditions: place and size. RootBy: the root to which a proof leads, of any proof; conditions: the rows' lengths. The reference's RootBy, of any proof; conditions: the rows' lengths. Proved, of any proof; conditions: the rows' lengths. A head: its cells, its octets; ledger.outside, ledger.PrintHead; no condition. ledger.ahead; condition: the entry is right. Two chains of two operations in any order; no condition. keyref1.PrintHead; no condition. Three chains of operations in any order; keyref1.plain; condition: the entry is right. EntrySum of both, PrintEntry of both; conditions: the entry's memory. PrintEntry of both; conditions: the entry's memory. ledger.SealHead, CheckHead, keyref1.SealHead; conditions: the lengths. ledger.CheckHead, keyref1.SealHead; conditions: the lengths. A head is built; no condition. An entry is built; no condition. What parsing says of a text and a place; ledger.size; conditions: the sizes. What parsing says of a text and a place (plain); ledger.ParseEntry up to the seal; conditions: the sizes. -/
import Derived.Test.YtkcjdginoccgjaaJ7
import Derived.Lib.SlBytesConst
import Derived.Great.FillDense
namespace Go.Proofs.Ytkcjdginoccgjaa
section
open Go Go.RowKit

/-- one field taken over -/
def setF (i : Nat) (x y : BodyP) : BodyP :=
  if i = 0 then { x with text := y.text }
  else if i = 1 then { x with member := y.member }
  else if i = 2 then { x with roles := y.roles }
  else if i = 3 then { x with label := y.label }
  else if i = 4 then { x with commit := y.commit }
  else if i = 5 then { x with epoch := y.epoch }
  else if i = 6 then { x with purpose := y.purpose }
  else if i = 7 then { x with reason := y.reason }
  else if i = 8 then { x with need := y.need }
  else if i = 9 then { x with holders := y.holders }
  else if i = 10 then { x with version := y.version }
  else { x with count := y.count }
theorem octI_small {n : Int} (h : 0 ≤ n ∧ n ≤ 255) : ((octI n).toNat : Int) = n := by
  unfold octI
  rw [UInt8.toNat_ofNat']; omega
theorem numbers_of {act : Int} {b : BodyR} (h : Right b act) : (needAt act 6 = true → 0 ≤ b.purpose ∧ b.purpose ≤ 255) ∧ (0 ≤ b.reason ∧ b.reason ≤ 255) ∧ (needAt act 8 = true → 0 ≤ b.need ∧ b.need ≤ 255) ∧ (0 ≤ b.version ∧ b.version ≤ 255) := by
  have hrg := h.range
  unfold rangeB outB at hrg
  simp only [Bool.or_eq_false_iff, Bool.and_eq_false_imp, decide_eq_false_iff_not] at hrg
  obtain ⟨⟨⟨⟨⟨r1, r2⟩, r3⟩, r4⟩, r5⟩, r6⟩ := hrg
  exact ⟨fun q => by have := r1 q; omega, by omega, fun q => by have := r4 q; omega, by omega⟩
theorem octL_nat (N : Nat) (h : N ≤ 4294967295) : natOf (octL (UInt32.ofNat N)) = N := by
  rw [num4 (x := octL (UInt32.ofNat N)) rfl]
  have := word4_octL [] (UInt32.ofNat N) 0 rfl
  rw [List.nil_append] at this
  rw [this, UInt32.toNat_ofNat']; omega
theorem longL_nat (N : Nat) (h : N ≤ 65536) : long8 (longL (UInt64.ofNat N)) 0 = N := by
  have := long8_longL [] (UInt64.ofNat N) 0 rfl
  rw [List.nil_append] at this
  rw [this, UInt64.toNat_ofNat']; omega
/-- a field is read as it was written -/
theorem field_app {act : Int} {b : BodyR} (h : Right b act) (hm : b.member.length = 16) (hc : b.commit.length = 32) (hrl : b.roles.length = b.rn) (hhl : b.holders.length = b.hn) (h16 : All16 b.holders) (i : Nat) (hi : needAt act i = true) (hi12 : i < 12) (h0 : i ≠ 0) (x : BodyP) (r : List UInt8) : fieldP lcountF i x (fieldL i b.p ++ r) = some (setF i x b.p, r) := by
  have sm := h.small
  obtain ⟨n6, n7, n8, n10⟩ := numbers_of h
  rcases (by omega : i = 1 ∨ i = 2 ∨ i = 3 ∨ i = 4 ∨ i = 5 ∨ i = 6 ∨ i = 7 ∨ i = 8 ∨ i = 9 ∨ i = 10 ∨ i = 11) with rfl | rfl | rfl | rfl | rfl | rfl | rfl | rfl | rfl | rfl | rfl
  · simp only [fieldP, fieldL, setF, reduceIte, Nat.reduceEqDiff, BodyR.p]
    rw [takeP_app 16 _ _ hm]; rfl
  · simp only [fieldP, fieldL, setF, reduceIte, Nat.reduceEqDiff, BodyR.p]
    unfold rolesL
    rw [List.cons_append, octP_cons]
    have hn : (UInt8.ofNat b.roles.length).toNat = b.roles.length := by rw [UInt8.toNat_ofNat']; have := sm.rn; omega
    show (manyP textP _ [] _).map _ = _
    rw [hn, many_texts r b.roles [] (fun s hs => by have := sm.rs s hs; omega)]
    rfl
  · simp only [fieldP, fieldL, setF, reduceIte, Nat.reduceEqDiff, BodyR.p]
    rw [textP_app _ _ (by have := sm.l; omega)]; rfl
  · simp only [fieldP, fieldL, setF, reduceIte, Nat.reduceEqDiff, BodyR.p]
    rw [takeP_app 32 _ _ hc]; rfl
  · simp only [fieldP, fieldL, setF, reduceIte, Nat.reduceEqDiff, BodyR.p]
    rw [takeP_app 4 _ _ rfl]
    show some (({ x with epoch := _ } : BodyP), r) = some (({ x with epoch := b.epoch } : BodyP), r)
    have he := sm.e
    rw [octL_nat _ (by omega), show ((b.epoch.toNat : Nat) : Int) = b.epoch by omega]
  · simp only [fieldP, fieldL, setF, reduceIte, Nat.reduceEqDiff, BodyR.p]
    rw [List.cons_append, List.nil_append, octP_cons]
    show some (({ x with purpose := _ } : BodyP), r) = some (({ x with purpose := b.purpose } : BodyP), r)
    rw [octI_small (n6 hi)]
  · simp only [fieldP, fieldL, setF, reduceIte, Nat.reduceEqDiff, BodyR.p]
    rw [List.cons_append, List.nil_append, octP_cons]
    show some (({ x with reason := _ } : BodyP), r) = some (({ x with reason := b.reason } : BodyP), r)
    rw [octI_small (n7)]
  · simp only [fieldP, fieldL, setF, reduceIte, Nat.reduceEqDiff, BodyR.p]
    rw [List.cons_append, List.nil_append, octP_cons]
    show some (({ x with need := _ } : BodyP), r) = some (({ x with need := b.need } : BodyP), r)
    rw [octI_small (n8 hi)]
  · simp only [fieldP, fieldL, setF, reduceIte, Nat.reduceEqDiff, BodyR.p]
    unfold holdersL
    rw [List.cons_append, octP_cons]
    have hn : (UInt8.ofNat b.holders.length).toNat = b.holders.length := by rw [UInt8.toNat_ofNat']; have := sm.hn; omega
    show (manyP (takeP 16) _ [] _).map _ = _
    rw [hn, many_ids r b.holders [] h16]
    rfl
  · simp only [fieldP, fieldL, setF, reduceIte, Nat.reduceEqDiff, BodyR.p]
    rw [List.cons_append, List.nil_append, octP_cons]
    show some (({ x with version := _ } : BodyP), r) = some (({ x with version := b.version } : BodyP), r)
    rw [octI_small n10]
  · simp only [fieldP, fieldL, setF, reduceIte, Nat.reduceEqDiff, BodyR.p]
    unfold countP
    rw [takeP_app 8 _ _ rfl]
    have hk := sm.c
    have hv : lcountF (longL (UInt64.ofNat b.count.toNat)) = b.count := by
      unfold lcountF
      rw [longL_nat _ (by omega), if_pos (by omega)]; omega
    show some (({ x with count := lcountF (longL (UInt64.ofNat b.count.toNat)) } : BodyP), r) = some (({ x with count := b.count } : BodyP), r)
    rw [hv]
theorem run_app {act : Int} {b : BodyR} (h : Right b act) (hm : b.member.length = 16) (hc : b.commit.length = 32) (hrl : b.roles.length = b.rn) (hhl : b.holders.length = b.hn) (h16 : All16 b.holders) : ∀ (s : List Nat) (x : BodyP), (∀ i ∈ s, needAt act i = true ∧ i < 12 ∧ i ≠ 0) → runP lcountF s x (printL s b.p) = some (s.foldl (fun x i => setF i x b.p) x, [])
  | [], x, _ => rfl
  | i :: s, x, hs => by
    have hi := hs i (by simp)
    have hp : printL (i :: s) b.p = fieldL i b.p ++ printL s b.p := rfl
    rw [hp, runP, field_app h hm hc hrl hhl h16 i hi.1 hi.2.1 hi.2.2]
    exact run_app h hm hc hrl hhl h16 s _ (fun j hj => hs j (by simp [hj]))
theorem fold_p {act : Int} {b : BodyR} (h : Right b act) (hrl : b.roles.length = b.rn) (hhl : b.holders.length = b.hn) : (seqOf act).foldl (fun x i => setF i x b.p) zeroP = b.p := by
  have z := h.zeros
  have zr : needAt act 2 = false → b.roles = [] := fun q => List.length_eq_zero_iff.1 (by rw [hrl]; exact z.r q)
  have zh : needAt act 9 = false → b.holders = [] := fun q => List.length_eq_zero_iff.1 (by rw [hhl]; exact z.h q)
  rcases acts12 h.isa with rfl | rfl | rfl | rfl | rfl | rfl | rfl | rfl | rfl | rfl | rfl | rfl
  · show (⟨b.text, List.replicate 16 0, [], ⟨#[]⟩, List.replicate 32 0, 0, 0, 0, 0, 0, 0, []⟩ : BodyP) = ⟨b.text, b.member, b.roles, b.label, b.commit, b.epoch, b.purpose, b.reason, b.need, b.version, b.count, b.holders⟩
    rw [z.m rfl, zr rfl, z.l rfl, z.c rfl, z.e rfl, z.p rfl, z.a rfl, z.n rfl, z.v rfl, z.k rfl, zh rfl]
  · show (⟨⟨#[]⟩, b.member, b.roles, ⟨#[]⟩, List.replicate 32 0, 0, 0, 0, 0, 0, 0, []⟩ : BodyP) = ⟨b.text, b.member, b.roles, b.label, b.commit, b.epoch, b.purpose, b.reason, b.need, b.version, b.count, b.holders⟩
    rw [z.t rfl, z.l rfl, z.c rfl, z.e rfl, z.p rfl, z.a rfl, z.n rfl, z.v rfl, z.k rfl, zh rfl]
  · show (⟨⟨#[]⟩, b.member, [], ⟨#[]⟩, List.replicate 32 0, 0, 0, 0, 0, 0, 0, []⟩ : BodyP) = ⟨b.text, b.member, b.roles, b.label, b.commit, b.epoch, b.purpose, b.reason, b.need, b.version, b.count, b.holders⟩
    rw [z.t rfl, zr rfl, z.l rfl, z.c rfl, z.e rfl, z.p rfl, z.a rfl, z.n rfl, z.v rfl, z.k rfl, zh rfl]
  · show (⟨⟨#[]⟩, List.replicate 16 0, [], b.label, b.commit, 0, 0, 0, 0, 0, 0, []⟩ : BodyP) = ⟨b.text, b.member, b.roles, b.label, b.commit, b.epoch, b.purpose, b.reason, b.need, b.version, b.count, b.holders⟩
    rw [z.t rfl, z.m rfl, zr rfl, z.e rfl, z.p rfl, z.a rfl, z.n rfl, z.v rfl, z.k rfl, zh rfl]
  · show (⟨⟨#[]⟩, List.replicate 16 0, [], ⟨#[]⟩, b.commit, b.epoch, 0, 0, 0, 0, 0, []⟩ : BodyP) = ⟨b.text, b.member, b.roles, b.label, b.commit, b.epoch, b.purpose, b.reason, b.need, b.version, b.count, b.holders⟩
    rw [z.t rfl, z.m rfl, zr rfl, z.l rfl, z.p rfl, z.a rfl, z.n rfl, z.v rfl, z.k rfl, zh rfl]
  · show (⟨⟨#[]⟩, List.replicate 16 0, [], ⟨#[]⟩, b.commit, b.epoch, b.purpose, 0, 0, 0, 0, []⟩ : BodyP) = ⟨b.text, b.member, b.roles, b.label, b.commit, b.epoch, b.purpose, b.reason, b.need, b.version, b.count, b.holders⟩
    rw [z.t rfl, z.m rfl, zr rfl, z.l rfl, z.a rfl, z.n rfl, z.v rfl, z.k rfl, zh rfl]
  · show (⟨⟨#[]⟩, List.replicate 16 0, [], ⟨#[]⟩, List.replicate 32 0, 0, 0, b.reason, 0, 0, 0, []⟩ : BodyP) = ⟨b.text, b.member, b.roles, b.label, b.commit, b.epoch, b.purpose, b.reason, b.need, b.version, b.count, b.holders⟩
    rw [z.t rfl, z.m rfl, zr rfl, z.l rfl, z.c rfl, z.e rfl, z.p rfl, z.n rfl, z.v rfl, z.k rfl, zh rfl]
  · show (⟨⟨#[]⟩, List.replicate 16 0, [], ⟨#[]⟩, b.commit, 0, 0, 0, 0, 0, 0, []⟩ : BodyP) = ⟨b.text, b.member, b.roles, b.label, b.commit, b.epoch, b.purpose, b.reason, b.need, b.version, b.count, b.holders⟩
    rw [z.t rfl, z.m rfl, zr rfl, z.l rfl, z.e rfl, z.p rfl, z.a rfl, z.n rfl, z.v rfl, z.k rfl, zh rfl]
  · show (⟨⟨#[]⟩, List.replicate 16 0, [], ⟨#[]⟩, b.commit, b.epoch, 0, 0, b.need, 0, 0, b.holders⟩ : BodyP) = ⟨b.text, b.member, b.roles, b.label, b.commit, b.epoch, b.purpose, b.reason, b.need, b.version, b.count, b.holders⟩
    rw [z.t rfl, z.m rfl, zr rfl, z.l rfl, z.p rfl, z.a rfl, z.v rfl, z.k rfl]
  · show (⟨⟨#[]⟩, List.replicate 16 0, [], ⟨#[]⟩, b.commit, b.epoch, 0, 0, 0, 0, 0, b.holders⟩ : BodyP) = ⟨b.text, b.member, b.roles, b.label, b.commit, b.epoch, b.purpose, b.reason, b.need, b.version, b.count, b.holders⟩
    rw [z.t rfl, z.m rfl, zr rfl, z.l rfl, z.p rfl, z.a rfl, z.n rfl, z.v rfl, z.k rfl]
  · show (⟨⟨#[]⟩, List.replicate 16 0, [], ⟨#[]⟩, b.commit, 0, 0, 0, 0, b.version, 0, []⟩ : BodyP) = ⟨b.text, b.member, b.roles, b.label, b.commit, b.epoch, b.purpose, b.reason, b.need, b.version, b.count, b.holders⟩
    rw [z.t rfl, z.m rfl, zr rfl, z.l rfl, z.e rfl, z.p rfl, z.a rfl, z.n rfl, z.k rfl, zh rfl]
  · show (⟨⟨#[]⟩, List.replicate 16 0, [], ⟨#[]⟩, b.commit, 0, 0, 0, 0, b.version, b.count, []⟩ : BodyP) = ⟨b.text, b.member, b.roles, b.label, b.commit, b.epoch, b.purpose, b.reason, b.need, b.version, b.count, b.holders⟩
    rw [z.t rfl, z.m rfl, zr rfl, z.l rfl, z.e rfl, z.p rfl, z.a rfl, z.n rfl, zh rfl]
theorem seq_shape {act : Int} (h : lactB act = true) : (act = 1 ∧ seqOf act = [0]) ∨ (∀ i ∈ seqOf act, i < 12 ∧ i ≠ 0) := by
  rcases acts12 h with rfl | rfl | rfl | rfl | rfl | rfl | rfl | rfl | rfl | rfl | rfl | rfl
  · exact .inl ⟨rfl, rfl⟩
  all_goals exact .inr (by decide)
theorem seq_len {act : Int} (h : lactB act = true) : (seqOf act).length ≤ 4 := by
  rcases acts12 h with rfl | rfl | rfl | rfl | rfl | rfl | rfl | rfl | rfl | rfl | rfl | rfl <;> decide
theorem printL_len {act : Int} {b : BodyR} (h : Right b act) (hm : b.member.length = 16) (hc : b.commit.length = 32) (hrl : b.roles.length = b.rn) (hhl : b.holders.length = b.hn) (h16 : All16 b.holders) : (printL (seqOf act) b.p).length ≤ 32768 := by
  rcases seq_shape h.isa with ⟨h1, h2⟩ | h2
  · rw [h2]
    show (b.text.data.toList ++ []).length ≤ _
    rw [List.append_nil, Array.length_toList]; exact h.t
  · have hf : ∀ i ∈ seqOf act, (fieldL i b.p).length ≤ 600 := by
      intro i hi
      obtain ⟨h12, h0⟩ := h2 i hi
      rcases (by omega : i = 1 ∨ i = 2 ∨ i = 3 ∨ i = 4 ∨ i = 5 ∨ i = 6 ∨ i = 7 ∨ i = 8 ∨ i = 9 ∨ i = 10 ∨ i = 11) with rfl | rfl | rfl | rfl | rfl | rfl | rfl | rfl | rfl | rfl | rfl
      · show b.member.length ≤ _; omega
      · exact rolesL_len h.small hrl
      · show (textL b.label).length ≤ _; rw [textL_len]; have := h.small.l; omega
      · show b.commit.length ≤ _; omega
      · show (octL _).length ≤ _; simp [octL]
      · show [octI _].length ≤ _; simp
      · show [octI _].length ≤ _; simp
      · show [octI _].length ≤ _; simp
      · exact holdersL_len h.small hhl h16
      · show [octI _].length ≤ _; simp
      · show (longL _).length ≤ _; rw [longL_length]; decide
    have hl := flat_len (l := (seqOf act).map fun i => fieldL i b.p) (k := 600) (by
      intro x hx
      obtain ⟨i, hi, rfl⟩ := List.mem_map.1 hx
      exact hf i hi)
    rw [List.length_map] at hl
    have := seq_len h.isa
    unfold printL
    have h4 : (seqOf act).length * 600 ≤ 4 * 600 := Nat.mul_le_mul_right _ this
    omega
/-- what is printed is parsed -/
theorem printed_parsed {act : Int} {b : BodyR} (he : bodyE act b = 0) (hm : b.member.length = 16) (hc : b.commit.length = 32) (hrl : b.roles.length = b.rn) (hhl : b.holders.length = b.hn) (h16 : All16 b.holders) : parseB lcountF act (printL (seqOf act) b.p) = (b.p, 0) := by
  have h := right_of he
  have hrun : runP lcountF (seqOf act) zeroP (printL (seqOf act) b.p) = some (b.p, []) := by
    rcases seq_shape h.isa with ⟨h1, h2⟩ | h2
    · have hf := fold_p h hrl hhl
      rw [h2] at hf ⊢
      rw [← hf]
      show some (({ zeroP with text := ⟨(b.text.data.toList ++ []).toArray⟩ } : BodyP), ([] : List UInt8)) = some (({ zeroP with text := b.text } : BodyP), [])
      rw [List.append_nil]
    · have hs : ∀ i ∈ seqOf act, needAt act i = true ∧ i < 12 ∧ i ≠ 0 := fun i hi => ⟨by
        rw [← seq_code h.isa] at hi; exact (List.mem_filter.1 hi).2, h2 i hi⟩
      rw [run_app h hm hc hrl hhl h16 (seqOf act) zeroP hs, fold_p h hrl hhl]
  unfold parseB
  rw [if_neg (by rw [h.isa]; simp), if_neg (by have := printL_len h hm hc hrl hhl h16; omega), hrun]
  show (if 0 < ([] : List UInt8).length then _ else _) = _
  rw [if_neg (by simp), ← bodyE_p hrl hhl, if_pos he]
theorem fieldP_f (f g : List UInt8 → Int) (i : Nat) (hi : i < 11) (x : BodyP) (l : List UInt8) : fieldP f i x l = fieldP g i x l := by
  rcases (by omega : i = 0 ∨ i = 1 ∨ i = 2 ∨ i = 3 ∨ i = 4 ∨ i = 5 ∨ i = 6 ∨ i = 7 ∨ i = 8 ∨ i = 9 ∨ i = 10) with rfl | rfl | rfl | rfl | rfl | rfl | rfl | rfl | rfl | rfl | rfl <;> simp only [fieldP, reduceIte, Nat.reduceEqDiff]
theorem runP_f (f g : List UInt8 → Int) : ∀ (s : List Nat) (x : BodyP) (l : List UInt8), (∀ i ∈ s, i < 11) → runP f s x l = runP g s x l
  | [], _, _, _ => rfl
  | i :: s, x, l, h => by
    rw [runP, runP, fieldP_f f g i (h i (by simp))]
    cases fieldP g i x l with
    | none => rfl
    | some p => exact runP_f f g s p.1 p.2 (fun j hj => h j (by simp [hj]))
/-- a count that is out of range, whatever it is, is the same error -/
theorem count_out {x : BodyP} {m n : Int} (hm : outB m 0 65536 = true) (hn : outB n 0 65536 = true) : bodyEP 12 { x with count := m } = bodyEP 12 { x with count := n } ∧ bodyEP 12 { x with count := m } ≠ 0 := by
  have hx : ∀ k : Int, extraB (({ x with count := k } : BodyP).r) (needsL 12) = extraB (({ x with count := 0 } : BodyP).r) (needsL 12) := fun k => by
    rfl
  have hr : ∀ k : Int, outB k 0 65536 = true → rangeB 12 (({ x with count := k } : BodyP).r) = true := fun k hk => by
    unfold rangeB
    rw [show (({ x with count := k } : BodyP).r).count = k from rfl, hk, Bool.or_true]
  have key : ∀ k : Int, outB k 0 65536 = true → bodyEP 12 { x with count := k } = if extraB (({ x with count := 0 } : BodyP).r) (needsL 12) then 2
      else if decide (32768 < x.text.size) || (decide (16 < x.roles.length) || decide (32 < x.holders.length)) then 5
      else if rolesE x.roles != 0 then rolesE x.roles else if needAt 12 3 && !isNameL x.label.data.toList then 6 else 4 := fun k hk => by
    unfold bodyEP bodyE
    rw [hx k, hr k hk]
    rfl
  rw [key m hm, key n hn]
  refine ⟨rfl, ?_⟩
  split
  · decide
  · split
    · decide
    · split
      · rename_i h; simpa using h
      · split <;> decide
theorem run12 (f : List UInt8 → Int) (l : List UInt8) : runP f [10, 11, 4] zeroP l = (octP l).bind fun p => (takeP 8 p.2).bind fun q => (takeP 32 q.2).map fun u => (({ ({ zeroP with version := (p.1 : Int), commit := u.1 } : BodyP) with count := f q.1 } : BodyP), u.2) := by
  show ((octP l).map _).bind _ = _
  cases octP l with
  | none => rfl
  | some p =>
    show (((takeP 8 p.2).map _).map _).bind _ = (takeP 8 p.2).bind _
    cases takeP 8 p.2 with
    | none => rfl
    | some q =>
      show (((takeP 32 q.2).map _).bind _) = (takeP 32 q.2).map _
      cases takeP 32 q.2 <;> rfl
theorem takeP_len {n : Nat} {l : List UInt8} {p : List UInt8 × List UInt8} (h : takeP n l = some p) : p.1.length = n := by
  unfold takeP at h
  split at h
  · cases h
  · injection h with h
    rw [← h, List.length_take]; omega
/-- both parsers say the same -/
theorem parse_same (act : Int) (l : List UInt8) : parseB lcountF act l = parseB rcountF act l := by
  unfold parseB
  by_cases ha : lactB act = false
  · rw [if_pos ha, if_pos ha]
  · rw [if_neg ha, if_neg ha]
    by_cases hl : 32768 < l.length
    · rw [if_pos hl, if_pos hl]
    · rw [if_neg hl, if_neg hl]
      by_cases h12 : act = 12
      · subst h12
        show (match runP lcountF [10, 11, 4] zeroP l with | none => _ | some (x, rest) => _) = (match runP rcountF [10, 11, 4] zeroP l with | none => _ | some (x, rest) => _)
        rw [run12, run12]
        cases octP l with
        | none => rfl
        | some p =>
          simp only [Option.bind_some]
          cases hq : takeP 8 p.2 with
          | none => rfl
          | some q =>
            simp only [Option.bind_some]
            cases takeP 32 q.2 with
            | none => rfl
            | some u =>
              simp only [Option.map_some]
              by_cases hr : 0 < u.2.length
              · rw [if_pos hr, if_pos hr]
              · rw [if_neg hr, if_neg hr]
                have hq8 := takeP_len hq
                have hnat : natOf q.1 = long8 q.1 0 := by
                  have := natOf_8 (l := q.1) (p := 0) (by omega)
                  rw [List.drop_zero, List.take_of_length_le (by omega)] at this; exact this
                by_cases hc : long8 q.1 0 ≤ 4611686018427387904
                · have h1 : lcountF q.1 = rcountF q.1 := by
                    unfold lcountF rcountF
                    rw [if_pos hc, hnat, w64_small (by omega)]
                  rw [h1]
                · have h1 : outB (lcountF q.1) 0 65536 = true := by
                    unfold lcountF outB
                    rw [if_neg hc]; decide
                  have h2 : outB (rcountF q.1) 0 65536 = true := by
                    have hlt := long8_lt q.1 0
                    unfold rcountF outB w64
                    rw [hnat, IntKind.wrap_i64]
                    generalize long8 q.1 0 = M at *
                    simp only [Bool.or_eq_true, decide_eq_true_eq]
                    omega
                  obtain ⟨h3, h4⟩ := count_out (x := { zeroP with version := (p.1 : Int), commit := u.1 }) h1 h2
                  rw [if_neg h4, if_neg (by rw [← h3]; exact h4), h3]
      · have hs : ∀ i ∈ seqOf act, i < 11 := by
          have ha' : lactB act = true := by simpa using ha
          rcases acts12 ha' with rfl | rfl | rfl | rfl | rfl | rfl | rfl | rfl | rfl | rfl | rfl | rfl
          all_goals first | decide | exact absurd rfl h12
        rw [runP_f lcountF rcountF (seqOf act) zeroP l hs]
end

section
open Go Go.RowKit

/-- an entry: its body's header is part of it -/
structure EntR where
  num : Int
  time : Int
  act : Int
  actor : List UInt8
  key : List UInt8
  prev : List UInt8
  ba : Option Addr
  bn : Nat
  bc : Nat
  body : List UInt8
def EntR.v (e : EntR) : List Value := .int .i64 e.num :: .int .i64 e.time :: .int .i64 e.act :: (e.actor.map u8v ++ (e.key.map u8v ++ (e.prev.map u8v ++ [.slice e.ba e.bn e.bc])))
structure EntR.Ok (w : World) (e : EntR) : Prop where
  ha : e.actor.length = 16
  hk : e.key.length = 16
  hp : e.prev.length = 32
  hb : e.body.length = e.bn
  hbc : e.bn ≤ e.bc
  hbm : e.bn ≤ 140737488355328
  hn0 : e.ba = none → e.bn = 0 ∧ e.bc = 0
  hcl : Cells w e.ba (e.body.map u8v)
theorem EntR.Ok.ext {w w' : World} {e : EntR} (h : e.Ok w) (k : Ext w w') : e.Ok w' := ⟨h.ha, h.hk, h.hp, h.hb, h.hbc, h.hbm, h.hn0, h.hcl.ext k⟩
theorem EntR.len {w : World} {e : EntR} (h : e.Ok w) : e.v.length = 68 := by unfold EntR.v; simp [h.ha, h.hk, h.hp]
theorem agg_ent : AggT Try.prog 79 68 := ⟨⟨_, Try.underlying79, rfl⟩, by kernel_rfl⟩
theorem EntR.at0 (e : EntR) : e.v[0]? = some (.int .i64 e.num) := rfl
theorem EntR.at1 (e : EntR) : e.v[1]? = some (.int .i64 e.time) := rfl
theorem EntR.at2 (e : EntR) : e.v[2]? = some (.int .i64 e.act) := rfl
theorem EntR.tail (e : EntR) : e.v.drop 3 = e.actor.map u8v ++ (e.key.map u8v ++ (e.prev.map u8v ++ [.slice e.ba e.bn e.bc])) := rfl
theorem EntR.actor_at {w : World} {e : EntR} (h : e.Ok w) : (e.v.drop 3).take 16 = e.actor.map u8v := by
  rw [EntR.tail, List.take_left' (by rw [List.length_map, h.ha])]
theorem EntR.key_at {w : World} {e : EntR} (h : e.Ok w) : (e.v.drop 19).take 16 = e.key.map u8v := by
  have : e.v.drop 19 = (e.v.drop 3).drop 16 := by rw [List.drop_drop]
  rw [this, EntR.tail, List.drop_left' (by rw [List.length_map, h.ha]), List.take_left' (by rw [List.length_map, h.hk])]
theorem EntR.prev_at {w : World} {e : EntR} (h : e.Ok w) : (e.v.drop 35).take 32 = e.prev.map u8v := by
  have : e.v.drop 35 = ((e.v.drop 3).drop 16).drop 16 := by rw [List.drop_drop, List.drop_drop]
  rw [this, EntR.tail, List.drop_left' (by rw [List.length_map, h.ha]), List.drop_left' (by rw [List.length_map, h.hk]), List.take_left' (by rw [List.length_map, h.hp])]
theorem EntR.at67 {w : World} {e : EntR} (h : e.Ok w) : e.v[67]? = some (.slice e.ba e.bn e.bc) := by
  have : e.v[67]? = (((e.v.drop 3).drop 16).drop 16)[32]? := by rw [List.drop_drop, List.drop_drop, List.getElem?_drop]
  rw [this, EntR.tail, List.drop_left' (by rw [List.length_map, h.ha]), List.drop_left' (by rw [List.length_map, h.hk]), List.getElem?_append_right (by rw [List.length_map, h.hp]; exact Nat.le_refl _), List.length_map, h.hp]
  rfl
noncomputable def entE (e : EntR) : Int := if outB e.num 0 65535 || outB e.time 0 1099511627776 then 4 else (parseB rcountF e.act e.body).2

set_option maxRecDepth 100000 in
set_option maxHeartbeats 2000000 in
theorem entryFault_c (e : EntR) (w : World) (he : e.Ok w) :
    Calls Try.prog 100 #[.agg e.v.toArray] w fun x w' => x = .returned (.int .i64 (entE e)) ∧ Ext w w' := by
  have HE := hid he
  obtain ⟨E, hE⟩ : ∃ E, entE e = E := ⟨_, rfl⟩
  rw [hE]
  unfold entE at hE
  have HLEN := hid (EntR.len he)
  clear he
  go_enter Try.func100, Try.ntmps100
  go_upto_region 1 with (fail)
  generalize hwA : World.alloc w _ = wA
  have bA : Blk wA w.heap.size e.v 79 := by rw [← hwA]; exact Blk.mk_alloc rfl rfl
  have eA : Ext w wA := by rw [← hwA]; exact (Ext.refl w).alloc _
  have c0 := bA.cell' (EntR.at0 e)
  have c1 := bA.cell' (EntR.at1 e)
  have c2 := bA.cell' (EntR.at2 e)
  have c67 := bA.cell' (EntR.at67 HE.out)
  have EA := hid eA
  have HEA := hid (HE.out.ext eA)
  clear hwA bA eA
  by_cases b1 : outB e.num 0 65535 = true
  · rw [b1, Bool.true_or, if_pos rfl] at hE
    subst hE
    have db : (decide (e.num < 0) || decide (65535 < e.num)) = true := b1
    go_wp2_with (first | (go_at_call 122; refine (outside_c _ _ _ _).mono ?_; rintro x w' ⟨rfl, rfl⟩; rw [db]))
    go_ret
    exact ⟨rfl, EA.out⟩
  have b1 : outB e.num 0 65535 = false := by simpa using b1
  have db : (decide (e.num < 0) || decide (65535 < e.num)) = false := b1
  rw [b1, Bool.false_or] at hE
  by_cases b2 : outB e.time 0 1099511627776 = true
  · rw [if_pos b2] at hE
    subst hE
    have db2 : (decide (e.time < 0) || decide (1099511627776 < e.time)) = true := b2
    go_wp2_with (first | (go_at_call 122; refine (outside_c _ _ _ _).mono ?_; rintro x w' ⟨rfl, rfl⟩; first | rw [db] | rw [db2]))
    go_ret
    exact ⟨rfl, EA.out⟩
  have b2 : outB e.time 0 1099511627776 = false := by simpa using b2
  have db2 : (decide (e.time < 0) || decide (1099511627776 < e.time)) = false := b2
  rw [if_neg (by rw [b2]; exact Bool.false_ne_true)] at hE
  have hlp := lparseBody_c e.act e.body e.ba e.bn e.bc wA HEA.out.hb HEA.out.hbc HEA.out.hbm HEA.out.hcl
  rw [parse_same, hE] at hlp
  have HLP := hid hlp
  clear hlp hE b1 b2
  go_wp2_with (first | (go_at_call 122; refine (outside_c _ _ _ _).mono ?_; rintro x w' ⟨rfl, rfl⟩; first | rw [db] | rw [db2]))
  refine HLP.out.mono ?_
  rintro x w5 ⟨y, rfl, hyf, -, -, -, e5⟩
  have HLY := hid (show y.v.length = 58 by unfold BodyR.v BodyR.t; simp [hyf.hm, hyf.hcm])
  have E5 := hid (EA.out.ext e5)
  clear hyf e5 HLP c0 c1 c2 c67
  go_wp2_with (refine wpl_storew rfl _ _ _ rfl rfl rfl (Blk.mk_alloc (vs := zeroR.v) rfl rfl) agg_body zeroR_len (xs := y.v) HLY.out (v_one y) ?_)
  intro w6 b6 u6
  have E6 := hid (u6.ext (E5.out.alloc _) E5.out.size)
  clear b6 u6
  go_wp2_with fail
  go_ret
  exact ⟨rfl, E6.out⟩

set_option maxRecDepth 100000 in
set_option maxHeartbeats 2000000 in
theorem entryError_c (e : EntR) (w : World) (he : e.Ok w) :
    Calls Try.prog 93 #[.agg e.v.toArray] w fun x w' => x = .returned (.int .i64 (entE e)) ∧ Ext w w' := by
  have HE := hid he
  obtain ⟨E, hE⟩ : ∃ E, entE e = E := ⟨_, rfl⟩
  rw [hE]
  unfold entE at hE
  have HLEN := hid (EntR.len he)
  clear he
  go_enter Try.func93, Try.ntmps93
  go_upto_region 1 with (fail)
  generalize hwA : World.alloc w _ = wA
  have bA : Blk wA w.heap.size e.v 79 := by rw [← hwA]; exact Blk.mk_alloc rfl rfl
  have eA : Ext w wA := by rw [← hwA]; exact (Ext.refl w).alloc _
  have c0 := bA.cell' (EntR.at0 e)
  have c1 := bA.cell' (EntR.at1 e)
  have c2 := bA.cell' (EntR.at2 e)
  have c67 := bA.cell' (EntR.at67 HE.out)
  have EA := hid eA
  have HEA := hid (HE.out.ext eA)
  clear hwA bA eA
  unfold outB at hE
  by_cases a1 : e.num < 0
  · rw [if_pos (by simp; omega)] at hE
    have d1 : decide (e.num < 0) = true := decide_eq_true a1
    subst hE
    go_wp2
    go_ret
    exact ⟨rfl, EA.out⟩
  have d1 : decide (e.num < 0) = false := decide_eq_false a1
  by_cases a2 : 65536 ≤ e.num
  · rw [if_pos (by simp; omega)] at hE
    have d2 : decide (65536 ≤ e.num) = true := decide_eq_true a2
    subst hE
    go_wp2
    go_ret
    exact ⟨rfl, EA.out⟩
  have d2 : decide (65536 ≤ e.num) = false := decide_eq_false a2
  by_cases a3 : e.time < 0
  · rw [if_pos (by simp; omega)] at hE
    have d3 : decide (e.time < 0) = true := decide_eq_true a3
    subst hE
    go_wp2
    go_ret
    exact ⟨rfl, EA.out⟩
  have d3 : decide (e.time < 0) = false := decide_eq_false a3
  by_cases a4 : 1099511627776 < e.time
  · rw [if_pos (by simp; omega)] at hE
    have d4 : decide (1099511627776 < e.time) = true := decide_eq_true a4
    subst hE
    go_wp2
    go_ret
    exact ⟨rfl, EA.out⟩
  have d4 : decide (1099511627776 < e.time) = false := decide_eq_false a4
  rw [if_neg (by simp; omega)] at hE
  have hlp := rparseBody_c e.act e.body e.ba e.bn e.bc wA HEA.out.hb HEA.out.hbc HEA.out.hbm HEA.out.hcl
  rw [hE] at hlp
  have HLP := hid hlp
  clear hlp hE a1 a2 a3 a4
  go_wp2_with fail
  refine HLP.out.mono ?_
  rintro x w5 ⟨y, rfl, hyf, -, -, -, e5⟩
  have HLY := hid (show y.v.length = 58 by unfold BodyR.v BodyR.t; simp [hyf.hm, hyf.hcm])
  have E5 := hid (EA.out.ext e5)
  clear hyf e5 HLP c0 c1 c2 c67
  go_wp2_with (refine wpl_storew rfl _ _ _ rfl rfl rfl (Blk.mk_alloc (vs := zeroR.v) rfl rfl) agg_body zeroR_len (xs := y.v) HLY.out (v_one y) ?_)
  intro w6 b6 u6
  have E6 := hid (u6.ext (E5.out.alloc _) E5.out.size)
  clear b6 u6
  go_wp2_with fail
  go_ret
  exact ⟨rfl, E6.out⟩
end

section
open Go Go.RowKit

theorem info_bool : (Try.prog.info? 4).map (fun i => (i.zero, i.size, i.bytes)) = some (some (.bool false), 1, 1) := by kernel_rfl
theorem own_sliceT {w : World} {B : Nat} {T : TypeId} {z : Nat} {v : Value} {n : Nat} {xs : List Value} (hz : 0 < z) (h : w.ownsRow B T z v n xs) :
    ∃ a c, v = .slice a n c ∧ n ≤ c ∧ c ≤ maxLen ∧ (a = none → c = 0) ∧ Cells w a xs := by
  obtain ⟨hl, h⟩ := h
  rcases h with ⟨rfl, rfl⟩ | ⟨g, cap, cur, rfl, hb, hg, h1, h2, h3, h4⟩
  · refine ⟨none, 0, rfl, Nat.le_refl _, by unfold maxLen; omega, fun _ => rfl, .inl ?_⟩
    exact List.length_eq_zero_iff.1 (by omega)
  · refine ⟨_, cap, rfl, h1, h2, (fun h => by cases h), .inr ⟨g, 0, rfl, fun i u hu => ?_⟩⟩
    rw [← h4] at hu
    have hi : i < n * z := by
      have := (List.getElem?_eq_some_iff.1 hu).1
      simp only [List.length_take] at this; omega
    rw [List.getElem?_take_of_lt hi] at hu
    rw [Nat.zero_add]
    exact Blk.cell' (vs := cur.toList) (T := T) (by simpa [Blk] using hg) hu
end

section
open Go Go.RowKit

def zero32 : List UInt8 := List.replicate 32 0
theorem zero32_map : zero32.map u8v = List.replicate 32 (.int .u8 0) := by simp [zero32, u8v]
theorem zero32_length : zero32.length = 32 := by simp [zero32]
def rootByL (x : List UInt8) (I Z : Int) (ls : List (List UInt8)) : List UInt8 × Int :=
  if Z < 1 ∨ 65536 < Z then (zero32, 4) else if I < 0 ∨ Z ≤ I then (zero32, 7) else if ls.length = (sidesL I.toNat Z.toNat).length then (leadS nodeL x (sidesL I.toNat Z.toNat) ls, 0) else (zero32, 12)
def sumErr (p : List UInt8 × Int) : Value := .tuple #[.agg (p.1.map u8v).toArray, .int .i64 p.2]
end

section
open Go Go.RowKit
end

section
open Go Go.RowKit

theorem rootByL_length (x : List UInt8) (I Z : Int) (ls : List (List UInt8)) (hx : x.length = 32) : (rootByL x I Z ls).1.length = 32 := by
  unfold rootByL
  split
  · exact zero32_length
  · split
    · exact zero32_length
    · split
      · exact leadS_length _ nodeL_length _ _ _ hx
      · exact zero32_length
def provedL (root x : List UInt8) (I Z : Int) (ls : List (List UInt8)) : Int := if (rootByL x I Z ls).2 = 0 then (if (rootByL x I Z ls).1 == root then 0 else 12) else (rootByL x I Z ls).2
end

section
open Go Go.RowKit

def headE (C T : Int) : Int := if C < 0 ∨ 65536 < C ∨ T < 0 ∨ 1099511627776 < T then 4 else 0
def headV (C T : Int) (r1 r2 : List UInt8) : List Value := .int .i64 C :: .int .i64 T :: (r1.map u8v ++ r2.map u8v)
def headO (C T : Int) (r1 r2 : List UInt8) : List UInt8 := [75, 87, 72, 49] ++ longL (UInt64.ofNat C.toNat) ++ longL (UInt64.ofNat T.toNat) ++ r1 ++ r2
def headPost (C T : Int) (r1 r2 : List UInt8) (w : World) (e : Ending) (w' : World) : Prop :=
  ∃ v, e = .returned (.tuple #[v, .int .i64 (headE C T)]) ∧ (if headE C T = 0 then w'.ownsRow w.heap.size 5 1 v 84 ((headO C T r1 r2).map u8v) else v = .slice none 0 0) ∧ Ext w w'
theorem headV_length (C T : Int) {r1 r2 : List UInt8} (h1 : r1.length = 32) (h2 : r2.length = 32) : (headV C T r1 r2).length = 66 := by simp [headV, h1, h2]
theorem headV_r1 (C T : Int) {r1 r2 : List UInt8} (h1 : r1.length = 32) : ((headV C T r1 r2).drop 2).take 32 = r1.map u8v := by
  simp [headV, ← h1]
theorem headV_r2 (C T : Int) {r1 r2 : List UInt8} (h1 : r1.length = 32) (h2 : r2.length = 32) : ((headV C T r1 r2).drop 34).take 32 = r2.map u8v := by
  have : (headV C T r1 r2).drop 34 = r2.map u8v := by
    show (Value.int .i64 C :: Value.int .i64 T :: (r1.map u8v ++ r2.map u8v)).drop 34 = _
    rw [List.drop_succ_cons, List.drop_succ_cons, List.drop_left' (by simp [h1])]
  rw [this, List.take_of_length_le (by simp [h2])]
theorem Cls.grownF {w0 W w w' : World} {L : List Nat} {row : Option Nat} (h : Cls w0 W L [] w) (k : w.grownBy w' row) (hr : ∀ g, row = some g → g ∉ L) (h0 : ∀ g, row = some g → w0.heap.size ≤ g) : Cls w0 W L [] w' :=
  ⟨h.base.grown k h0, ⟨Nat.le_trans h.kept.1 k.size, h.kept.2.1, fun g hg => (k.block g (Nat.lt_of_lt_of_le (h.kept.2.1 g hg) h.kept.1) (fun e => hr g e.symm hg)).trans (h.kept.2.2 g hg)⟩, fun x hx => by cases hx⟩
theorem cells_const (ys : List Value) (T : TypeId) (w : World) (z : Nat × Nat) : Cells (w.alloc (.cells ys.toArray T z)) (some ⟨w.heap.size, 0, none⟩) ys := by
  refine .inr ⟨w.heap.size, 0, rfl, fun i u hu => ?_⟩
  have hh : (w.alloc (.cells ys.toArray T z)).heap[w.heap.size]? = some (.cells ys.toArray T z) := by
    show (w.heap.push _)[w.heap.size]? = _
    simp
  rw [Nat.zero_add]
  simp only [World.cell?, hh]
  simpa using hu
end

section
open Go Go.RowKit

/-- the octets of an entry without its sum -/
def aheadL (e : EntR) : List UInt8 := [75, 87, 69, 49] ++ longL (UInt64.ofNat e.num.toNat) ++ longL (UInt64.ofNat e.time.toNat) ++ [UInt8.ofNat e.act.toNat] ++ e.actor ++ e.key ++ e.prev ++ octL (UInt32.ofNat e.bn) ++ e.body
theorem entE_ok {e : EntR} {w : World} (h : e.Ok w) (he : entE e = 0) : 0 ≤ e.num ∧ e.num ≤ 65535 ∧ 0 ≤ e.time ∧ e.time ≤ 1099511627776 ∧ 1 ≤ e.act ∧ e.act ≤ 12 ∧ e.bn ≤ 32768 := by
  unfold entE at he
  by_cases b : (outB e.num 0 65535 || outB e.time 0 1099511627776) = true
  · rw [if_pos b] at he; omega
  rw [if_neg b] at he
  unfold outB at b
  simp only [Bool.or_eq_true, decide_eq_true_eq, not_or] at b
  unfold parseB at he
  by_cases ha : lactB e.act = false
  · rw [if_pos ha] at he; simp at he
  rw [if_neg ha] at he
  unfold lactB at ha
  simp only [Bool.not_eq_false, Bool.and_eq_true, decide_eq_true_eq] at ha
  by_cases hl : 32768 < e.body.length
  · rw [if_pos hl] at he; simp at he
  rw [h.hb] at hl
  omega
theorem aheadL_len {e : EntR} {w : World} (h : e.Ok w) : (aheadL e).length = 89 + e.bn := by
  simp [aheadL, longL_length, h.ha, h.hk, h.hp, h.hb]; simp [octL]; omega

set_option maxRecDepth 100000 in
set_option maxHeartbeats 2000000 in
theorem ahead_c (e : EntR) (w : World) (he : e.Ok w) (h0 : entE e = 0) :
    Calls Try.prog 103 #[.agg e.v.toArray] w fun x w' => ∃ v, x = .returned v ∧ w'.ownsRow w.heap.size 5 1 v (89 + e.bn) ((aheadL e).map u8v) ∧ Ext w w' := by
  obtain ⟨r1, r2, r3, r4, r5, r6, r7⟩ := entE_ok he h0
  have HLEN := hid (EntR.len he)
  have HL1 := hid he.ha
  have HL2 := hid he.hk
  have HL3 := hid he.hp
  have HL4 := hid he.hb
  have HR1 := hid (EntR.actor_at he)
  have HR2 := hid (EntR.key_at he)
  have HR3 := hid (EntR.prev_at he)
  have HV67 := hid (EntR.at67 he)
  have HN0 := hid he.hn0
  have HCL := hid he.hcl
  obtain ⟨num, time, act, actor, key, prev, ba, bn, bc, body⟩ := e
  have hv0 := EntR.at0 ⟨num, time, act, actor, key, prev, ba, bn, bc, body⟩
  have hv1 := EntR.at1 ⟨num, time, act, actor, key, prev, ba, bn, bc, body⟩
  have hv2 := EntR.at2 ⟨num, time, act, actor, key, prev, ba, bn, bc, body⟩
  simp only [aheadL]
  generalize EntR.v _ = hv at *
  simp only at r1 r2 r3 r4 r5 r6 r7 hv0 hv1 hv2 HLEN HL1 HL2 HL3 HL4 HR1 HR2 HR3 HV67 HN0 HCL
  clear he h0
  obtain ⟨i, rfl⟩ := Int.eq_ofNat_of_zero_le r1
  obtain ⟨z, rfl⟩ := Int.eq_ofNat_of_zero_le r3
  have hlI : longNat (i : Int) = i := by unfold longNat; rw [if_neg (by omega)]; rfl
  have hlZ : longNat (z : Int) = z := by unfold longNat; rw [if_neg (by omega)]; rfl
  have hp1 := hid (fun g w' h => putLong_c [75, 87, 69, 49] (some ⟨g, 0, none⟩) 4 4 (i : Int) w' rfl (by omega) h (fun h => by cases h))
  have hp2 := hid (fun a' c' w' h h0 => putLong_c ([75, 87, 69, 49] ++ longL (UInt64.ofNat i)) a' 12 c' (z : Int) w' rfl (by omega) h h0)
  rw [hlI] at hp1
  rw [hlZ] at hp2
  obtain ⟨x8, hx8⟩ : ∃ x8, UInt8.ofNat act.toNat = x8 := ⟨_, rfl⟩
  have hw8 : IntKind.u8.wrap act = (x8.toNat : Int) := by
    rw [← hx8, UInt8.toNat_ofNat', IntWalk.u8_in _ (by omega)]; omega
  obtain ⟨x32, hx32⟩ : ∃ x32, UInt32.ofNat bn = x32 := ⟨_, rfl⟩
  have hw32 : IntKind.u32.wrap (bn : Int) = (x32.toNat : Int) := by
    rw [← hx32, UInt32.toNat_ofNat', IntWalk.u32_in _ (by omega)]; omega
  simp only [Int.toNat_natCast]
  rw [hx8, hx32]
  have R7 := hid r7
  clear hlI hlZ r1 r2 r3 r4 r5 r6 r7 hx8 hx32
  go_enter Try.func103, Try.ntmps103
  go_upto_region 1 with (fail)
  generalize hwA : World.alloc w _ = wA
  have pA : Blk wA w.heap.size hv 79 := by rw [← hwA]; exact Blk.mk_alloc rfl rfl
  have eA : Ext w wA := by rw [← hwA]; exact (Ext.refl w).alloc _
  have PA := hid pA
  have EA := hid eA
  have HV0 := hid hv0
  have HV1 := hid hv1
  have HV2 := hid hv2
  clear hwA pA eA hv0 hv1 hv2
  obtain ⟨C, hC⟩ : ∃ C : World → Prop, C = Cls w wA [w.heap.size] [] := ⟨_, rfl⟩
  have hC0 : ∀ w', C w' ↔ Cls w wA [w.heap.size] [] w' := fun w' => by rw [hC]
  clear hC
  have HCC := hid hC0
  clear hC0
  have hCx : ∀ w w', C w → Ext w w' → C w' := fun w w' h1 h2 => (HCC.out w').2 (((HCC.out w).1 h1).ext h2)
  have hCA : C wA := (HCC.out _).2 (Cls.no_room EA.out (Kept.one PA.out.lt))
  have e0 : ∀ w1, C w1 → w1.cell? ⟨w.heap.size, 0, none⟩ = some (.int .i64 (i : Int)) := fun w1 h1 => (((HCC.out w1).1 h1).blk PA.out (by simp)).cell' HV0.out
  have e1 : ∀ w1, C w1 → w1.cell? ⟨w.heap.size, 1, none⟩ = some (.int .i64 (z : Int)) := fun w1 h1 => (((HCC.out w1).1 h1).blk PA.out (by simp)).cell' HV1.out
  refine wp_region_held_drew (S := C) (by kernel_rfl) (hCx _ _ hCA (Ext.refl _).drew) (fun hS0 => ?_)
  refine held_take 2 (v := ?tv10) rfl (by kernel_rfl) (by kernel_rfl) (by kernel_rfl) (fun _ _ _ h => h) (.inl ⟨rfl, ?ty10⟩) hS0 ?tr10
  case ty10 => (intro _ _; go_simp; try with_reducible rfl)
  case tr10 =>
  simp only [Act.put, List.setIfInBounds_toArray, List.set_cons_succ, List.set_cons_zero]
  refine held_take 3 (v := ?tv11) rfl (by kernel_rfl) (by kernel_rfl) (by kernel_rfl) (fun _ _ _ h => h) (.inl ⟨rfl, ?ty11⟩) hS0 ?tr11
  case ty11 => (intro wq hwq; have hcq := (e0) wq hwq; go_simp; try with_reducible rfl)
  case tr11 =>
  simp only [Act.put, List.setIfInBounds_toArray, List.set_cons_succ, List.set_cons_zero]
  refine held_take 5 (v := ?tv12) rfl (by kernel_rfl) (by kernel_rfl) (by kernel_rfl) (fun _ _ _ h => h) (.inl ⟨rfl, ?ty12⟩) hS0 ?tr12
  case ty12 => (intro _ _; go_simp; try with_reducible rfl)
  case tr12 =>
  simp only [Act.put, List.setIfInBounds_toArray, List.set_cons_succ, List.set_cons_zero]
  refine held_take 6 (v := ?tv13) rfl (by kernel_rfl) (by kernel_rfl) (by kernel_rfl) (fun _ _ _ h => h) (.inl ⟨rfl, ?ty13⟩) hS0 ?tr13
  case ty13 => (intro wq hwq; have hcq := (e1) wq hwq; go_simp; try with_reducible rfl)
  case tr13 =>
  simp only [Act.put, List.setIfInBounds_toArray, List.set_cons_succ, List.set_cons_zero]
  generalize wA.drew = wD at *
  have hwD : wA.heap.size ≤ wD.heap.size := ((HCC.out wD).1 hS0).kept.1
  have kc := fun (w : World) (C : Array Value) (n c : Nat) => Lib.run_convert_bytes_const (P := Try.prog) w 28 5 C n c Try.underlying28 Try.underlying5
  refine held_one (i := 0) (by kernel_rfl) rfl ?_
  intro Q' hQ
  go_wp2_with fail
  refine hQ _ _ (hCx _ _ hS0 ((Ext.refl wD).alloc _)) ?_
  clear hQ Q'
  try dsimp only
  try simp only [Act.put, List.setIfInBounds_toArray, List.set_cons_succ, List.set_cons_zero]
  refine held_one (i := 1) (by kernel_rfl) rfl ?_
  intro Q' hQ
  go_wp2_with fail
  refine hQ _ _ (hCx _ _ hS0 ((Ext.refl wD).alloc _)) ?_
  clear hQ Q' kc
  have C4 := hid (show Cells (wD.alloc (.cells #[Value.int .u8 75, Value.int .u8 87, Value.int .u8 69, Value.int .u8 49] 5 (4, 5))) (some ⟨wD.heap.size, 0, none⟩) (List.map u8v [75, 87, 69, 49]) from cells_const ([75, 87, 69, 49].map u8v) 5 wD (4, 5))
  have hE4 := hCx _ _ hS0 ((Ext.refl wD).alloc (.cells #[Value.int .u8 75, Value.int .u8 87, Value.int .u8 69, Value.int .u8 49] 5 (4, 5)))
  clear hS0
  generalize wD.alloc (.cells #[Value.int .u8 75, Value.int .u8 87, Value.int .u8 69, Value.int .u8 49] 5 (4, 5)) = wE at *
  generalize wD.heap.size = g4 at *
  try dsimp only
  try simp only [Act.put, List.setIfInBounds_toArray, List.set_cons_succ, List.set_cons_zero]
  have hS0 := hE4
  clear hE4
  refine held_one (i := 4) (by kernel_rfl) rfl ?_
  intro Q' hQ
  go_wp2_with fail
  refine (hp1.out g4 wE C4.out).mono ?_
  rintro e wF ⟨v1, rfl, own1, eF⟩
  obtain ⟨a1, k1, rfl, -, -, hn1, hc1⟩ := own_slice own1
  have hF := hCx _ _ hS0 eF
  go_wp2_with fail
  refine hQ _ _ hF ?_
  clear hQ Q' hS0 eF own1 hp1 C4
  have C1 := hid hc1
  have N1 := hid hn1
  clear hc1 hn1
  try dsimp only
  try simp only [Act.put, List.setIfInBounds_toArray, List.set_cons_succ, List.set_cons_zero]
  refine held_one (i := 7) (by kernel_rfl) rfl ?_
  intro Q' hQ
  go_wp2_with fail
  refine (hp2.out a1 k1 wF C1.out N1.out).mono ?_
  rintro e wG ⟨v2, rfl, own2, eG⟩
  have hG := hCx _ _ hF eG
  have own3 := own_lower own2 (show w.heap.size + 1 ≤ wF.heap.size from by have := PA.out.lt; have := ((HCC.out wF).1 hF).kept.1; omega)
  obtain ⟨a2, k2, rfl, -, -, hn2, hc2⟩ := own_slice own3
  go_wp2_with fail
  refine hQ _ _ hG ?_
  clear hQ Q' hF eG own2 C1 N1 hp2 hn2 hc2
  have O2 := hid own3
  clear own3
  try dsimp only
  try simp only [Act.put, List.setIfInBounds_toArray, List.set_cons_succ, List.set_cons_zero]
  have hS0 := hG
  clear hG
  refine held_take 8 (v := ?tv14) rfl (by kernel_rfl) (by kernel_rfl) (by kernel_rfl) (fun _ _ _ h => h) (.inl ⟨rfl, ?ty14⟩) hS0 ?tr14
  case ty14 => (intro _ _; go_simp; try with_reducible rfl)
  case tr14 =>
  simp only [Act.put, List.setIfInBounds_toArray, List.set_cons_succ, List.set_cons_zero]
  have PG := hid (((HCC.out wG).1 hS0).blk PA.out (by simp))
  have EG := hid ((HCC.out wG).1 hS0).base
  clear hS0 HCC hCx hCA e0 e1 PA EA
  refine wpAnyH_done (by kernel_rfl) ?_ _
  go_wp2
  obtain ⟨C, hC⟩ : ∃ C : World → Prop, C = Cls w wG [w.heap.size] [] := ⟨_, rfl⟩
  have hC0 : ∀ w', C w' ↔ Cls w wG [w.heap.size] [] w' := fun w' => by rw [hC]
  clear hC
  have HCC := hid hC0
  clear hC0
  have hCx : ∀ w w', C w → Ext w w' → C w' := fun w w' h1 h2 => (HCC.out w').2 (((HCC.out w).1 h1).ext h2)
  have hCA : C wG := (HCC.out _).2 (Cls.no_room EG.out (Kept.one PG.out.lt))
  have e2 : ∀ w1, C w1 → Cells w1 (some ⟨w.heap.size, 3, none⟩) (actor.map u8v) := fun w1 h1 => by
    have := Cells.of_blk (((HCC.out w1).1 h1).blk PG.out (by simp)) 3 16
    rwa [HR1.out] at this
  have e3 : ∀ w1, C w1 → Cells w1 (some ⟨w.heap.size, 19, none⟩) (key.map u8v) := fun w1 h1 => by
    have := Cells.of_blk (((HCC.out w1).1 h1).blk PG.out (by simp)) 19 16
    rwa [HR2.out] at this
  have e4 : ∀ w1, C w1 → w1.cell? ⟨w.heap.size, 2, none⟩ = some (.int .i64 act) := fun w1 h1 => (((HCC.out w1).1 h1).blk PG.out (by simp)).cell' HV2.out
  refine wp_region_held_drew (S := C) (by kernel_rfl) (hCx _ _ hCA (Ext.refl _).drew) (fun hS0 => ?_)
  refine held_take 0 (v := ?tv15) rfl (by kernel_rfl) (by kernel_rfl) (by kernel_rfl) (fun _ _ _ h => h) (.inl ⟨rfl, ?ty15⟩) hS0 ?tr15
  case ty15 => (intro _ _; go_simp; try with_reducible rfl)
  case tr15 =>
  simp only [Act.put, List.setIfInBounds_toArray, List.set_cons_succ, List.set_cons_zero]
  refine held_take 1 (v := ?tv16) rfl (by kernel_rfl) (by kernel_rfl) (by kernel_rfl) (fun _ _ _ h => h) (.inl ⟨rfl, ?ty16⟩) hS0 ?tr16
  case ty16 => (intro _ _; go_simp; try with_reducible rfl)
  case tr16 =>
  simp only [Act.put, List.setIfInBounds_toArray, List.set_cons_succ, List.set_cons_zero]
  refine held_take 2 (v := ?tv17) rfl (by kernel_rfl) (by kernel_rfl) (by kernel_rfl) (fun _ _ _ h => h) (.inl ⟨rfl, ?ty17⟩) hS0 ?tr17
  case ty17 => (intro wq hwq; have hcq := (e4) wq hwq; go_simp; try with_reducible rfl)
  case tr17 =>
  simp only [Act.put, List.setIfInBounds_toArray, List.set_cons_succ, List.set_cons_zero]
  refine held_take 3 (v := ?tv18) rfl (by kernel_rfl) (by kernel_rfl) (by kernel_rfl) (fun _ _ _ h => h) (.inl ⟨rfl, ?ty18⟩) hS0 ?tr18
  case ty18 => (intro _ _; go_simp; try with_reducible rfl)
  case tr18 =>
  simp only [Act.put, List.setIfInBounds_toArray, List.set_cons_succ, List.set_cons_zero]
  refine held_take 6 (v := ?tv19) rfl (by kernel_rfl) (by kernel_rfl) (by kernel_rfl) (fun _ _ _ h => h) (.inl ⟨rfl, ?ty19⟩) hS0 ?tr19
  case ty19 => (intro _ _; go_simp; try with_reducible rfl)
  case tr19 =>
  simp only [Act.put, List.setIfInBounds_toArray, List.set_cons_succ, List.set_cons_zero]
  refine held_take 7 (v := ?tv20) rfl (by kernel_rfl) (by kernel_rfl) (by kernel_rfl) (fun _ _ _ h => h) (.inl ⟨rfl, ?ty20⟩) hS0 ?tr20
  case ty20 => (intro _ _; go_simp; try with_reducible rfl)
  case tr20 =>
  simp only [Act.put, List.setIfInBounds_toArray, List.set_cons_succ, List.set_cons_zero]
  refine held_take 9 (v := ?tv21) rfl (by kernel_rfl) (by kernel_rfl) (by kernel_rfl) (fun _ _ _ h => h) (.inl ⟨rfl, ?ty21⟩) hS0 ?tr21
  case ty21 => (intro _ _; go_simp; try with_reducible rfl)
  case tr21 =>
  simp only [Act.put, List.setIfInBounds_toArray, List.set_cons_succ, List.set_cons_zero]
  refine held_take 10 (v := ?tv22) rfl (by kernel_rfl) (by kernel_rfl) (by kernel_rfl) (fun _ _ _ h => h) (.inl ⟨rfl, ?ty22⟩) hS0 ?tr22
  case ty22 => (intro _ _; go_simp; try with_reducible rfl)
  case tr22 =>
  simp only [Act.put, List.setIfInBounds_toArray, List.set_cons_succ, List.set_cons_zero]
  have OH := hid (ownsRow_ext O2.out (Ext.refl wG).drew)
  have hbH : w.heap.size + 1 ≤ wG.drew.heap.size := by have := PG.out.lt; have := ((HCC.out _).1 hS0).kept.1; omega
  clear O2
  generalize wG.drew = wH at *
  refine held_one (i := 4) (by kernel_rfl) rfl ?_
  intro Q' hQ
  go_wp2_with fail
  have hH2 := hCx _ _ hS0 ((Ext.refl wH).alloc (.cells #[.int .u8 (x8.toNat : Int)] 5))
  have CH := hid (show Cells (wH.alloc (.cells #[.int .u8 (x8.toNat : Int)] 5)) (some ⟨wH.heap.size, 0, none⟩) ([x8].map u8v) from Cells.of_blk0 (T := 5) (Blk.mk_alloc rfl rfl))
  have OH2 := hid (ownsRow_ext OH.out ((Ext.refl wH).alloc (.cells #[.int .u8 (x8.toNat : Int)] 5)))
  have hbH2 : w.heap.size + 1 ≤ (wH.alloc (.cells #[.int .u8 (x8.toNat : Int)] 5)).heap.size := by have := ((Ext.refl wH).alloc (.cells #[.int .u8 (x8.toNat : Int)] 5)).size; omega
  refine hQ _ _ hH2 ?_
  clear hQ Q' hS0 OH hbH
  generalize wH.alloc (.cells #[.int .u8 (x8.toNat : Int)] 5) = wH2 at *
  generalize wH.heap.size = g5 at *
  try dsimp only
  try simp only [Act.put, List.setIfInBounds_toArray, List.set_cons_succ, List.set_cons_zero]
  refine held_one (i := 5) (by kernel_rfl) rfl ?_
  intro Q' hQ
  go_wp2_with (at_builtin; refine wpl_append8 rfl _ _ rfl (w.heap.size + 1) (ys := [x8]) rfl rfl OH2.out rfl (fun h => by cases h) CH.out (by omega) hbH2 ?_)
  intro v3 wI own4 g4
  have OI := hid (show wI.ownsRow (w.heap.size + 1) 5 1 v3 21 (([75, 87, 69, 49] ++ longL (UInt64.ofNat i) ++ longL (UInt64.ofNat z) ++ [x8]).map u8v) from by simpa using own4)
  clear own4
  have hv := fun g' h => own_block_ge OH2.out g' h
  have hI : C wI := (HCC.out _).2 (((HCC.out _).1 hH2).grownF g4 (fun g' h => by have := hv g' h; simp; omega) (fun g' h => by have := hv g' h; omega))
  have hbI : w.heap.size + 1 ≤ wI.heap.size := Nat.le_trans hbH2 g4.size
  go_wp2_with fail
  refine hQ _ _ hI ?_
  clear hQ Q' hH2 g4 hv OH2 hbH2 CH
  try dsimp only
  try simp only [Act.put, List.setIfInBounds_toArray, List.set_cons_succ, List.set_cons_zero]
  refine held_one (i := 8) (by kernel_rfl) rfl ?_
  intro Q' hQ
  go_wp2_with (at_builtin; refine wpl_append8 rfl _ _ rfl (w.heap.size + 1) (ys := actor) rfl rfl OI.out HL1.out (fun h => by cases h) (e2 wI hI) (by omega) hbI ?_)
  intro v4 wJ own5 g5
  have OJ := hid (show wJ.ownsRow (w.heap.size + 1) 5 1 v4 37 (([75, 87, 69, 49] ++ longL (UInt64.ofNat i) ++ longL (UInt64.ofNat z) ++ [x8] ++ actor).map u8v) from by simpa using own5)
  clear own5
  have hv := fun g' h => own_block_ge OI.out g' h
  have hJ : C wJ := (HCC.out _).2 (((HCC.out _).1 hI).grownF g5 (fun g' h => by have := hv g' h; simp; omega) (fun g' h => by have := hv g' h; omega))
  have hbJ : w.heap.size + 1 ≤ wJ.heap.size := Nat.le_trans hbI g5.size
  go_wp2_with fail
  refine hQ _ _ hJ ?_
  clear hQ Q' hI g5 hv OI hbI
  try dsimp only
  try simp only [Act.put, List.setIfInBounds_toArray, List.set_cons_succ, List.set_cons_zero]
  refine held_one (i := 11) (by kernel_rfl) rfl ?_
  intro Q' hQ
  go_wp2_with (at_builtin; refine wpl_append8 rfl _ _ rfl (w.heap.size + 1) (ys := key) rfl rfl OJ.out HL2.out (fun h => by cases h) (e3 wJ hJ) (by omega) hbJ ?_)
  intro v5 wK own6 g6
  have OK := hid (show wK.ownsRow (w.heap.size + 1) 5 1 v5 53 (([75, 87, 69, 49] ++ longL (UInt64.ofNat i) ++ longL (UInt64.ofNat z) ++ [x8] ++ actor ++ key).map u8v) from by simpa using own6)
  clear own6
  have hv := fun g' h => own_block_ge OJ.out g' h
  have hK : C wK := (HCC.out _).2 (((HCC.out _).1 hJ).grownF g6 (fun g' h => by have := hv g' h; simp; omega) (fun g' h => by have := hv g' h; omega))
  go_wp2_with fail
  refine hQ _ _ hK ?_
  clear hQ Q' hJ g6 hv OJ hbJ
  try dsimp only
  try simp only [Act.put, List.setIfInBounds_toArray, List.set_cons_succ, List.set_cons_zero]
  have hS0 := hK
  clear hK
  refine held_take 12 (v := ?tv23) rfl (by kernel_rfl) (by kernel_rfl) (by kernel_rfl) (fun _ _ _ h => h) (.inl ⟨rfl, ?ty23⟩) hS0 ?tr23
  case ty23 => (intro _ _; go_simp; try with_reducible rfl)
  case tr23 =>
  simp only [Act.put, List.setIfInBounds_toArray, List.set_cons_succ, List.set_cons_zero]
  have PK := hid (((HCC.out wK).1 hS0).blk PG.out (by simp))
  have EK := hid ((HCC.out wK).1 hS0).base
  clear hS0 HCC hCx hCA e2 e3 e4 PG EG
  refine wpAnyH_done (by kernel_rfl) ?_ _
  go_wp2
  obtain ⟨C, hC⟩ : ∃ C : World → Prop, C = Cls w wK [w.heap.size] [] := ⟨_, rfl⟩
  have hC0 : ∀ w', C w' ↔ Cls w wK [w.heap.size] [] w' := fun w' => by rw [hC]
  clear hC
  have HCC := hid hC0
  clear hC0
  have hCx : ∀ w w', C w → Ext w w' → C w' := fun w w' h1 h2 => (HCC.out w').2 (((HCC.out w).1 h1).ext h2)
  have hCA : C wK := (HCC.out _).2 (Cls.no_room EK.out (Kept.one PK.out.lt))
  have e2 : ∀ w1, C w1 → Cells w1 (some ⟨w.heap.size, 35, none⟩) (prev.map u8v) := fun w1 h1 => by
    have := Cells.of_blk (((HCC.out w1).1 h1).blk PK.out (by simp)) 35 32
    rwa [HR3.out] at this
  have e4 : ∀ w1, C w1 → w1.cell? ⟨w.heap.size, 67, none⟩ = some (.slice ba bn bc) := fun w1 h1 => (((HCC.out w1).1 h1).blk PK.out (by simp)).cell' HV67.out
  refine wp_region_held_drew (S := C) (by kernel_rfl) (hCx _ _ hCA (Ext.refl _).drew) (fun hS0 => ?_)
  refine held_take 0 (v := ?tv24) rfl (by kernel_rfl) (by kernel_rfl) (by kernel_rfl) (fun _ _ _ h => h) (.inl ⟨rfl, ?ty24⟩) hS0 ?tr24
  case ty24 => (intro _ _; go_simp; try with_reducible rfl)
  case tr24 =>
  simp only [Act.put, List.setIfInBounds_toArray, List.set_cons_succ, List.set_cons_zero]
  refine held_take 1 (v := ?tv25) rfl (by kernel_rfl) (by kernel_rfl) (by kernel_rfl) (fun _ _ _ h => h) (.inl ⟨rfl, ?ty25⟩) hS0 ?tr25
  case ty25 => (intro _ _; go_simp; try with_reducible rfl)
  case tr25 =>
  simp only [Act.put, List.setIfInBounds_toArray, List.set_cons_succ, List.set_cons_zero]
  refine held_take 2 (v := ?tv26) rfl (by kernel_rfl) (by kernel_rfl) (by kernel_rfl) (fun _ _ _ h => h) (.inl ⟨rfl, ?ty26⟩) hS0 ?tr26
  case ty26 => (intro _ _; go_simp; try with_reducible rfl)
  case tr26 =>
  simp only [Act.put, List.setIfInBounds_toArray, List.set_cons_succ, List.set_cons_zero]
  refine held_take 4 (v := ?tv27) rfl (by kernel_rfl) (by kernel_rfl) (by kernel_rfl) (fun _ _ _ h => h) (.inl ⟨rfl, ?ty27⟩) hS0 ?tr27
  case ty27 => (intro _ _; go_simp; try with_reducible rfl)
  case tr27 =>
  simp only [Act.put, List.setIfInBounds_toArray, List.set_cons_succ, List.set_cons_zero]
  refine held_take 5 (v := ?tv28) rfl (by kernel_rfl) (by kernel_rfl) (by kernel_rfl) (fun _ _ _ h => h) (.inl ⟨rfl, ?ty28⟩) hS0 ?tr28
  case ty28 => (intro wq hwq; have hcq := (e4) wq hwq; go_simp; try with_reducible rfl)
  case tr28 =>
  simp only [Act.put, List.setIfInBounds_toArray, List.set_cons_succ, List.set_cons_zero]
  refine held_take 6 (v := ?tv29) rfl (by kernel_rfl) (by kernel_rfl) (by kernel_rfl) (fun _ _ _ h => h) (.inl ⟨rfl, ?ty29⟩) hS0 ?tr29
  case ty29 => (intro _ _; go_simp; try with_reducible rfl)
  case tr29 =>
  simp only [Act.put, List.setIfInBounds_toArray, List.set_cons_succ, List.set_cons_zero]
  refine held_take 7 (v := ?tv30) rfl (by kernel_rfl) (by kernel_rfl) (by kernel_rfl) (fun _ _ _ h => h) (.inl ⟨rfl, ?ty30⟩) hS0 ?tr30
  case ty30 => (intro _ _; go_simp; try with_reducible rfl)
  case tr30 =>
  simp only [Act.put, List.setIfInBounds_toArray, List.set_cons_succ, List.set_cons_zero]
  have OL := hid (ownsRow_ext OK.out (Ext.refl wK).drew)
  have hbL : w.heap.size + 1 ≤ wK.drew.heap.size := by have := PK.out.lt; have := ((HCC.out _).1 hS0).kept.1; omega
  clear OK
  generalize wK.drew = wL at *
  refine held_one (i := 3) (by kernel_rfl) rfl ?_
  intro Q' hQ
  go_wp2_with (at_builtin; refine wpl_append8 rfl _ _ rfl (w.heap.size + 1) (ys := prev) rfl rfl OL.out HL3.out (fun h => by cases h) (e2 wL hS0) (by omega) hbL ?_)
  intro v6 wM own7 g7
  have hv := fun g' h => own_block_ge OL.out g' h
  have hM : C wM := (HCC.out _).2 (((HCC.out _).1 hS0).grownF g7 (fun g' h => by have := hv g' h; simp; omega) (fun g' h => by have := hv g' h; omega))
  have hbM : w.heap.size + 1 ≤ wM.heap.size := Nat.le_trans hbL g7.size
  have OM := hid (show wM.ownsRow (w.heap.size + 1) 5 1 v6 85 (([75, 87, 69, 49] ++ longL (UInt64.ofNat i) ++ longL (UInt64.ofNat z) ++ [x8] ++ actor ++ key ++ prev).map u8v) from by simpa using own7)
  clear own7
  obtain ⟨a6, k6, rfl, -, -, hn6, hc6⟩ := own_slice OM.out
  have C6 := hid hc6
  have N6 := hid hn6
  go_wp2_with fail
  refine hQ _ _ hM ?_
  clear hQ Q' hS0 g7 hv OL hbL hc6 hn6
  try dsimp only
  try simp only [Act.put, List.setIfInBounds_toArray, List.set_cons_succ, List.set_cons_zero]
  refine held_one (i := 8) (by kernel_rfl) rfl ?_
  intro Q' hQ
  go_wp2_with fail
  refine (putNumber_c ([75, 87, 69, 49] ++ longL (UInt64.ofNat i) ++ longL (UInt64.ofNat z) ++ [x8] ++ actor ++ key ++ prev) a6 85 k6 x32 wM (by simp [longL_length, HL1.out, HL2.out, HL3.out]) (by omega) C6.out N6.out).mono ?_
  rintro e wN ⟨v7, rfl, own8, eN⟩
  have ON := hid (own_lower own8 hbM)
  have hN := hCx _ _ hM eN
  clear own8 eN C6 N6 OM
  go_wp2_with fail
  refine hQ _ _ hN ?_
  clear hQ Q' hM hbM
  try dsimp only
  try simp only [Act.put, List.setIfInBounds_toArray, List.set_cons_succ, List.set_cons_zero]
  have hS0 := hN
  clear hN
  refine held_take 9 (v := ?tv31) rfl (by kernel_rfl) (by kernel_rfl) (by kernel_rfl) (fun _ _ _ h => h) (.inl ⟨rfl, ?ty31⟩) hS0 ?tr31
  case ty31 => (intro _ _; go_simp; try with_reducible rfl)
  case tr31 =>
  simp only [Act.put, List.setIfInBounds_toArray, List.set_cons_succ, List.set_cons_zero]
  have PN := hid (((HCC.out wN).1 hS0).blk PK.out (by simp))
  have EN := hid ((HCC.out wN).1 hS0).base
  clear hS0 HCC hCx hCA e2 e4 PK EK
  refine wpAnyH_done (by kernel_rfl) ?_ _
  have c67 := PN.out.cell' HV67.out
  have CB := HCL.out.ext EN.out
  have hbN : w.heap.size + 1 ≤ wN.heap.size := PN.out.lt
  go_wp2_with (at_builtin; refine wpl_append8 rfl _ _ rfl (w.heap.size + 1) (ys := body) rfl rfl ON.out HL4.out HN0.out CB (by have := R7.out; omega) hbN ?_)
  intro v8 wO own9 g9
  have hv := fun g' h => own_block_ge ON.out g' h
  go_wp2_with fail
  go_ret
  refine ⟨v8, rfl, own_lower (B := w.heap.size + 1) ?_ (Nat.le_succ _), EN.out.grown g9 (fun g' h => by have := hv g' h; omega)⟩
  simpa using own9
end

section
open Go Go.RowKit

/-- each block has its cells yet; a mark may have been set -/
def Rel (w w' : World) : Prop := w.heap.size ≤ w'.heap.size ∧ ∀ (k : Nat) c e z, w.heap[k]? = some (.cells c e z) → ∃ z', w'.heap[k]? = some (.cells c e z')
theorem Rel.refl (w : World) : Rel w w := ⟨Nat.le_refl _, fun k c e z h => ⟨z, h⟩⟩
theorem Rel.trans {a b c : World} (h : Rel a b) (k : Rel b c) : Rel a c := ⟨Nat.le_trans h.1 k.1, fun i x e z hx => by obtain ⟨z', h'⟩ := h.2 i x e z hx; exact k.2 i x e z' h'⟩
theorem Rel.ofExt {w w' : World} (h : Ext w w') : Rel w w' := ⟨h.size, fun k c e z hk => ⟨z, (h.block k (Array.getElem?_eq_some_iff.1 hk).1).trans hk⟩⟩
theorem Rel.cell {w w' : World} (h : Rel w w') {a : Addr} {v : Value} (hs : a.spot = none) (hc : w.cell? a = some v) : w'.cell? a = some v := by
  simp only [World.cell?] at hc ⊢
  cases hk : w.heap[a.block]? with
  | none => rw [hk] at hc; simp at hc
  | some o =>
    rw [hk] at hc
    cases o with
    | cells c e z => obtain ⟨z', h'⟩ := h.2 _ _ _ _ hk; rw [h']; exact hc
    | _ => simp at hc
theorem Cells.rel {w w' : World} {a : Option Addr} {xs : List Value} (h : Cells w a xs) (k : Rel w w') : Cells w' a xs := by
  rcases h with h | ⟨b, off, ha, h⟩
  · exact .inl h
  · exact .inr ⟨b, off, ha, fun i u hu => k.cell rfl (h i u hu)⟩

section
variable {P : Program} {ops : Array Oper} {Q : Exit → Act → World → Prop} {S : World → Prop}
theorem held_22 {i1 i2 j1 j2 : Nat} {o1 o2 p1 p2 : Oper} {r1 r2 r3 r4 : List Oper} {f : Nat} {listed : Array Bool} {a : Act} {w : World} {β γ1 γ2 : Type} (v : β → Value) (u1 : γ1 → Value) (u2 : γ2 → Value)
    (Φ : β → World → Prop) (Ψ1 : γ1 → World → Prop) (Ψ2 : γ2 → World → Prop) (mk : Value → Value → Value → Value → Act)
    (R0 : Region.ready .any ops listed = [i1, j1]) (Ri : Region.ready .any ops (listed.setIfInBounds i1 true) = [i2, j1]) (Rj : Region.ready .any ops (listed.setIfInBounds j1 true) = [i1, j2])
    (Rii : Region.ready .any ops ((listed.setIfInBounds i1 true).setIfInBounds i2 true) = [j1]) (Rij : Region.ready .any ops ((listed.setIfInBounds i1 true).setIfInBounds j1 true) = [i2, j2]) (Rjj : Region.ready .any ops ((listed.setIfInBounds j1 true).setIfInBounds j2 true) = [i1])
    (Riij : Region.ready .any ops (((listed.setIfInBounds i1 true).setIfInBounds i2 true).setIfInBounds j1 true) = [j2]) (Rijj : Region.ready .any ops (((listed.setIfInBounds i1 true).setIfInBounds j1 true).setIfInBounds j2 true) = [i2])
    (n1 : (i1 == j1) = false) (n2 : (i1 == j2) = false) (n3 : (i2 == j1) = false) (n4 : (i2 == j2) = false)
    (ho1 : ops.toList.drop i1 = o1 :: r1) (ho2 : ops.toList.drop i2 = o2 :: r2) (hp1 : ops.toList.drop j1 = p1 :: r3) (hp2 : ops.toList.drop j2 = p2 :: r4)
    (hΦ : ∀ b w w', Φ b w → Rel w w' → Φ b w') (hΨ1 : ∀ b w w', Ψ1 b w → Rel w w' → Ψ1 b w') (hΨ2 : ∀ b w w', Ψ2 b w → Rel w w' → Ψ2 b w')
    (hi1 : ∀ y1 y2 w, S w → ∀ Q' : Exit → Act → World → Prop, (∀ b w', S w' → Rel w w' → Φ b w' → Q' .normal (mk (v b) undef y1 y2) w') → wpList P ops Q' [o1] (mk undef undef y1 y2) w)
    (hi2 : ∀ b y1 y2 w, S w → Φ b w → ∀ Q' : Exit → Act → World → Prop, (∀ w', S w' → Rel w w' → Q' .normal (mk (v b) (v b) y1 y2) w') → wpList P ops Q' [o2] (mk (v b) undef y1 y2) w)
    (hj1 : ∀ x1 x2 w, S w → ∀ Q' : Exit → Act → World → Prop, (∀ b w', S w' → Rel w w' → Ψ1 b w' → Q' .normal (mk x1 x2 (u1 b) undef) w') → wpList P ops Q' [p1] (mk x1 x2 undef undef) w)
    (hj2 : ∀ x1 x2 b1 w, S w → ∀ Q' : Exit → Act → World → Prop, (∀ b w', S w' → Rel w w' → Ψ2 b w' → Q' .normal (mk x1 x2 (u1 b1) (u2 b)) w') → wpList P ops Q' [p2] (mk x1 x2 (u1 b1) undef) w)
    (ha : a = mk undef undef undef undef) (hS : S w)
    (h : ∀ b c1 c2 w', S w' → Φ b w' → Ψ1 c1 w' → Ψ2 c2 w' → wpAnyH P .any ops Q S f ((((listed.setIfInBounds i1 true).setIfInBounds i2 true).setIfInBounds j1 true).setIfInBounds j2 true) (mk (v b) (v b) (u1 c1) (u2 c2)) w') :
    wpAnyH P .any ops Q S (f + 4) listed a w := by
  have m1 : i1 ≠ j1 := by simpa using n1
  have m2 : i1 ≠ j2 := by simpa using n2
  have m3 : i2 ≠ j1 := by simpa using n3
  have m4 : i2 ≠ j2 := by simpa using n4
  -- i1, i2, j1 are over
  have Eiij : ∀ b c1 w, S w → Φ b w → Ψ1 c1 w → wpAnyH P .any ops Q S (f + 1) (((listed.setIfInBounds i1 true).setIfInBounds i2 true).setIfInBounds j1 true) (mk (v b) (v b) (u1 c1) undef) w := by
    intro b c1 w hS hb hc
    refine held_one Riij hp2 fun Q' hQ => ?_
    refine hj2 _ _ c1 w hS Q' fun c2 w' hS' hr hc2 => ?_
    exact hQ _ _ hS' (h b c1 c2 w' hS' (hΦ _ _ _ hb hr) (hΨ1 _ _ _ hc hr) hc2)
  -- i1, j1, j2 are over
  have Eijj : ∀ b c1 c2 w, S w → Φ b w → Ψ1 c1 w → Ψ2 c2 w → wpAnyH P .any ops Q S (f + 1) (((listed.setIfInBounds i1 true).setIfInBounds j1 true).setIfInBounds j2 true) (mk (v b) undef (u1 c1) (u2 c2)) w := by
    intro b c1 c2 w hS hb hc hc2
    refine held_one Rijj ho2 fun Q' hQ => ?_
    refine hi2 b _ _ w hS hb Q' fun w' hS' hr => ?_
    refine hQ _ _ hS' ?_
    rw [Array.setIfInBounds_comm (xs := (listed.setIfInBounds i1 true).setIfInBounds j1 true) _ _ (Ne.symm m4), Array.setIfInBounds_comm (xs := listed.setIfInBounds i1 true) _ _ (Ne.symm m3)]
    exact h b c1 c2 w' hS' (hΦ _ _ _ hb hr) (hΨ1 _ _ _ hc hr) (hΨ2 _ _ _ hc2 hr)
  have Eii : ∀ b w, S w → Φ b w → wpAnyH P .any ops Q S (f + 2) ((listed.setIfInBounds i1 true).setIfInBounds i2 true) (mk (v b) (v b) undef undef) w := by
    intro b w hS hb
    refine held_one Rii hp1 fun Q' hQ => ?_
    refine hj1 _ _ w hS Q' fun c1 w' hS' hr hc => ?_
    exact hQ _ _ hS' (Eiij b c1 w' hS' (hΦ _ _ _ hb hr) hc)
  have Eij : ∀ b c1 w, S w → Φ b w → Ψ1 c1 w → wpAnyH P .any ops Q S (f + 2) ((listed.setIfInBounds i1 true).setIfInBounds j1 true) (mk (v b) undef (u1 c1) undef) w := by
    intro b c1 w hS hb hc
    refine wpAnyH_all Rij (by simp) fun k hk => ?_
    have hk' : k = i2 ∨ k = j2 := by simpa using hk
    rcases hk' with rfl | rfl
    · refine wpOp_of_list (op_of_drop ho2) (hi2 b _ _ w hS hb _ fun w' hS' hr => ?_)
      refine ⟨hS', ?_⟩
      rw [Array.setIfInBounds_comm (xs := listed.setIfInBounds i1 true) _ _ (Ne.symm m3)]
      exact Eiij b c1 w' hS' (hΦ _ _ _ hb hr) (hΨ1 _ _ _ hc hr)
    · refine wpOp_of_list (op_of_drop hp2) (hj2 _ _ c1 w hS _ fun c2 w' hS' hr hc2 => ?_)
      exact ⟨hS', Eijj b c1 c2 w' hS' (hΦ _ _ _ hb hr) (hΨ1 _ _ _ hc hr) hc2⟩
  have Ejj : ∀ c1 c2 w, S w → Ψ1 c1 w → Ψ2 c2 w → wpAnyH P .any ops Q S (f + 2) ((listed.setIfInBounds j1 true).setIfInBounds j2 true) (mk undef undef (u1 c1) (u2 c2)) w := by
    intro c1 c2 w hS hc hc2
    refine held_one Rjj ho1 fun Q' hQ => ?_
    refine hi1 _ _ w hS Q' fun b w' hS' hr hb => ?_
    refine hQ _ _ hS' ?_
    rw [Array.setIfInBounds_comm (xs := listed.setIfInBounds j1 true) _ _ (Ne.symm m2), Array.setIfInBounds_comm (xs := listed) _ _ (Ne.symm m1)]
    exact Eijj b c1 c2 w' hS' hb (hΨ1 _ _ _ hc hr) (hΨ2 _ _ _ hc2 hr)
  have Ei : ∀ b w, S w → Φ b w → wpAnyH P .any ops Q S (f + 3) (listed.setIfInBounds i1 true) (mk (v b) undef undef undef) w := by
    intro b w hS hb
    refine wpAnyH_all Ri (by simp) fun k hk => ?_
    have hk' : k = i2 ∨ k = j1 := by simpa using hk
    rcases hk' with rfl | rfl
    · refine wpOp_of_list (op_of_drop ho2) (hi2 b _ _ w hS hb _ fun w' hS' hr => ?_)
      exact ⟨hS', Eii b w' hS' (hΦ _ _ _ hb hr)⟩
    · refine wpOp_of_list (op_of_drop hp1) (hj1 _ _ w hS _ fun c1 w' hS' hr hc => ?_)
      exact ⟨hS', Eij b c1 w' hS' (hΦ _ _ _ hb hr) hc⟩
  have Ej : ∀ c1 w, S w → Ψ1 c1 w → wpAnyH P .any ops Q S (f + 3) (listed.setIfInBounds j1 true) (mk undef undef (u1 c1) undef) w := by
    intro c1 w hS hc
    refine wpAnyH_all Rj (by simp) fun k hk => ?_
    have hk' : k = i1 ∨ k = j2 := by simpa using hk
    rcases hk' with rfl | rfl
    · refine wpOp_of_list (op_of_drop ho1) (hi1 _ _ w hS _ fun b w' hS' hr hb => ?_)
      refine ⟨hS', ?_⟩
      rw [Array.setIfInBounds_comm (xs := listed) _ _ (Ne.symm m1)]
      exact Eij b c1 w' hS' hb (hΨ1 _ _ _ hc hr)
    · refine wpOp_of_list (op_of_drop hp2) (hj2 _ _ c1 w hS _ fun c2 w' hS' hr hc2 => ?_)
      exact ⟨hS', Ejj c1 c2 w' hS' (hΨ1 _ _ _ hc hr) hc2⟩
  subst ha
  refine wpAnyH_all R0 (by simp) fun k hk => ?_
  have hk' : k = i1 ∨ k = j1 := by simpa using hk
  rcases hk' with rfl | rfl
  · refine wpOp_of_list (op_of_drop ho1) (hi1 _ _ w hS _ fun b w' hS' hr hb => ?_)
    exact ⟨hS', Ei b w' hS' hb⟩
  · refine wpOp_of_list (op_of_drop hp1) (hj1 _ _ w hS _ fun c1 w' hS' hr hc => ?_)
    exact ⟨hS', Ej c1 w' hS' hc⟩
end
end

section
open Go Go.RowKit

theorem run_conv_mark (t e : TypeId) (g n c : Nat) (cs : Array Value) (e2 : TypeId) (z : Nat × Nat) (w : World) {P : Program} (ht : P.underlying t = some (.slice e)) (he : P.underlying e = some (.int .u8)) (hb : w.heap[g]? = some (.cells cs e2 z)) :
    (convert t t (.slice (some ⟨g, 0, none⟩) n c)).run P w = .ok (.slice (some ⟨g, 0, none⟩) n c) (w.freeze ⟨g, cs.size, none⟩ 1) := by
  have hsh : w.shape? g = some (e2, cs.size) := by
    unfold World.shape?
    rw [hb]
  simp [convert, run_underlying ht, run_underlying he, markStringish, hsh]
theorem freeze_rel (w : World) (a : Addr) : Rel w (w.freeze a 1) := by
  unfold World.freeze
  rw [if_neg (by decide)]
  refine ⟨by simp, fun k c e z hk => ?_⟩
  simp only [Array.getElem?_modify]
  split
  · rw [hk]; simp
  · exact ⟨z, hk⟩
theorem freeze_grown (w : World) (a : Addr) : w.grownBy (w.freeze a 1) (some a.block) := by
  unfold World.freeze
  rw [if_neg (by decide)]
  refine ⟨rfl, rfl, rfl, by simp, fun k _ hk => ?_⟩
  simp only [Array.getElem?_modify]
  rw [if_neg (fun e => hk (by rw [e]))]
end

section
open Go Go.RowKit

section
variable {P : Program} {ops : Array Oper} {Q : Exit → Act → World → Prop} {S : World → Prop}
theorem held_three {α β γ : Type} (IA : α → World → Prop) (IB : β → World → Prop) (IC : γ → World → Prop) (μA : α → Nat) (μB : β → Nat) (μC : γ → Nat) (oA : α → Option Nat) (oB : β → Option Nat) (oC : γ → Option Nat) (L : α → β → γ → Array Bool) (mk : α → β → γ → Act) {f : Nat}
    (mA : ∀ x w w', IA x w → Rel w w' → IA x w') (mB : ∀ x w w', IB x w → Rel w w' → IB x w') (mC : ∀ x w w', IC x w → Rel w w' → IC x w')
    (hr : ∀ x y z, 0 < μA x + μB y + μC z → (Region.ready .any ops (L x y z)).all (fun i => oA x == some i || oB y == some i || oC z == some i) = true)
    (hne : ∀ x y z, 0 < μA x + μB y + μC z → (Region.ready .any ops (L x y z)).isEmpty = false)
    (hA : ∀ x y z w i, oA x = some i → S w → IA x w → ∃ o r, ops.toList.drop i = o :: r ∧ ∀ Q' : Exit → Act → World → Prop, (∀ x' w', S w' → Rel w w' → IA x' w' → μA x' + 1 = μA x → L x' y z = (L x y z).setIfInBounds i true → Q' .normal (mk x' y z) w') → wpList P ops Q' [o] (mk x y z) w)
    (hB : ∀ x y z w i, oB y = some i → S w → IB y w → ∃ o r, ops.toList.drop i = o :: r ∧ ∀ Q' : Exit → Act → World → Prop, (∀ y' w', S w' → Rel w w' → IB y' w' → μB y' + 1 = μB y → L x y' z = (L x y z).setIfInBounds i true → Q' .normal (mk x y' z) w') → wpList P ops Q' [o] (mk x y z) w)
    (hC : ∀ x y z w i, oC z = some i → S w → IC z w → ∃ o r, ops.toList.drop i = o :: r ∧ ∀ Q' : Exit → Act → World → Prop, (∀ z' w', S w' → Rel w w' → IC z' w' → μC z' + 1 = μC z → L x y z' = (L x y z).setIfInBounds i true → Q' .normal (mk x y z') w') → wpList P ops Q' [o] (mk x y z) w)
    (hfin : ∀ x y z w, μA x = 0 → μB y = 0 → μC z = 0 → S w → IA x w → IB y w → IC z w → wpAnyH P .any ops Q S f (L x y z) (mk x y z) w) :
    ∀ n x y z w, μA x + μB y + μC z = n → S w → IA x w → IB y w → IC z w → wpAnyH P .any ops Q S (f + n) (L x y z) (mk x y z) w := by
  intro n
  induction n with
  | zero => intro x y z w hn; exact hfin x y z w (by omega) (by omega) (by omega)
  | succ n ih =>
    intro x y z w hn hS iA iB iC
    have h1 := hne x y z (by omega)
    have h2 := hr x y z (by omega)
    rw [List.all_eq_true] at h2
    refine wpAnyH_all rfl (by intro h; rw [h] at h1; simp at h1) fun i hi => ?_
    have h3 := h2 i hi
    simp only [Bool.or_eq_true, beq_iff_eq] at h3
    rcases h3 with (h3 | h3) | h3
    · obtain ⟨o, r, ho, hw⟩ := hA x y z w i h3 hS iA
      exact wpOp_of_list (op_of_drop ho) (hw _ fun x' w' hS' hR hI hm hL => ⟨hS', by rw [← hL]; exact ih x' y z w' (by omega) hS' hI (mB _ _ _ iB hR) (mC _ _ _ iC hR)⟩)
    · obtain ⟨o, r, ho, hw⟩ := hB x y z w i h3 hS iB
      exact wpOp_of_list (op_of_drop ho) (hw _ fun y' w' hS' hR hI hm hL => ⟨hS', by rw [← hL]; exact ih x y' z w' (by omega) hS' (mA _ _ _ iA hR) hI (mC _ _ _ iC hR)⟩)
    · obtain ⟨o, r, ho, hw⟩ := hC x y z w i h3 hS iC
      exact wpOp_of_list (op_of_drop ho) (hw _ fun z' w' hS' hR hI hm hL => ⟨hS', by rw [← hL]; exact ih x y z' w' (by omega) hS' (mA _ _ _ iA hR) (mB _ _ _ iB hR) hI⟩)
theorem held_three' {α β γ : Type} (n : Nat) (x : α) (y : β) (z : γ) (IA : α → World → Prop) (IB : β → World → Prop) (IC : γ → World → Prop) (μA : α → Nat) (μB : β → Nat) (μC : γ → Nat) (oA : α → Option Nat) (oB : β → Option Nat) (oC : γ → Option Nat) (L : α → β → γ → Array Bool) (mk : α → β → γ → Act) {f F : Nat} {listed : Array Bool} {a : Act} {w : World}
    (hl : L x y z = listed) (ha : mk x y z = a) (hF : f + n = F) (hn : μA x + μB y + μC z = n) (hS : S w) (iA : IA x w) (iB : IB y w) (iC : IC z w)
    (mA : ∀ x w w', IA x w → Rel w w' → IA x w') (mB : ∀ x w w', IB x w → Rel w w' → IB x w') (mC : ∀ x w w', IC x w → Rel w w' → IC x w')
    (hr : ∀ x y z, 0 < μA x + μB y + μC z → (Region.ready .any ops (L x y z)).all (fun i => oA x == some i || oB y == some i || oC z == some i) = true)
    (hne : ∀ x y z, 0 < μA x + μB y + μC z → (Region.ready .any ops (L x y z)).isEmpty = false)
    (hA : ∀ x y z w i, oA x = some i → S w → IA x w → ∃ o r, ops.toList.drop i = o :: r ∧ ∀ Q' : Exit → Act → World → Prop, (∀ x' w', S w' → Rel w w' → IA x' w' → μA x' + 1 = μA x → L x' y z = (L x y z).setIfInBounds i true → Q' .normal (mk x' y z) w') → wpList P ops Q' [o] (mk x y z) w)
    (hB : ∀ x y z w i, oB y = some i → S w → IB y w → ∃ o r, ops.toList.drop i = o :: r ∧ ∀ Q' : Exit → Act → World → Prop, (∀ y' w', S w' → Rel w w' → IB y' w' → μB y' + 1 = μB y → L x y' z = (L x y z).setIfInBounds i true → Q' .normal (mk x y' z) w') → wpList P ops Q' [o] (mk x y z) w)
    (hC : ∀ x y z w i, oC z = some i → S w → IC z w → ∃ o r, ops.toList.drop i = o :: r ∧ ∀ Q' : Exit → Act → World → Prop, (∀ z' w', S w' → Rel w w' → IC z' w' → μC z' + 1 = μC z → L x y z' = (L x y z).setIfInBounds i true → Q' .normal (mk x y z') w') → wpList P ops Q' [o] (mk x y z) w)
    (hfin : ∀ x y z w, μA x = 0 → μB y = 0 → μC z = 0 → S w → IA x w → IB y w → IC z w → wpAnyH P .any ops Q S f (L x y z) (mk x y z) w) :
    wpAnyH P .any ops Q S F listed a w := by
  subst hl ha hF
  exact held_three IA IB IC μA μB μC oA oB oC L mk mA mB mC hr hne hA hB hC hfin n x y z w hn hS iA iB iC
end

inductive PlA where
  | n
  | o (b : Nat)
  | t (b : Nat)
inductive PlB where
  | n
  | o (b1 : Nat)
  | t (b1 b2 : Nat)
  | h (b1 b2 b3 : Nat)
inductive PlC where
  | n
  | o (g : Nat)
def PlA.v0 : PlA → Value | .n => undef | .o b => .slice (some ⟨b, 0, none⟩) 4 4 | .t b => .slice (some ⟨b, 0, none⟩) 4 4
def PlA.v1 : PlA → Value | .n => undef | .o _ => undef | .t b => .slice (some ⟨b, 0, none⟩) 4 4
def PlB.v0 : PlB → Value | .n => undef | .o b => .slice (some ⟨b, 0, none⟩) 8 8 | .t b _ => .slice (some ⟨b, 0, none⟩) 8 8 | .h b _ _ => .slice (some ⟨b, 0, none⟩) 8 8
def PlB.v1 : PlB → Value | .n => undef | .o _ => undef | .t _ b => .slice (some ⟨b, 0, none⟩) 8 8 | .h _ b _ => .slice (some ⟨b, 0, none⟩) 8 8
def PlB.v2 : PlB → Value | .n => undef | .o _ => undef | .t _ _ => undef | .h _ _ b => .slice (some ⟨b, 4, none⟩) 4 4
def PlC.v0 : PlC → Value | .n => undef | .o b => .slice (some ⟨b, 0, none⟩) 1 1
def PlA.d0 : PlA → Bool | .n => false | .o _ => true | .t _ => true
def PlA.d1 : PlA → Bool | .n => false | .o _ => false | .t _ => true
def PlB.d0 : PlB → Bool | .n => false | .o _ => true | .t _ _ => true | .h _ _ _ => true
def PlB.d1 : PlB → Bool | .n => false | .o _ => false | .t _ _ => true | .h _ _ _ => true
def PlB.d2 : PlB → Bool | .n => false | .o _ => false | .t _ _ => false | .h _ _ _ => true
def PlC.d0 : PlC → Bool | .n => false | .o _ => true
def PlA.m : PlA → Nat | .n => 2 | .o _ => 1 | .t _ => 0
def PlB.m : PlB → Nat | .n => 3 | .o _ => 2 | .t _ _ => 1 | .h _ _ _ => 0
def PlC.m : PlC → Nat | .n => 1 | .o _ => 0
def PlA.op : PlA → Option Nat | .n => some 0 | .o _ => some 1 | .t _ => none
def PlB.op : PlB → Option Nat | .n => some 4 | .o _ => some 7 | .t _ _ => some 21 | .h _ _ _ => none
def PlC.op : PlC → Option Nat | .n => some 11 | .o _ => none
def MagA (B : Nat) (w : World) (b : Nat) : Prop := B ≤ b ∧ ∃ zz, w.heap[b]? = some (.cells #[Value.int .u8 75, Value.int .u8 87, Value.int .u8 69, Value.int .u8 49] 5 zz)
def PlA.I (B : Nat) (w : World) : PlA → Prop | .n => True | .o b => MagA B w b | .t b => MagA B w b
def CellsB (w : World) (b o : Nat) (l : List UInt8) : Prop := Cells w (some ⟨b, o, none⟩) (l.map u8v)
def PlB.I (l1 l2 l3 : List UInt8) (w : World) : PlB → Prop | .n => True | .o b => CellsB w b 0 l1 | .t b c => CellsB w b 0 l1 ∧ CellsB w c 0 l2 | .h b c d => CellsB w b 0 l1 ∧ CellsB w c 0 l2 ∧ CellsB w d 4 l3
def PlC.I (l : List UInt8) (w : World) : PlC → Prop | .n => True | .o b => CellsB w b 0 l
theorem MagA.rel {B : Nat} {w w' : World} {b : Nat} (h : MagA B w b) (k : Rel w w') : MagA B w' b := ⟨h.1, by obtain ⟨z1, hz⟩ := h.2; exact k.2 _ _ _ _ hz⟩
theorem CellsB.rel {w w' : World} {b o : Nat} {l : List UInt8} (h : CellsB w b o l) (k : Rel w w') : CellsB w' b o l := Cells.rel h k
def plL (x : PlA) (y : PlB) (z : PlC) : Array Bool := #[x.d0, x.d1, true, true, y.d0, true, true, y.d1, true, true, true, z.d0, true, true, true, true, true, true, true, true, true, y.d2, true, true, false, false, false]
def plT (hv : List Value) (g i k : Nat) (act : Int) (x8 : UInt8) (ba : Option Addr) (bn bc : Nat) (x : PlA) (y : PlB) (z : PlC) : Act := { tmps := #[Value.agg hv.toArray, Value.pointer (some { block := g, off := 0 }), Value.slice none 0 0, x.v0, x.v1, Value.pointer (some { block := g, off := 0 }), Value.int IntKind.i64 (i : Int), y.v0, Value.pointer (some { block := g, off := 1 }), Value.int IntKind.i64 (k : Int), y.v1, Value.pointer (some { block := g, off := 2 }), Value.int IntKind.i64 act, Value.int IntKind.u8 (x8.toNat : Int), z.v0, Value.pointer (some { block := g, off := 3 }), Value.slice (some { block := g, off := 3 }) 16 16, Value.pointer (some { block := g, off := 19 }), Value.slice (some { block := g, off := 19 }) 16 16, Value.pointer (some { block := g, off := 35 }), Value.slice (some { block := g, off := 35 }) 32 32, Value.pointer (some { block := g, off := 67 }), Value.slice ba bn bc, Value.int IntKind.i64 (bn : Int), y.v2, Value.pointer (some { block := g, off := 67 }), Value.slice ba bn bc, undef, undef], defers := [] }

set_option maxRecDepth 100000 in
set_option maxHeartbeats 4000000 in
theorem plain_c (e : EntR) (w : World) (he : e.Ok w) (h0 : entE e = 0) :
    Calls Try.prog 94 #[.agg e.v.toArray] w fun x w' => ∃ v, x = .returned v ∧ w'.ownsRow w.heap.size 5 1 v (89 + e.bn) ((aheadL e).map u8v) ∧ Ext w w' := by
  have HLA := hid (aheadL_len he)
  obtain ⟨r1, r2, r3, r4, r5, r6, r7⟩ := entE_ok he h0
  have HLEN := hid (EntR.len he)
  have HL1 := hid he.ha
  have HL2 := hid he.hk
  have HL3 := hid he.hp
  have HL4 := hid he.hb
  have HR1 := hid (EntR.actor_at he)
  have HR2 := hid (EntR.key_at he)
  have HR3 := hid (EntR.prev_at he)
  have HV67 := hid (EntR.at67 he)
  have HN0 := hid he.hn0
  have HCL := hid he.hcl
  obtain ⟨num, time, act, actor, key, prev, ba, bn, bc, body⟩ := e
  have hv0 := EntR.at0 ⟨num, time, act, actor, key, prev, ba, bn, bc, body⟩
  have hv1 := EntR.at1 ⟨num, time, act, actor, key, prev, ba, bn, bc, body⟩
  have hv2 := EntR.at2 ⟨num, time, act, actor, key, prev, ba, bn, bc, body⟩
  have hcat0 : aheadL ⟨num, time, act, actor, key, prev, ba, bn, bc, body⟩ = [75, 87, 69, 49] ++ longL (UInt64.ofNat num.toNat) ++ longL (UInt64.ofNat time.toNat) ++ [UInt8.ofNat act.toNat] ++ actor ++ key ++ prev ++ octL (UInt32.ofNat bn) ++ body := rfl
  generalize aheadL _ = AL at *
  generalize EntR.v _ = hv at *
  simp only at r1 r2 r3 r4 r5 r6 r7 hv0 hv1 hv2 HLEN HL1 HL2 HL3 HL4 HR1 HR2 HR3 HV67 HN0 HCL HLA ⊢
  clear he h0
  obtain ⟨i, rfl⟩ := Int.eq_ofNat_of_zero_le r1
  obtain ⟨k, rfl⟩ := Int.eq_ofNat_of_zero_le r3
  have hp1 := hid (fun w' => rlong_c i w' (by omega))
  have hp2 := hid (fun w' => rlong_c k w' (by omega))
  have hp3 := hid (fun w' => rshort_c bn w' (by omega))
  obtain ⟨x8, hx8⟩ : ∃ x8, UInt8.ofNat act.toNat = x8 := ⟨_, rfl⟩
  have hw8 : IntKind.u8.wrap act = (x8.toNat : Int) := by
    rw [← hx8, UInt8.toNat_ofNat', IntWalk.u8_in _ (by omega)]; omega
  rw [hx8] at hcat0
  simp only [Int.toNat_natCast] at hcat0
  have HCAT := hid hcat0
  have R7 := hid r7
  clear r1 r2 r3 r4 r5 r6 r7 hx8 hcat0
  go_enter Try.func94, Try.ntmps94
  go_upto_region 1 with (fail)
  generalize hwA : World.alloc w _ = wA
  have pA : Blk wA w.heap.size hv 79 := by rw [← hwA]; exact Blk.mk_alloc rfl rfl
  have eA : Ext w wA := by rw [← hwA]; exact (Ext.refl w).alloc _
  have PA := hid pA
  have EA := hid eA
  have HV0 := hid hv0
  have HV1 := hid hv1
  have HV2 := hid hv2
  clear hwA pA eA hv0 hv1 hv2
  obtain ⟨C, hC⟩ : ∃ C : World → Prop, C = Cls w wA [w.heap.size] [] := ⟨_, rfl⟩
  have hC0 : ∀ w', C w' ↔ Cls w wA [w.heap.size] [] w' := fun w' => by rw [hC]
  clear hC
  have HCC := hid hC0
  clear hC0
  have hCx : ∀ w w', C w → Ext w w' → C w' := fun w w' h1 h2 => (HCC.out w').2 (((HCC.out w).1 h1).ext h2)
  have hCA : C wA := (HCC.out _).2 (Cls.no_room EA.out (Kept.one PA.out.lt))
  have e0 : ∀ w1, C w1 → w1.cell? ⟨w.heap.size, 0, none⟩ = some (.int .i64 (i : Int)) := fun w1 h1 => (((HCC.out w1).1 h1).blk PA.out (by simp)).cell' HV0.out
  have e1 : ∀ w1, C w1 → w1.cell? ⟨w.heap.size, 1, none⟩ = some (.int .i64 (k : Int)) := fun w1 h1 => (((HCC.out w1).1 h1).blk PA.out (by simp)).cell' HV1.out
  have e2 : ∀ w1, C w1 → w1.cell? ⟨w.heap.size, 2, none⟩ = some (.int .i64 act) := fun w1 h1 => (((HCC.out w1).1 h1).blk PA.out (by simp)).cell' HV2.out
  have e67 : ∀ w1, C w1 → w1.cell? ⟨w.heap.size, 67, none⟩ = some (.slice ba bn bc) := fun w1 h1 => (((HCC.out w1).1 h1).blk PA.out (by simp)).cell' HV67.out
  refine wp_region_held_drew (S := C) (by kernel_rfl) (hCx _ _ hCA (Ext.refl _).drew) (fun hS0 => ?_)
  refine held_take 2 (v := ?tv32) rfl (by kernel_rfl) (by kernel_rfl) (by kernel_rfl) (fun _ _ _ h => h) (.inl ⟨rfl, ?ty32⟩) hS0 ?tr32
  case ty32 => (intro _ _; go_simp; try with_reducible rfl)
  case tr32 =>
  simp only [Act.put, List.setIfInBounds_toArray, List.set_cons_succ, List.set_cons_zero]
  refine held_take 3 (v := ?tv33) rfl (by kernel_rfl) (by kernel_rfl) (by kernel_rfl) (fun _ _ _ h => h) (.inl ⟨rfl, ?ty33⟩) hS0 ?tr33
  case ty33 => (intro wq hwq; have hcq := (e0) wq hwq; go_simp; try with_reducible rfl)
  case tr33 =>
  simp only [Act.put, List.setIfInBounds_toArray, List.set_cons_succ, List.set_cons_zero]
  refine held_take 5 (v := ?tv34) rfl (by kernel_rfl) (by kernel_rfl) (by kernel_rfl) (fun _ _ _ h => h) (.inl ⟨rfl, ?ty34⟩) hS0 ?tr34
  case ty34 => (intro _ _; go_simp; try with_reducible rfl)
  case tr34 =>
  simp only [Act.put, List.setIfInBounds_toArray, List.set_cons_succ, List.set_cons_zero]
  refine held_take 6 (v := ?tv35) rfl (by kernel_rfl) (by kernel_rfl) (by kernel_rfl) (fun _ _ _ h => h) (.inl ⟨rfl, ?ty35⟩) hS0 ?tr35
  case ty35 => (intro wq hwq; have hcq := (e1) wq hwq; go_simp; try with_reducible rfl)
  case tr35 =>
  simp only [Act.put, List.setIfInBounds_toArray, List.set_cons_succ, List.set_cons_zero]
  refine held_take 8 (v := ?tv36) rfl (by kernel_rfl) (by kernel_rfl) (by kernel_rfl) (fun _ _ _ h => h) (.inl ⟨rfl, ?ty36⟩) hS0 ?tr36
  case ty36 => (intro _ _; go_simp; try with_reducible rfl)
  case tr36 =>
  simp only [Act.put, List.setIfInBounds_toArray, List.set_cons_succ, List.set_cons_zero]
  refine held_take 9 (v := ?tv37) rfl (by kernel_rfl) (by kernel_rfl) (by kernel_rfl) (fun _ _ _ h => h) (.inl ⟨rfl, ?ty37⟩) hS0 ?tr37
  case ty37 => (intro wq hwq; have hcq := (e2) wq hwq; go_simp; try with_reducible rfl)
  case tr37 =>
  simp only [Act.put, List.setIfInBounds_toArray, List.set_cons_succ, List.set_cons_zero]
  refine held_take 10 (v := ?tv38) rfl (by kernel_rfl) (by kernel_rfl) (by kernel_rfl) (fun _ _ _ h => h) (.inl ⟨rfl, ?ty38⟩) hS0 ?tr38
  case ty38 => (intro _ _; go_simp; try with_reducible rfl)
  case tr38 =>
  simp only [Act.put, List.setIfInBounds_toArray, List.set_cons_succ, List.set_cons_zero]
  refine held_take 12 (v := ?tv39) rfl (by kernel_rfl) (by kernel_rfl) (by kernel_rfl) (fun _ _ _ h => h) (.inl ⟨rfl, ?ty39⟩) hS0 ?tr39
  case ty39 => (intro _ _; go_simp; try with_reducible rfl)
  case tr39 =>
  simp only [Act.put, List.setIfInBounds_toArray, List.set_cons_succ, List.set_cons_zero]
  refine held_take 13 (v := ?tv40) rfl (by kernel_rfl) (by kernel_rfl) (by kernel_rfl) (fun _ _ _ h => h) (.inl ⟨rfl, ?ty40⟩) hS0 ?tr40
  case ty40 => (intro _ _; go_simp; try with_reducible rfl)
  case tr40 =>
  simp only [Act.put, List.setIfInBounds_toArray, List.set_cons_succ, List.set_cons_zero]
  refine held_take 14 (v := ?tv41) rfl (by kernel_rfl) (by kernel_rfl) (by kernel_rfl) (fun _ _ _ h => h) (.inl ⟨rfl, ?ty41⟩) hS0 ?tr41
  case ty41 => (intro _ _; go_simp; try with_reducible rfl)
  case tr41 =>
  simp only [Act.put, List.setIfInBounds_toArray, List.set_cons_succ, List.set_cons_zero]
  refine held_take 15 (v := ?tv42) rfl (by kernel_rfl) (by kernel_rfl) (by kernel_rfl) (fun _ _ _ h => h) (.inl ⟨rfl, ?ty42⟩) hS0 ?tr42
  case ty42 => (intro _ _; go_simp; try with_reducible rfl)
  case tr42 =>
  simp only [Act.put, List.setIfInBounds_toArray, List.set_cons_succ, List.set_cons_zero]
  refine held_take 16 (v := ?tv43) rfl (by kernel_rfl) (by kernel_rfl) (by kernel_rfl) (fun _ _ _ h => h) (.inl ⟨rfl, ?ty43⟩) hS0 ?tr43
  case ty43 => (intro _ _; go_simp; try with_reducible rfl)
  case tr43 =>
  simp only [Act.put, List.setIfInBounds_toArray, List.set_cons_succ, List.set_cons_zero]
  refine held_take 17 (v := ?tv44) rfl (by kernel_rfl) (by kernel_rfl) (by kernel_rfl) (fun _ _ _ h => h) (.inl ⟨rfl, ?ty44⟩) hS0 ?tr44
  case ty44 => (intro _ _; go_simp; try with_reducible rfl)
  case tr44 =>
  simp only [Act.put, List.setIfInBounds_toArray, List.set_cons_succ, List.set_cons_zero]
  refine held_take 18 (v := ?tv45) rfl (by kernel_rfl) (by kernel_rfl) (by kernel_rfl) (fun _ _ _ h => h) (.inl ⟨rfl, ?ty45⟩) hS0 ?tr45
  case ty45 => (intro _ _; go_simp; try with_reducible rfl)
  case tr45 =>
  simp only [Act.put, List.setIfInBounds_toArray, List.set_cons_succ, List.set_cons_zero]
  refine held_take 19 (v := ?tv46) rfl (by kernel_rfl) (by kernel_rfl) (by kernel_rfl) (fun _ _ _ h => h) (.inl ⟨rfl, ?ty46⟩) hS0 ?tr46
  case ty46 => (intro wq hwq; have hcq := (e67) wq hwq; go_simp; try with_reducible rfl)
  case tr46 =>
  simp only [Act.put, List.setIfInBounds_toArray, List.set_cons_succ, List.set_cons_zero]
  refine held_take 20 (v := ?tv47) rfl (by kernel_rfl) (by kernel_rfl) (by kernel_rfl) (fun _ _ _ h => h) (.inl ⟨rfl, ?ty47⟩) hS0 ?tr47
  case ty47 => (intro _ _; go_simp; try with_reducible rfl)
  case tr47 =>
  simp only [Act.put, List.setIfInBounds_toArray, List.set_cons_succ, List.set_cons_zero]
  refine held_take 22 (v := ?tv48) rfl (by kernel_rfl) (by kernel_rfl) (by kernel_rfl) (fun _ _ _ h => h) (.inl ⟨rfl, ?ty48⟩) hS0 ?tr48
  case ty48 => (intro _ _; go_simp; try with_reducible rfl)
  case tr48 =>
  simp only [Act.put, List.setIfInBounds_toArray, List.set_cons_succ, List.set_cons_zero]
  refine held_take 23 (v := ?tv49) rfl (by kernel_rfl) (by kernel_rfl) (by kernel_rfl) (fun _ _ _ h => h) (.inl ⟨rfl, ?ty49⟩) hS0 ?tr49
  case ty49 => (intro wq hwq; have hcq := (e67) wq hwq; go_simp; try with_reducible rfl)
  case tr49 =>
  simp only [Act.put, List.setIfInBounds_toArray, List.set_cons_succ, List.set_cons_zero]
  generalize wA.drew = wD at *
  have hlow : ∀ w1, C w1 → w.heap.size + 1 ≤ w1.heap.size := fun w1 h1 => by have := PA.out.lt; have := ((HCC.out w1).1 h1).kept.1; omega
  clear e0 e1 e2 e67
  obtain ⟨g, hg⟩ : ∃ g, w.heap.size = g := ⟨_, rfl⟩
  rw [hg] at hlow
  refine held_three' 6 PlA.n PlB.n PlC.n (fun x w1 => PlA.I (g + 1) w1 x) (fun y w1 => PlB.I (longL (UInt64.ofNat i)) (longL (UInt64.ofNat k)) (octL (UInt32.ofNat bn)) w1 y) (fun z w1 => PlC.I [x8] w1 z) PlA.m PlB.m PlC.m PlA.op PlB.op PlC.op plL (plT hv g i k act x8 ba bn bc)
    (by kernel_rfl) ?ha rfl rfl hS0 trivial trivial trivial ?mA ?mB ?mC ?hr ?hne ?hA ?hB ?hC ?hfin
  case ha => rw [← hg]; rfl
  case mA => intro x w1 w2 h k; cases x <;> first | exact h | exact MagA.rel h k
  case mB =>
    intro y w1 w2 h k
    cases y with
    | n => exact h
    | o b => exact CellsB.rel h k
    | t b c => exact ⟨CellsB.rel h.1 k, CellsB.rel h.2 k⟩
    | h b c d => exact ⟨CellsB.rel h.1 k, CellsB.rel h.2.1 k, CellsB.rel h.2.2 k⟩
  case mC => intro z w1 w2 h k; cases z <;> first | exact h | exact CellsB.rel h k
  case hr => intro x y z hm; cases x <;> cases y <;> cases z <;> first | exact absurd hm (Nat.lt_irrefl 0) | kernel_rfl
  case hne => intro x y z hm; cases x <;> cases y <;> cases z <;> first | exact absurd hm (Nat.lt_irrefl 0) | kernel_rfl
  case hA =>
    intro x y z w1 j hj hS1 hI
    have hb := hlow w1 hS1
    clear hS0
    cases x with
    | n =>
      cases hj
      refine ⟨_, _, rfl, fun Q' hQ => ?_⟩
      unfold plT
      simp only [PlA.v0, PlA.v1]
      go_wp2_with fail
      exact hQ (.o w1.heap.size) _ (hCx _ _ hS1 ((Ext.refl w1).alloc _)) (Rel.ofExt ((Ext.refl w1).alloc _)) ⟨hb, (0, 0), Blk.alloc_new w1 ([75, 87, 69, 49].map u8v) 5⟩ rfl rfl
    | o b =>
      cases hj
      obtain ⟨hb, zz, hcb⟩ := hI
      refine ⟨_, _, rfl, fun Q' hQ => ?_⟩
      have kc := run_conv_mark (P := Try.prog) 28 5 b 4 4 _ _ _ w1 Try.underlying28 Try.underlying5 hcb
      unfold plT
      simp only [PlA.v0, PlA.v1]
      have HCB := hid hcb
      clear hcb
      go_wp2_with fail
      exact hQ (.t b) _ ((HCC.out _).2 (((HCC.out _).1 hS1).grownF (freeze_grown w1 _) (fun g h => by cases h; simp; omega) (fun g h => by cases h; show _ ≤ b; omega))) (freeze_rel w1 _) (MagA.rel ⟨hb, zz, HCB.out⟩ (freeze_rel w1 _)) rfl rfl
    | t b => cases hj
  case hB =>
    intro x y z w1 j hj hS1 hI
    clear hS0
    cases y with
    | n =>
      cases hj
      refine ⟨_, _, rfl, fun Q' hQ => ?_⟩
      unfold plT
      simp only [PlB.v0, PlB.v1, PlB.v2]
      go_wp2_with fail
      refine (hp1.out w1).mono ?_
      rintro e w2 ⟨rfl, b2, e2⟩
      have hS2 := hCx _ _ hS1 e2
      have C2 := hid (Cells.of_blk0 b2)
      have hr := Rel.ofExt e2
      clear b2 e2
      go_wp2_with fail
      exact hQ (.o w1.heap.size) _ hS2 hr C2.out rfl rfl
    | o b =>
      cases hj
      refine ⟨_, _, rfl, fun Q' hQ => ?_⟩
      unfold plT
      simp only [PlB.v0, PlB.v1, PlB.v2]
      go_wp2_with fail
      refine (hp2.out w1).mono ?_
      rintro e w2 ⟨rfl, b2, e2⟩
      have hS2 := hCx _ _ hS1 e2
      have C2 := hid (Cells.of_blk0 b2)
      have hr := Rel.ofExt e2
      clear b2 e2
      go_wp2_with fail
      exact hQ (.t b w1.heap.size) _ hS2 hr ⟨CellsB.rel hI hr, C2.out⟩ rfl rfl
    | t b c =>
      cases hj
      refine ⟨_, _, rfl, fun Q' hQ => ?_⟩
      unfold plT
      simp only [PlB.v0, PlB.v1, PlB.v2]
      go_wp2_with fail
      refine (hp3.out w1).mono ?_
      rintro e w2 ⟨rfl, c2, e2⟩
      have hS2 := hCx _ _ hS1 e2
      have C2 := hid c2
      have hr := Rel.ofExt e2
      clear c2 e2
      go_wp2_with fail
      exact hQ (.h b c w1.heap.size) _ hS2 hr ⟨CellsB.rel hI.1 hr, CellsB.rel hI.2 hr, C2.out⟩ rfl rfl
    | h b c d => cases hj
  case hC =>
    intro x y z w1 j hj hS1 hI
    clear hS0
    cases z with
    | n =>
      cases hj
      refine ⟨_, _, rfl, fun Q' hQ => ?_⟩
      unfold plT
      simp only [PlC.v0]
      go_wp2_with fail
      exact hQ (.o w1.heap.size) _ (hCx _ _ hS1 ((Ext.refl w1).alloc _)) (Rel.ofExt ((Ext.refl w1).alloc _)) (Cells.of_blk0 (T := 5) (Blk.mk_alloc rfl rfl)) rfl rfl
    | o b => cases hj
  case hfin =>
    clear hS0 hp1 hp2 hp3
    intro x y z wF mx my mz hF iA iB iC
    obtain ⟨b, rfl⟩ : ∃ b, x = .t b := by cases x <;> first | exact ⟨_, rfl⟩ | cases mx
    obtain ⟨b1, b2, b3, rfl⟩ : ∃ b1 b2 b3, y = .h b1 b2 b3 := by cases y <;> first | exact ⟨_, _, _, rfl⟩ | cases my
    obtain ⟨b4, rfl⟩ : ∃ b, z = .o b := by cases z <;> first | exact ⟨_, rfl⟩ | cases mz
    obtain ⟨hb, zb, hcb⟩ := iA
    obtain ⟨k1, k2, k3⟩ := iB
    have k0 : Cells wF (some ⟨b, 0, none⟩) ([75, 87, 69, 49].map u8v) := by
      refine .inr ⟨b, 0, rfl, fun j u hu => ?_⟩
      rw [Nat.zero_add]
      simp only [World.cell?, hcb]
      exact (List.getElem?_toArray (xs := [75, 87, 69, 49].map u8v)).trans hu
    have PF := hid (((HCC.out wF).1 hF).blk PA.out (by simp))
    have k5 : Cells wF (some ⟨w.heap.size, 3, none⟩) (actor.map u8v) := by
      have := Cells.of_blk PF.out 3 16
      rwa [HR1.out] at this
    have k6 : Cells wF (some ⟨w.heap.size, 19, none⟩) (key.map u8v) := by
      have := Cells.of_blk PF.out 19 16
      rwa [HR2.out] at this
    have k7 : Cells wF (some ⟨w.heap.size, 35, none⟩) (prev.map u8v) := by
      have := Cells.of_blk PF.out 35 32
      rwa [HR3.out] at this
    rw [hg] at k5 k6 k7
    have K0 := hid k0
    have K1 := hid k1
    have K2 := hid k2
    have K3 := hid k3
    have K4 := hid iC
    have K5 := hid k5
    have K6 := hid k6
    have K7 := hid k7
    have K8 := hid (HCL.out.ext ((HCC.out wF).1 hF).base)
    clear k0 k1 k2 k3 iC k5 k6 k7 hcb hb hlow mx my mz
    unfold plT plL
    simp only [PlA.v0, PlA.v1, PlB.v0, PlB.v1, PlB.v2, PlC.v0, PlA.d0, PlA.d1, PlB.d0, PlB.d1, PlB.d2, PlC.d0]
    refine held_one (i := 24) (by kernel_rfl) rfl ?_
    intro Q' hQ
    go_wp2_with fail
    have hG := hCx _ _ hF ((Ext.refl wF).alloc (.cells #[.slice (some ⟨b, 0, none⟩) 4 4, .slice (some ⟨b1, 0, none⟩) 8 8, .slice (some ⟨b2, 0, none⟩) 8 8, .slice (some ⟨b4, 0, none⟩) 1 1, .slice (some ⟨g, 3, none⟩) 16 16, .slice (some ⟨g, 19, none⟩) 16 16, .slice (some ⟨g, 35, none⟩) 32 32, .slice (some ⟨b3, 4, none⟩) 4 4, .slice ba bn bc] 28))
    have BG := hid (show Blk (wF.alloc (.cells #[.slice (some ⟨b, 0, none⟩) 4 4, .slice (some ⟨b1, 0, none⟩) 8 8, .slice (some ⟨b2, 0, none⟩) 8 8, .slice (some ⟨b4, 0, none⟩) 1 1, .slice (some ⟨g, 3, none⟩) 16 16, .slice (some ⟨g, 19, none⟩) 16 16, .slice (some ⟨g, 35, none⟩) 32 32, .slice (some ⟨b3, 4, none⟩) 4 4, .slice ba bn bc] 28)) wF.heap.size [.slice (some ⟨b, 0, none⟩) 4 4, .slice (some ⟨b1, 0, none⟩) 8 8, .slice (some ⟨b2, 0, none⟩) 8 8, .slice (some ⟨b4, 0, none⟩) 1 1, .slice (some ⟨g, 3, none⟩) 16 16, .slice (some ⟨g, 19, none⟩) 16 16, .slice (some ⟨g, 35, none⟩) 32 32, .slice (some ⟨b3, 4, none⟩) 4 4, .slice ba bn bc] 28 from Blk.mk_alloc rfl rfl)
    have EG := hid ((Ext.refl wF).alloc (.cells #[.slice (some ⟨b, 0, none⟩) 4 4, .slice (some ⟨b1, 0, none⟩) 8 8, .slice (some ⟨b2, 0, none⟩) 8 8, .slice (some ⟨b4, 0, none⟩) 1 1, .slice (some ⟨g, 3, none⟩) 16 16, .slice (some ⟨g, 19, none⟩) 16 16, .slice (some ⟨g, 35, none⟩) 32 32, .slice (some ⟨b3, 4, none⟩) 4 4, .slice ba bn bc] 28))
    refine hQ _ _ hG ?_
    clear hQ Q'
    generalize wF.alloc (.cells #[.slice (some ⟨b, 0, none⟩) 4 4, .slice (some ⟨b1, 0, none⟩) 8 8, .slice (some ⟨b2, 0, none⟩) 8 8, .slice (some ⟨b4, 0, none⟩) 1 1, .slice (some ⟨g, 3, none⟩) 16 16, .slice (some ⟨g, 19, none⟩) 16 16, .slice (some ⟨g, 35, none⟩) 32 32, .slice (some ⟨b3, 4, none⟩) 4 4, .slice ba bn bc] 28) = wG at *
    try dsimp only
    try simp only [Act.put, List.setIfInBounds_toArray, List.set_cons_succ, List.set_cons_zero]
    refine held_one (i := 25) (by kernel_rfl) rfl ?_
    intro Q' hQ
    go_wp2_with fail
    have hcat : cat [(some ⟨b, 0, none⟩, 4, [75, 87, 69, 49]), (some ⟨b1, 0, none⟩, 8, longL (UInt64.ofNat i)), (some ⟨b2, 0, none⟩, 8, longL (UInt64.ofNat k)), (some ⟨b4, 0, none⟩, 1, [x8]), (some ⟨g, 3, none⟩, 16, actor), (some ⟨g, 19, none⟩, 16, key), (some ⟨g, 35, none⟩, 32, prev), (some ⟨b3, 4, none⟩, 4, octL (UInt32.ofNat bn)), (ba, bc, body)] = AL := by rw [HCAT.out]; simp [cat]
    have hlen := HLA.out
    refine (concat_c [(some ⟨b, 0, none⟩, 4, [75, 87, 69, 49]), (some ⟨b1, 0, none⟩, 8, longL (UInt64.ofNat i)), (some ⟨b2, 0, none⟩, 8, longL (UInt64.ofNat k)), (some ⟨b4, 0, none⟩, 1, [x8]), (some ⟨g, 3, none⟩, 16, actor), (some ⟨g, 19, none⟩, 16, key), (some ⟨g, 35, none⟩, 32, prev), (some ⟨b3, 4, none⟩, 4, octL (UInt32.ofNat bn)), (ba, bc, body)] wF.heap.size 9 9 wG rfl (by omega) (by omega) ?hg ?hc ?hn ?hl).mono ?_
    case hg =>
      intro j it hit
      match j, hit with
      | 0, hit => cases hit; exact BG.out.cell' rfl
      | 1, hit => cases hit; exact BG.out.cell' rfl
      | 2, hit => cases hit; exact BG.out.cell' rfl
      | 3, hit => cases hit; exact BG.out.cell' rfl
      | 4, hit => cases hit; unfold itemV; simp only; rw [HL1.out]; exact BG.out.cell' rfl
      | 5, hit => cases hit; unfold itemV; simp only; rw [HL2.out]; exact BG.out.cell' rfl
      | 6, hit => cases hit; unfold itemV; simp only; rw [HL3.out]; exact BG.out.cell' rfl
      | 7, hit => cases hit; exact BG.out.cell' rfl
      | 8, hit => cases hit; unfold itemV; simp only; rw [HL4.out]; exact BG.out.cell' rfl
    case hc =>
      intro it hit
      simp only [List.mem_cons, List.not_mem_nil, or_false] at hit
      rcases hit with rfl | rfl | rfl | rfl | rfl | rfl | rfl | rfl | rfl
      · exact K0.out.ext EG.out
      · exact Cells.ext K1.out EG.out
      · exact Cells.ext K2.out EG.out
      · exact Cells.ext K4.out EG.out
      · exact K5.out.ext EG.out
      · exact K6.out.ext EG.out
      · exact K7.out.ext EG.out
      · exact Cells.ext K3.out EG.out
      · exact K8.out.ext EG.out
    case hn =>
      intro it hit
      simp only [List.mem_cons, List.not_mem_nil, or_false] at hit
      rcases hit with rfl | rfl | rfl | rfl | rfl | rfl | rfl | rfl | rfl <;> first | (intro h; cases h; done) | exact fun h => (HN0.out h).2
    case hl => rw [hcat, hlen]; have := R7.out; omega
    rw [hcat, hlen]
    rintro e wH ⟨v, rfl, own, eH⟩
    have hH := hCx _ _ hG eH
    have OH := hid own
    clear own hcat hlen
    go_wp2_with fail
    refine hQ _ _ hH ?_
    clear hQ Q' hF hG eH
    try dsimp only
    try simp only [Act.put, List.setIfInBounds_toArray, List.set_cons_succ, List.set_cons_zero]
    have hS0 := hH
    clear hH
    refine held_take 26 (v := ?tv50) rfl (by kernel_rfl) (by kernel_rfl) (by kernel_rfl) (fun _ _ _ h => h) (.inl ⟨rfl, ?ty50⟩) hS0 ?tr50
    case ty50 => (intro _ _; go_simp; try with_reducible rfl)
    case tr50 =>
    simp only [Act.put, List.setIfInBounds_toArray, List.set_cons_succ, List.set_cons_zero]
    have EH := hid ((HCC.out wH).1 hS0).base
    have EGs := EG.out.size
    clear hS0 HCC hCx hCA
    refine wpAnyH_done (by kernel_rfl) ?_ _
    go_wp2
    go_ret
    exact ⟨v, rfl, own_lower OH.out (by have := PF.out.lt; omega), EH.out⟩
end

section
open Go Go.RowKit

noncomputable def entS (e : EntR) : List UInt8 := if entE e = 0 then sumL 3 (aheadL e) else List.replicate 32 0
theorem entS_len (e : EntR) : (entS e).length = 32 := by
  unfold entS; split
  · exact sumL_length _ _
  · simp
theorem agg_es : AggT Try.prog 32 32 := ⟨⟨_, Try.underlying32, rfl⟩, by kernel_rfl⟩

set_option maxRecDepth 100000 in
set_option maxHeartbeats 2000000 in
theorem entrySum_c (e : EntR) (w : World) (he : e.Ok w) :
    Calls Try.prog 48 #[.agg e.v.toArray] w fun x w' => x = .returned (.tuple #[.agg ((entS e).map u8v).toArray, .int .i64 (entE e)]) ∧ Ext w w' := by
  have HE := hid he
  have HLEN := hid (EntR.len he)
  have hff := hid (fun w' h => entryFault_c e w' h)
  have hah := hid (fun w' h0 h => ahead_c e w' h h0)
  have hal := hid (aheadL_len he)
  have hSL := hid (show ((entS e).map u8v).length = 32 by rw [List.length_map, entS_len])
  have oS := one_u8 (entS e)
  have hbn := hid (fun h => (entE_ok he h).2.2.2.2.2.2)
  obtain ⟨S, hS⟩ : ∃ S, entS e = S := ⟨_, rfl⟩
  rw [hS] at hSL oS ⊢
  unfold entS at hS
  obtain ⟨E, hE⟩ : ∃ E, entE e = E := ⟨_, rfl⟩
  rw [hE] at hff hah hS hbn ⊢
  clear hE he
  go_enter Try.func48, Try.ntmps48
  go_upto_region 1 with (fail)
  generalize hwA : World.alloc (World.alloc w _) _ = wA
  have bA : Blk wA w.heap.size e.v 79 := by rw [← hwA]; exact (Blk.mk_alloc rfl rfl).alloc _
  have zA : Blk wA (w.heap.size + 1) (List.replicate 32 (.int .u8 0)) 32 := by rw [← hwA]; exact Blk.mk_alloc (size_alloc _ _).symm rfl
  have eA : Ext w wA := by rw [← hwA]; exact ((Ext.refl w).alloc _).alloc _
  have BA := hid bA
  have ZA := hid zA
  have EA := hid eA
  clear hwA bA zA eA
  go_wp2_with (refine wpl_loadw rfl 79 (.tmp 1) rfl rfl BA.out agg_ent HLEN.out ?_)
  refine (hff.out wA (HE.out.ext EA.out)).mono ?_
  rintro x wB ⟨rfl, eB⟩
  have BB := hid (BA.out.ext eB)
  have ZB := hid (ZA.out.ext eB)
  have EB := hid (EA.out.ext eB)
  clear eB BA ZA EA hff
  by_cases q : E = 0
  · subst q
    rw [if_pos rfl] at hS
    go_wp2_with (refine wpl_loadw rfl 79 (.tmp 1) rfl rfl BB.out agg_ent HLEN.out ?_)
    refine (hah.out wB (by trivial) (HE.out.ext EB.out)).mono ?_
    rintro x wC ⟨v, rfl, own, eC⟩
    obtain ⟨a, c, rfl, hnc, hcm, h0, hcl⟩ := own_slice own
    have hso := sumOf_c 3 (aheadL e) (89 + e.bn) c a wC hal.out hnc hcm h0 hcl
    have hsv : sumOfV 3 (aheadL e) (89 + e.bn) = .tuple #[.agg (S.map u8v).toArray, .int .i64 0] := by
      have := hbn.out (by trivial)
      unfold sumOfV; rw [if_neg (by omega), if_pos (by omega), hS]
    rw [hsv] at hso
    have HSO := hid hso
    have ZC := hid (ZB.out.ext eC)
    have EC := hid (EB.out.ext eC)
    clear hso hsv eC own hcl ZB EB hS
    go_wp2_with fail
    refine HSO.out.mono ?_
    rintro x wD ⟨rfl, eD⟩
    have ZD := hid (ZC.out.ext eD)
    have ED := hid (EC.out.ext eD)
    clear eD ZC EC HSO
    go_wp2_with (refine wpl_storew rfl _ _ _ rfl rfl rfl ZD.out agg_es (by simp) hSL.out oS ?_)
    intro wE bE uE
    go_wp2_with fail
    exact ret_row2 rfl rfl bE agg_es hSL.out rfl ⟨rfl, uE.ext ED.out (by omega)⟩
  · rw [if_neg q] at hS
    have d1 : (E != 0) = true := by simpa using q
    clear q
    subst hS
    clear oS
    go_wp2_with (refine wpl_storew rfl _ _ _ rfl rfl rfl ZB.out agg_es (by simp) (xs := List.replicate 32 (.int .u8 0)) (by simp) (fun v hv => by rw [List.eq_of_mem_replicate hv]; rfl) ?_)
    intro wE bE uE
    go_wp2_with fail
    exact ret_row2 rfl rfl bE agg_es (by simp) rfl ⟨by rfl, uE.ext EB.out (by omega)⟩

set_option maxRecDepth 100000 in
set_option maxHeartbeats 2000000 in
theorem rentrySum_c (e : EntR) (w : World) (he : e.Ok w) (h0 : entE e = 0) :
    Calls Try.prog 49 #[.agg e.v.toArray] w fun x w' => x = .returned (.agg ((entS e).map u8v).toArray) ∧ Ext w w' := by
  have HE := hid he
  have HLEN := hid (EntR.len he)
  have hah := hid (fun w' h => plain_c e w' h h0)
  have hal := hid (aheadL_len he)
  have hSL := hid (show ((entS e).map u8v).length = 32 by rw [List.length_map, entS_len])
  have oS := one_u8 (entS e)
  have hbn := hid (entE_ok he h0).2.2.2.2.2.2
  have hS0 : entS e = sumL 3 (aheadL e) := by unfold entS; rw [if_pos h0]
  obtain ⟨S, hS⟩ : ∃ S, entS e = S := ⟨_, rfl⟩
  rw [hS] at hSL oS hS0 ⊢
  clear he h0 hS
  go_enter Try.func49, Try.ntmps49
  go_upto_region 1 with (fail)
  generalize hwA : World.alloc (World.alloc w _) _ = wA
  have bA : Blk wA w.heap.size e.v 79 := by rw [← hwA]; exact (Blk.mk_alloc rfl rfl).alloc _
  have zA : Blk wA (w.heap.size + 1) (List.replicate 32 (.int .u8 0)) 32 := by rw [← hwA]; exact Blk.mk_alloc (size_alloc _ _).symm rfl
  have eA : Ext w wA := by rw [← hwA]; exact ((Ext.refl w).alloc _).alloc _
  have BA := hid bA
  have ZA := hid zA
  have EA := hid eA
  clear hwA bA zA eA
  go_wp2_with (refine wpl_loadw rfl 79 (.tmp 1) rfl rfl BA.out agg_ent HLEN.out ?_)
  refine (hah.out wA (HE.out.ext EA.out)).mono ?_
  rintro x wC ⟨v, rfl, own, eC⟩
  obtain ⟨a, c, rfl, hnc, hcm, h0, hcl⟩ := own_slice own
  have hso := rsum_c 3 (aheadL e) (89 + e.bn) c a wC (by omega) (by omega) hal.out (by have := hbn.out; omega) hcl
  rw [← hS0] at hso
  have HSO := hid hso
  have ZC := hid (ZA.out.ext eC)
  have EC := hid (EA.out.ext eC)
  clear hso eC own hcl ZA EA hS0
  go_wp2_with fail
  refine HSO.out.mono ?_
  rintro x wD ⟨rfl, eD⟩
  have ZD := hid (ZC.out.ext eD)
  have ED := hid (EC.out.ext eD)
  clear eD ZC EC HSO
  go_wp2_with (refine wpl_storew rfl _ _ _ rfl rfl rfl ZD.out agg_es (by simp) hSL.out oS ?_)
  intro wE bE uE
  go_wp2_with fail
  exact ret_row rfl rfl bE agg_es hSL.out rfl ⟨rfl, uE.ext ED.out (by omega)⟩
end

section
open Go Go.RowKit

/-- the octets of an entry -/
noncomputable def entO (e : EntR) : List UInt8 := aheadL e ++ entS e
theorem entO_len {e : EntR} {w : World} (h : e.Ok w) : (entO e).length = 121 + e.bn := by
  unfold entO; rw [List.length_append, aheadL_len h, entS_len]; omega
def prPost (e : EntR) (w : World) (x : Ending) (w' : World) : Prop :=
  Ext w w' ∧ ((entE e = 0 ∧ ∃ v, x = .returned (.tuple #[v, .int .i64 0]) ∧ w'.ownsRow w.heap.size 5 1 v (121 + e.bn) ((entO e).map u8v)) ∨ (entE e ≠ 0 ∧ x = .returned (.tuple #[.slice none 0 0, .int .i64 (entE e)])))

set_option maxRecDepth 100000 in
set_option maxHeartbeats 2000000 in
theorem printEntry_c (e : EntR) (w : World) (he : e.Ok w) :
    Calls Try.prog 47 #[.agg e.v.toArray] w (prPost e w) := by
  have HE := hid he
  have HLEN := hid (EntR.len he)
  have hff := hid (fun w' h => entrySum_c e w' h)
  have hah := hid (fun w' h0 h => ahead_c e w' h h0)
  have hbn := hid (fun h => (entE_ok he h).2.2.2.2.2.2)
  have oS := one_u8 (entS e)
  have HSL := hid (entS_len e)
  have HSM := hid (show ((entS e).map u8v).length = 32 by rw [List.length_map, entS_len])
  obtain ⟨S, hS⟩ : ∃ S, entS e = S := ⟨_, rfl⟩
  rw [hS] at hff HSL HSM oS
  have HS := hid hS
  clear hS he
  obtain ⟨E, hE⟩ : ∃ E, entE e = E := ⟨_, rfl⟩
  rw [hE] at hff hah hbn
  have HE0 := hid hE
  clear hE
  go_enter Try.func47, Try.ntmps47
  go_upto_region 1 with (fail)
  generalize hwA : World.alloc w _ = wA
  have bA : Blk wA w.heap.size e.v 79 := by rw [← hwA]; exact Blk.mk_alloc rfl rfl
  have eA : Ext w wA := by rw [← hwA]; exact (Ext.refl w).alloc _
  have BA := hid bA
  have EA := hid eA
  clear hwA bA eA
  go_wp2_with (refine wpl_loadw rfl 79 (.tmp 1) rfl rfl BA.out agg_ent HLEN.out ?_)
  refine (hff.out wA (HE.out.ext EA.out)).mono ?_
  rintro x wB ⟨rfl, eB⟩
  have BB := hid (BA.out.ext eB)
  have EB := hid (EA.out.ext eB)
  clear eB BA EA hff
  have hszB : w.heap.size + 1 ≤ wB.heap.size := BB.out.lt
  by_cases q : E = 0
  · subst q
    go_wp2_with (refine wpl_storew rfl _ _ _ rfl rfl rfl (Blk.mk_alloc (vs := List.replicate 32 (.int .u8 0)) rfl rfl) agg_es (by simp) HSM.out oS ?_)
    intro wC sC uC
    have eC : Ext wB wC := uC.ext ((Ext.refl wB).alloc _) (Nat.le_refl _)
    have BC := hid (BB.out.ext eC)
    have EC := hid (EB.out.ext eC)
    have SC := hid sC
    have HBN := hid (hbn.out (by trivial))
    clear uC eC sC BB EB oS hbn
    obtain ⟨gs, hgs⟩ : ∃ gs, wB.heap.size = gs := ⟨_, rfl⟩
    rw [hgs] at SC hszB ⊢
    clear hgs
    go_upto_region 4 with (fail)
    obtain ⟨C, hC⟩ : ∃ C : World → Prop, C = Cls w wC [w.heap.size,gs] [] := ⟨_, rfl⟩
    have hC0 : ∀ w', C w' ↔ Cls w wC [w.heap.size,gs] [] w' := fun w' => by rw [hC]
    clear hC
    have HCC := hid hC0
    clear hC0
    have hCx : ∀ w w', C w → Ext w w' → C w' := fun w w' h1 h2 => (HCC.out w').2 (((HCC.out w).1 h1).ext h2)
    have hCA : C wC := (HCC.out _).2 (Cls.no_room EC.out (Kept.two BC.out.lt SC.out.lt))
    refine wp_region_held_drew (S := C) (by kernel_rfl) (hCx _ _ hCA (Ext.refl _).drew) (fun hS0 => ?_)
    refine held_take 2 (v := ?tv51) rfl (by kernel_rfl) (by kernel_rfl) (by kernel_rfl) (fun _ _ _ h => h) (.inl ⟨rfl, ?ty51⟩) hS0 ?tr51
    case ty51 => (intro _ _; go_simp; try with_reducible rfl)
    case tr51 =>
    simp only [Act.put, List.setIfInBounds_toArray, List.set_cons_succ, List.set_cons_zero]
    have hSz : ∀ w1, C w1 → w.heap.size + 2 ≤ w1.heap.size ∧ gs + 1 ≤ w1.heap.size := fun w1 h1 => by have := SC.out.lt; have := ((HCC.out w1).1 h1).kept.1; omega
    generalize wC.drew = wD at *
    refine held_one (i := 0) (by kernel_rfl) rfl ?_
    intro Q' hQ
    go_wp2_with (refine wpl_loadw rfl 79 (.tmp 1) rfl rfl (((HCC.out wD).1 hS0).blk BC.out (by simp)) agg_ent HLEN.out ?_)
    refine hQ _ _ hS0 ?_
    clear hQ Q'
    try dsimp only
    try simp only [Act.put, List.setIfInBounds_toArray, List.set_cons_succ, List.set_cons_zero]
    refine held_one (i := 1) (by kernel_rfl) rfl ?_
    intro Q' hQ
    go_wp2_with fail
    refine (hah.out wD (by trivial) (HE.out.ext ((HCC.out wD).1 hS0).base)).mono ?_
    rintro x wF ⟨v, rfl, own, eF⟩
    have hF := hCx _ _ hS0 eF
    have OF := hid own
    clear own
    go_wp2_with fail
    refine hQ _ _ hF ?_
    clear hQ Q'
    try dsimp only
    try simp only [Act.put, List.setIfInBounds_toArray, List.set_cons_succ, List.set_cons_zero]
    refine held_one (i := 3) (by kernel_rfl) rfl ?_
    intro Q' hQ
    have cS : Cells wF (some ⟨gs, 0, none⟩) (S.map u8v) := Cells.of_blk0 (((HCC.out wF).1 hF).blk SC.out (by simp))
    have hdF := hSz wD hS0
    go_wp2_with (at_builtin; refine wpl_append8 rfl _ _ rfl wD.heap.size (ys := S) rfl rfl OF.out HSL.out (fun h => by cases h) cS (by have := HBN.out; omega) eF.size ?_)
    intro v2 wG own2 gG
    have hv := fun g' h => own_block_ge OF.out g' h
    have hG : C wG := (HCC.out _).2 (((HCC.out _).1 hF).grownF gG (fun g' h => by have := hv g' h; simp; omega) (fun g' h => by have := hv g' h; omega))
    have OG := hid (own_lower own2 (show w.heap.size ≤ wD.heap.size by omega))
    clear own2
    go_wp2_with fail
    refine hQ _ _ hG ?_
    clear hQ Q' hS0 hF gG hv OF cS
    try dsimp only
    try simp only [Act.put, List.setIfInBounds_toArray, List.set_cons_succ, List.set_cons_zero]
    have hS0 := hG
    clear hG
    refine held_take 4 (v := ?tv52) rfl (by kernel_rfl) (by kernel_rfl) (by kernel_rfl) (fun _ _ _ h => h) (.inl ⟨rfl, ?ty52⟩) hS0 ?tr52
    case ty52 => (intro _ _; go_simp; try with_reducible rfl)
    case tr52 =>
    simp only [Act.put, List.setIfInBounds_toArray, List.set_cons_succ, List.set_cons_zero]
    refine held_take 5 (v := ?tv53) rfl (by kernel_rfl) (by kernel_rfl) (by kernel_rfl) (fun _ _ _ h => h) (.inl ⟨rfl, ?ty53⟩) hS0 ?tr53
    case ty53 => (intro _ _; go_simp; try with_reducible rfl)
    case tr53 =>
    simp only [Act.put, List.setIfInBounds_toArray, List.set_cons_succ, List.set_cons_zero]
    have EG := hid ((HCC.out wG).1 hS0).base
    clear hS0 HCC hCx hCA
    refine wpAnyH_done (by kernel_rfl) ?_ _
    go_wp2
    go_ret2
    refine ⟨EG.out, .inl ⟨HE0.out, v2, rfl, ?_⟩⟩
    rw [show 121 + e.bn = 89 + e.bn + 32 by omega]
    unfold entO
    rw [HS.out]
    simpa using OG.out
  · have d1 : (E != 0) = true := by simpa using q
    have HQ := hid q
    clear q
    go_wp2_with (refine wpl_storew rfl _ _ _ rfl rfl rfl (Blk.mk_alloc (vs := List.replicate 32 (.int .u8 0)) rfl rfl) agg_es (by simp) HSM.out oS ?_)
    intro wC sC uC
    have EC := hid (uC.ext (EB.out.alloc _) EB.out.size)
    clear uC sC
    go_wp2_with fail
    go_ret2
    exact ⟨EC.out, .inr ⟨by rw [HE0.out]; exact HQ.out, by rw [HE0.out]; rfl⟩⟩

set_option maxRecDepth 100000 in
set_option maxHeartbeats 2000000 in
theorem rprintEntry_c (e : EntR) (w : World) (he : e.Ok w) :
    Calls Try.prog 42 #[.agg e.v.toArray] w (prPost e w) := by
  have HE := hid he
  have HLEN := hid (EntR.len he)
  have hff := hid (fun w' h => entryError_c e w' h)
  have hes := hid (fun w' h0 h => rentrySum_c e w' h h0)
  have hah := hid (fun w' h0 h => plain_c e w' h h0)
  have hbn := hid (fun h => (entE_ok he h).2.2.2.2.2.2)
  have oS := one_u8 (entS e)
  have HSL := hid (entS_len e)
  have HSM := hid (show ((entS e).map u8v).length = 32 by rw [List.length_map, entS_len])
  obtain ⟨S, hS⟩ : ∃ S, entS e = S := ⟨_, rfl⟩
  rw [hS] at hes HSL HSM oS
  have HS := hid hS
  clear hS he
  obtain ⟨E, hE⟩ : ∃ E, entE e = E := ⟨_, rfl⟩
  rw [hE] at hff hes hah hbn
  have HE0 := hid hE
  clear hE
  go_enter Try.func42, Try.ntmps42
  go_upto_region 1 with (fail)
  generalize hwA : World.alloc w _ = wA
  have bA : Blk wA w.heap.size e.v 79 := by rw [← hwA]; exact Blk.mk_alloc rfl rfl
  have eA : Ext w wA := by rw [← hwA]; exact (Ext.refl w).alloc _
  have BA := hid bA
  have EA := hid eA
  clear hwA bA eA
  go_wp2_with (refine wpl_loadw rfl 79 (.tmp 1) rfl rfl BA.out agg_ent HLEN.out ?_)
  refine (hff.out wA (HE.out.ext EA.out)).mono ?_
  rintro x wB0 ⟨rfl, eB⟩
  have BB0 := hid (BA.out.ext eB)
  have EB0 := hid (EA.out.ext eB)
  clear eB BA EA hff
  by_cases q : E = 0
  · subst q
    go_wp2_with (refine wpl_loadw rfl 79 (.tmp 1) rfl rfl BB0.out agg_ent HLEN.out ?_)
    refine (hes.out wB0 (by trivial) (HE.out.ext EB0.out)).mono ?_
    rintro x wB ⟨rfl, eB⟩
    have BB := hid (BB0.out.ext eB)
    have EB := hid (EB0.out.ext eB)
    clear eB BB0 EB0 hes
    have hszB : w.heap.size + 1 ≤ wB.heap.size := BB.out.lt
    go_wp2_with (refine wpl_storew rfl _ _ _ rfl rfl rfl (Blk.mk_alloc (vs := List.replicate 32 (.int .u8 0)) rfl rfl) agg_es (by simp) HSM.out oS ?_)
    intro wC sC uC
    have eC : Ext wB wC := uC.ext ((Ext.refl wB).alloc _) (Nat.le_refl _)
    have BC := hid (BB.out.ext eC)
    have EC := hid (EB.out.ext eC)
    have SC := hid sC
    have HBN := hid (hbn.out (by trivial))
    clear uC eC sC BB EB oS hbn
    obtain ⟨gs, hgs⟩ : ∃ gs, wB.heap.size = gs := ⟨_, rfl⟩
    rw [hgs] at SC hszB ⊢
    clear hgs
    go_upto_region 5 with (fail)
    obtain ⟨C, hC⟩ : ∃ C : World → Prop, C = Cls w wC [w.heap.size,gs] [] := ⟨_, rfl⟩
    have hC0 : ∀ w', C w' ↔ Cls w wC [w.heap.size,gs] [] w' := fun w' => by rw [hC]
    clear hC
    have HCC := hid hC0
    clear hC0
    have hCx : ∀ w w', C w → Ext w w' → C w' := fun w w' h1 h2 => (HCC.out w').2 (((HCC.out w).1 h1).ext h2)
    have hCA : C wC := (HCC.out _).2 (Cls.no_room EC.out (Kept.two BC.out.lt SC.out.lt))
    refine wp_region_held_drew (S := C) (by kernel_rfl) (hCx _ _ hCA (Ext.refl _).drew) (fun hS0 => ?_)
    refine held_take 2 (v := ?tv54) rfl (by kernel_rfl) (by kernel_rfl) (by kernel_rfl) (fun _ _ _ h => h) (.inl ⟨rfl, ?ty54⟩) hS0 ?tr54
    case ty54 => (intro _ _; go_simp; try with_reducible rfl)
    case tr54 =>
    simp only [Act.put, List.setIfInBounds_toArray, List.set_cons_succ, List.set_cons_zero]
    have hSz : ∀ w1, C w1 → w.heap.size + 2 ≤ w1.heap.size ∧ gs + 1 ≤ w1.heap.size := fun w1 h1 => by have := SC.out.lt; have := ((HCC.out w1).1 h1).kept.1; omega
    generalize wC.drew = wD at *
    refine held_one (i := 0) (by kernel_rfl) rfl ?_
    intro Q' hQ
    go_wp2_with (refine wpl_loadw rfl 79 (.tmp 1) rfl rfl (((HCC.out wD).1 hS0).blk BC.out (by simp)) agg_ent HLEN.out ?_)
    refine hQ _ _ hS0 ?_
    clear hQ Q'
    try dsimp only
    try simp only [Act.put, List.setIfInBounds_toArray, List.set_cons_succ, List.set_cons_zero]
    refine held_one (i := 1) (by kernel_rfl) rfl ?_
    intro Q' hQ
    go_wp2_with fail
    refine (hah.out wD (by trivial) (HE.out.ext ((HCC.out wD).1 hS0).base)).mono ?_
    rintro x wF ⟨v, rfl, own, eF⟩
    have hF := hCx _ _ hS0 eF
    have OF := hid own
    clear own
    go_wp2_with fail
    refine hQ _ _ hF ?_
    clear hQ Q'
    try dsimp only
    try simp only [Act.put, List.setIfInBounds_toArray, List.set_cons_succ, List.set_cons_zero]
    refine held_one (i := 3) (by kernel_rfl) rfl ?_
    intro Q' hQ
    have cS : Cells wF (some ⟨gs, 0, none⟩) (S.map u8v) := Cells.of_blk0 (((HCC.out wF).1 hF).blk SC.out (by simp))
    have hdF := hSz wD hS0
    go_wp2_with (at_builtin; refine wpl_append8 rfl _ _ rfl wD.heap.size (ys := S) rfl rfl OF.out HSL.out (fun h => by cases h) cS (by have := HBN.out; omega) eF.size ?_)
    intro v2 wG own2 gG
    have hv := fun g' h => own_block_ge OF.out g' h
    have hG : C wG := (HCC.out _).2 (((HCC.out _).1 hF).grownF gG (fun g' h => by have := hv g' h; simp; omega) (fun g' h => by have := hv g' h; omega))
    have OG := hid (own_lower own2 (show w.heap.size ≤ wD.heap.size by omega))
    clear own2
    go_wp2_with fail
    refine hQ _ _ hG ?_
    clear hQ Q' hS0 hF gG hv OF cS
    try dsimp only
    try simp only [Act.put, List.setIfInBounds_toArray, List.set_cons_succ, List.set_cons_zero]
    have hS0 := hG
    clear hG
    refine held_take 4 (v := ?tv55) rfl (by kernel_rfl) (by kernel_rfl) (by kernel_rfl) (fun _ _ _ h => h) (.inl ⟨rfl, ?ty55⟩) hS0 ?tr55
    case ty55 => (intro _ _; go_simp; try with_reducible rfl)
    case tr55 =>
    simp only [Act.put, List.setIfInBounds_toArray, List.set_cons_succ, List.set_cons_zero]
    refine held_take 5 (v := ?tv56) rfl (by kernel_rfl) (by kernel_rfl) (by kernel_rfl) (fun _ _ _ h => h) (.inl ⟨rfl, ?ty56⟩) hS0 ?tr56
    case ty56 => (intro _ _; go_simp; try with_reducible rfl)
    case tr56 =>
    simp only [Act.put, List.setIfInBounds_toArray, List.set_cons_succ, List.set_cons_zero]
    have EG := hid ((HCC.out wG).1 hS0).base
    clear hS0 HCC hCx hCA
    refine wpAnyH_done (by kernel_rfl) ?_ _
    go_wp2
    go_ret2
    refine ⟨EG.out, .inl ⟨HE0.out, v2, rfl, ?_⟩⟩
    rw [show 121 + e.bn = 89 + e.bn + 32 by omega]
    unfold entO
    rw [HS.out]
    simpa using OG.out
  · have d1 : (E != 0) = true := by simpa using q
    have HQ := hid q
    clear q
    go_wp2_with fail
    go_ret2
    exact ⟨EB0.out, .inr ⟨by rw [HE0.out]; exact HQ.out, by rw [HE0.out]; rfl⟩⟩
end

section
open Go Go.RowKit

/-- the seal of a head -/
def sealHeadL (k : List UInt8) (C T : Int) (r1 r2 : List UInt8) : List UInt8 := sealL k (sumL 6 (headO C T r1 r2))
def sealHeadV (k : List UInt8) (C T : Int) (r1 r2 : List UInt8) : Value := if headE C T = 0 then .tuple #[.agg ((sealHeadL k C T r1 r2).map u8v).toArray, .int .i64 0] else .tuple #[zeros 64, .int .i64 4]
theorem headE_cases (C T : Int) : headE C T = 0 ∨ headE C T = 4 := by unfold headE; split <;> simp
theorem headO_length {C T : Int} {r1 r2 : List UInt8} (h1 : r1.length = 32) (h2 : r2.length = 32) : (headO C T r1 r2).length = 84 := by simp [headO, longL_length, h1, h2]
end

section
open Go Go.RowKit

def checkHeadE (k : List UInt8) (C T : Int) (r1 r2 s : List UInt8) : Int := if headE C T = 0 then (if sealHeadL k C T r1 r2 = s then 0 else 13) else 4
end

section
open Go Go.RowKit

theorem set_part (p m q : List Value) (v : Array Value) (hm : m.length = v.size) :
    v.zipIdx.foldl (fun cs (x : Value × Nat) => cs.setIfInBounds (p.length + x.2) x.1) (p ++ m ++ q).toArray = (p ++ v.toList ++ q).toArray := by
  rw [← Array.foldl_toList, Array.toList_zipIdx]
  obtain ⟨h1, h2⟩ := Great.foldl_set p.length v.toList 0 (p ++ m ++ q).toArray
  apply Array.ext_getElem?
  intro k
  rw [h2 k]
  simp only [Nat.add_zero, Array.length_toList, List.size_toArray, List.length_append, List.getElem?_toArray, Nat.zero_add]
  have hv : v.toList.length = v.size := Array.length_toList
  by_cases a1 : k < p.length
  · rw [if_neg (by omega), List.append_assoc, List.append_assoc, List.getElem?_append_left a1, List.getElem?_append_left a1]
  · by_cases a2 : k < p.length + v.size
    · rw [if_pos ⟨by omega, a2, by omega⟩, List.append_assoc, List.getElem?_append_right (by omega), List.getElem?_append_left (by rw [hv]; omega)]
    · rw [if_neg (by omega), List.getElem?_append_right (by rw [List.length_append]; omega), List.getElem?_append_right (by rw [List.length_append, hv]; omega)]
      congr 1
      rw [List.length_append, List.length_append, hv, hm]
theorem fill_part {place : Nat → Option (Nat × Nat)} {i off size : Nat} {v : Value} {rest : List (Nat × Value)} (p m q : List Value) (hp : place i = some (off, size)) (ho : off = p.length) (hv : v.cells.size = size) (hm : m.length = size) :
    Instr.fill place (p ++ m ++ q).toArray ((i, v) :: rest) = Instr.fill place (p ++ v.cells.toList ++ q).toArray rest := by
  rw [Instr.fill]
  simp only [hp]
  rw [if_neg (by simp [hv, ho, hm])]
  subst ho
  rw [← set_part p m q v.cells (by rw [hm, hv])]

section
variable {P : Program} {o : Oper} {a : Act}
theorem exec_cut {t e : TypeId} {x y z : Operand} {p : Option Addr} {n c k h : Nat} (ho : o.op = .slice t x (some y) (some z) none) (hx : a.eval x = .slice p n c) (hy : a.eval y = .int .i64 (k : Int)) (hz : a.eval z = .int .i64 (h : Int)) (hu : P.underlying t = some (.slice e)) (hs : (P.info? e).map (·.size) = some 1) (hk : k ≤ h) (hc : h ≤ c)
    {q : Option Addr} (hq : shift p c k = q) (w : World) : (execOp a.eval o).run P w = .ok (.value (.slice q (h - k) (c - k))) w := by
  subst hq
  have hr : (Instr.sliceAt t (.slice p n c) (some (.int .i64 (k : Int))) (some (.int .i64 (h : Int))) none).run P w = .ok (.slice (shift p c k) (h - k) (c - k)) w := by
    cases hq : P.info? e with
    | none => simp [hq] at hs
    | some i =>
      have hi : i.size = 1 := by simpa [hq] using hs
      have h1 : (0 : Int) ≤ k ∧ (k : Int) ≤ h ∧ (h : Int) ≤ c := by omega
      simp [Instr.sliceAt, Instr.slice, Instr.sliceBounds, Instr.sliceBound, asIntOf, run_underlying hu, sizeOf, typeInfo, hq, hi, h1.2.1, h1.2.2, hk, hc, shift]
  unfold execOp
  simp only [ho, hx, hy, hz, Option.map_some, Option.map_none, Sem.run_bind, hr, Result.andThen_ok, Sem.run_pure]
theorem exec_arrayOf {T e : TypeId} {x : Operand} {p : Option Addr} {n c m : Nat} (ho : o.op = .sliceToArrayPointer T x) (hx : a.eval x = .slice p m c) (hu : P.underlying T = some (.array n e)) (hl : n ≤ m) (w : World) : (execOp a.eval o).run P w = .ok (.value (.pointer p)) w := by
  unfold execOp
  simp only [ho, hx, Sem.run_bind, run_arrayAt hu hl, Result.andThen_ok, Sem.run_pure]
end

/-- what ParseHead says of a text -/
def parseHE (l : List UInt8) (n : Nat) : Int := if n < 84 then 1 else if l.take 4 = [75, 87, 72, 49] ∧ n = 84 then headE (long8 l 4 : Nat) (long8 l 12 : Nat) else 2
def parseHV (l : List UInt8) (n : Nat) : List Value := if parseHE l n = 0 then headV (long8 l 4 : Nat) (long8 l 12 : Nat) ((l.drop 20).take 32) ((l.drop 52).take 32) else headV 0 0 zero32 zero32
end

section
open Go Go.RowKit

/-- an entry without addresses -/
structure EntP where
  num : Int
  time : Int
  act : Int
  actor : List UInt8
  key : List UInt8
  prev : List UInt8
  body : List UInt8
def EntR.p (e : EntR) : EntP := ⟨e.num, e.time, e.act, e.actor, e.key, e.prev, e.body⟩
def EntP.r (x : EntP) : EntR := ⟨x.num, x.time, x.act, x.actor, x.key, x.prev, none, x.body.length, x.body.length, x.body⟩
noncomputable def entEP (x : EntP) : Int := entE x.r
theorem entE_p (e : EntR) : entE e = entEP e.p := rfl
def zero16 : List UInt8 := List.replicate 16 0
def zeroEP : EntP := ⟨0, 0, 0, zero16, zero16, List.replicate 32 0, []⟩
def zeroE : EntR := ⟨0, 0, 0, zero16, zero16, List.replicate 32 0, none, 0, 0, []⟩
theorem zeroE_p : zeroE.p = zeroEP := rfl
theorem zeroE_len : zeroE.v.length = 68 := rfl
theorem ent_one (e : EntR) : ∀ v ∈ e.v, v.oneCell' = true := by
  intro v hv
  unfold EntR.v at hv
  simp only [List.mem_cons, List.mem_append, List.not_mem_nil, or_false] at hv
  rcases hv with rfl | rfl | rfl | hv | hv | hv | rfl
  · rfl
  · rfl
  · rfl
  · exact one_u8 _ v hv
  · exact one_u8 _ v hv
  · exact one_u8 _ v hv
  · rfl
theorem info_ent : (Try.prog.info? 79).map (fun i => (i.zero, i.size, i.bytes)) = some (some (.agg zeroE.v.toArray), 68, 112) := by kernel_rfl
theorem fields_ent : (Try.prog.underlying 79).bind (fun d => match d with | .struct fields => fields.toList.mapM (fun f => (Try.prog.info? f.type).map fun i => (f.offset, i.size)) | _ => none) = some [(0, 1), (1, 1), (2, 1), (3, 16), (19, 16), (35, 32), (67, 1)] := by kernel_rfl
theorem built_ent6 (n t k : Int) (x y z : List UInt8) (hx : x.length = 16) (hy : y.length = 16) (hz0 : z.length = 32) : Try.prog.built 79 [(0, Value.int .i64 n), (1, Value.int .i64 t), (2, Value.int .i64 k), (3, Value.agg (x.map u8v).toArray), (4, Value.agg (y.map u8v).toArray), (5, Value.agg (z.map u8v).toArray)] = some (EntR.v ⟨n, t, k, x, y, z, none, 0, 0, []⟩).toArray := by
  obtain ⟨i0, hi, hz, hsz, hb1⟩ := info_parts info_ent
  have hf := fields_ent
  rw [Try.underlying79] at hf
  simp only [Option.bind_some] at hf
  unfold Program.built
  rw [hi, Try.underlying79]
  simp only [hz, hf]
  have h0 : (Value.agg zeroE.v.toArray).cells = (([] : List Value) ++ [Value.int .i64 0] ++ (Value.int .i64 0 :: Value.int .i64 0 :: (zero16.map u8v ++ (zero16.map u8v ++ ((List.replicate 32 (0 : UInt8)).map u8v ++ [Value.slice none 0 0]))))).toArray := rfl
  rw [h0, fill_part ([] : List Value) ([Value.int .i64 0]) (Value.int .i64 0 :: Value.int .i64 0 :: (zero16.map u8v ++ (zero16.map u8v ++ ((List.replicate 32 (0 : UInt8)).map u8v ++ [Value.slice none 0 0])))) rfl rfl rfl (by rfl)]
  have h1 : (([] : List Value) ++ (Value.int .i64 n).cells.toList ++ (Value.int .i64 0 :: Value.int .i64 0 :: (zero16.map u8v ++ (zero16.map u8v ++ ((List.replicate 32 (0 : UInt8)).map u8v ++ [Value.slice none 0 0]))))) = [Value.int .i64 n] ++ [Value.int .i64 0] ++ (Value.int .i64 0 :: (zero16.map u8v ++ (zero16.map u8v ++ ((List.replicate 32 (0 : UInt8)).map u8v ++ [Value.slice none 0 0])))) := by simp [Value.cells]
  rw [h1, fill_part [Value.int .i64 n] ([Value.int .i64 0]) (Value.int .i64 0 :: (zero16.map u8v ++ (zero16.map u8v ++ ((List.replicate 32 (0 : UInt8)).map u8v ++ [Value.slice none 0 0])))) rfl rfl rfl (by rfl)]
  have h2 : ([Value.int .i64 n] ++ (Value.int .i64 t).cells.toList ++ (Value.int .i64 0 :: (zero16.map u8v ++ (zero16.map u8v ++ ((List.replicate 32 (0 : UInt8)).map u8v ++ [Value.slice none 0 0]))))) = [Value.int .i64 n, Value.int .i64 t] ++ [Value.int .i64 0] ++ (zero16.map u8v ++ (zero16.map u8v ++ ((List.replicate 32 (0 : UInt8)).map u8v ++ [Value.slice none 0 0]))) := by simp [Value.cells]
  rw [h2, fill_part [Value.int .i64 n, Value.int .i64 t] ([Value.int .i64 0]) (zero16.map u8v ++ (zero16.map u8v ++ ((List.replicate 32 (0 : UInt8)).map u8v ++ [Value.slice none 0 0]))) rfl rfl rfl (by rfl)]
  have h3 : ([Value.int .i64 n, Value.int .i64 t] ++ (Value.int .i64 k).cells.toList ++ (zero16.map u8v ++ (zero16.map u8v ++ ((List.replicate 32 (0 : UInt8)).map u8v ++ [Value.slice none 0 0])))) = [Value.int .i64 n, Value.int .i64 t, Value.int .i64 k] ++ zero16.map u8v ++ (zero16.map u8v ++ ((List.replicate 32 (0 : UInt8)).map u8v ++ [Value.slice none 0 0])) := by simp [Value.cells]
  rw [h3, fill_part [Value.int .i64 n, Value.int .i64 t, Value.int .i64 k] (zero16.map u8v) (zero16.map u8v ++ ((List.replicate 32 (0 : UInt8)).map u8v ++ [Value.slice none 0 0])) rfl rfl (by simp [Value.cells, hx]) (by rfl)]
  have h4 : ([Value.int .i64 n, Value.int .i64 t, Value.int .i64 k] ++ (Value.agg (x.map u8v).toArray).cells.toList ++ (zero16.map u8v ++ ((List.replicate 32 (0 : UInt8)).map u8v ++ [Value.slice none 0 0]))) = ([Value.int .i64 n, Value.int .i64 t, Value.int .i64 k] ++ x.map u8v) ++ zero16.map u8v ++ ((List.replicate 32 (0 : UInt8)).map u8v ++ [Value.slice none 0 0]) := by simp [Value.cells]
  rw [h4, fill_part ([Value.int .i64 n, Value.int .i64 t, Value.int .i64 k] ++ x.map u8v) (zero16.map u8v) ((List.replicate 32 (0 : UInt8)).map u8v ++ [Value.slice none 0 0]) rfl (by simp [hx]) (by simp [Value.cells, hy]) (by rfl)]
  have h5 : (([Value.int .i64 n, Value.int .i64 t, Value.int .i64 k] ++ x.map u8v) ++ (Value.agg (y.map u8v).toArray).cells.toList ++ ((List.replicate 32 (0 : UInt8)).map u8v ++ [Value.slice none 0 0])) = ([Value.int .i64 n, Value.int .i64 t, Value.int .i64 k] ++ x.map u8v ++ y.map u8v) ++ (List.replicate 32 (0 : UInt8)).map u8v ++ [Value.slice none 0 0] := by simp [Value.cells]
  rw [h5, fill_part ([Value.int .i64 n, Value.int .i64 t, Value.int .i64 k] ++ x.map u8v ++ y.map u8v) ((List.replicate 32 (0 : UInt8)).map u8v) [Value.slice none 0 0] rfl (by simp [hx, hy]) (by simp [Value.cells, hz0]) (by rfl)]
  rw [Instr.fill]
  simp [Value.cells, EntR.v]
theorem built_ent7 (n t k : Int) (x y z : List UInt8) (ba : Option Addr) (bn bc : Nat) (l : List UInt8) (hx : x.length = 16) (hy : y.length = 16) (hz0 : z.length = 32) : Try.prog.built 79 [(0, Value.int .i64 n), (1, Value.int .i64 t), (2, Value.int .i64 k), (3, Value.agg (x.map u8v).toArray), (4, Value.agg (y.map u8v).toArray), (5, Value.agg (z.map u8v).toArray), (6, Value.slice ba bn bc)] = some (EntR.v ⟨n, t, k, x, y, z, ba, bn, bc, l⟩).toArray := by
  obtain ⟨i0, hi, hz, hsz, hb1⟩ := info_parts info_ent
  have hf := fields_ent
  rw [Try.underlying79] at hf
  simp only [Option.bind_some] at hf
  unfold Program.built
  rw [hi, Try.underlying79]
  simp only [hz, hf]
  have h0 : (Value.agg zeroE.v.toArray).cells = (([] : List Value) ++ [Value.int .i64 0] ++ (Value.int .i64 0 :: Value.int .i64 0 :: (zero16.map u8v ++ (zero16.map u8v ++ ((List.replicate 32 (0 : UInt8)).map u8v ++ [Value.slice none 0 0]))))).toArray := rfl
  rw [h0, fill_part ([] : List Value) ([Value.int .i64 0]) (Value.int .i64 0 :: Value.int .i64 0 :: (zero16.map u8v ++ (zero16.map u8v ++ ((List.replicate 32 (0 : UInt8)).map u8v ++ [Value.slice none 0 0])))) rfl rfl rfl (by rfl)]
  have h1 : (([] : List Value) ++ (Value.int .i64 n).cells.toList ++ (Value.int .i64 0 :: Value.int .i64 0 :: (zero16.map u8v ++ (zero16.map u8v ++ ((List.replicate 32 (0 : UInt8)).map u8v ++ [Value.slice none 0 0]))))) = [Value.int .i64 n] ++ [Value.int .i64 0] ++ (Value.int .i64 0 :: (zero16.map u8v ++ (zero16.map u8v ++ ((List.replicate 32 (0 : UInt8)).map u8v ++ [Value.slice none 0 0])))) := by simp [Value.cells]
  rw [h1, fill_part [Value.int .i64 n] ([Value.int .i64 0]) (Value.int .i64 0 :: (zero16.map u8v ++ (zero16.map u8v ++ ((List.replicate 32 (0 : UInt8)).map u8v ++ [Value.slice none 0 0])))) rfl rfl rfl (by rfl)]
  have h2 : ([Value.int .i64 n] ++ (Value.int .i64 t).cells.toList ++ (Value.int .i64 0 :: (zero16.map u8v ++ (zero16.map u8v ++ ((List.replicate 32 (0 : UInt8)).map u8v ++ [Value.slice none 0 0]))))) = [Value.int .i64 n, Value.int .i64 t] ++ [Value.int .i64 0] ++ (zero16.map u8v ++ (zero16.map u8v ++ ((List.replicate 32 (0 : UInt8)).map u8v ++ [Value.slice none 0 0]))) := by simp [Value.cells]
  rw [h2, fill_part [Value.int .i64 n, Value.int .i64 t] ([Value.int .i64 0]) (zero16.map u8v ++ (zero16.map u8v ++ ((List.replicate 32 (0 : UInt8)).map u8v ++ [Value.slice none 0 0]))) rfl rfl rfl (by rfl)]
  have h3 : ([Value.int .i64 n, Value.int .i64 t] ++ (Value.int .i64 k).cells.toList ++ (zero16.map u8v ++ (zero16.map u8v ++ ((List.replicate 32 (0 : UInt8)).map u8v ++ [Value.slice none 0 0])))) = [Value.int .i64 n, Value.int .i64 t, Value.int .i64 k] ++ zero16.map u8v ++ (zero16.map u8v ++ ((List.replicate 32 (0 : UInt8)).map u8v ++ [Value.slice none 0 0])) := by simp [Value.cells]
  rw [h3, fill_part [Value.int .i64 n, Value.int .i64 t, Value.int .i64 k] (zero16.map u8v) (zero16.map u8v ++ ((List.replicate 32 (0 : UInt8)).map u8v ++ [Value.slice none 0 0])) rfl rfl (by simp [Value.cells, hx]) (by rfl)]
  have h4 : ([Value.int .i64 n, Value.int .i64 t, Value.int .i64 k] ++ (Value.agg (x.map u8v).toArray).cells.toList ++ (zero16.map u8v ++ ((List.replicate 32 (0 : UInt8)).map u8v ++ [Value.slice none 0 0]))) = ([Value.int .i64 n, Value.int .i64 t, Value.int .i64 k] ++ x.map u8v) ++ zero16.map u8v ++ ((List.replicate 32 (0 : UInt8)).map u8v ++ [Value.slice none 0 0]) := by simp [Value.cells]
  rw [h4, fill_part ([Value.int .i64 n, Value.int .i64 t, Value.int .i64 k] ++ x.map u8v) (zero16.map u8v) ((List.replicate 32 (0 : UInt8)).map u8v ++ [Value.slice none 0 0]) rfl (by simp [hx]) (by simp [Value.cells, hy]) (by rfl)]
  have h5 : (([Value.int .i64 n, Value.int .i64 t, Value.int .i64 k] ++ x.map u8v) ++ (Value.agg (y.map u8v).toArray).cells.toList ++ ((List.replicate 32 (0 : UInt8)).map u8v ++ [Value.slice none 0 0])) = ([Value.int .i64 n, Value.int .i64 t, Value.int .i64 k] ++ x.map u8v ++ y.map u8v) ++ (List.replicate 32 (0 : UInt8)).map u8v ++ [Value.slice none 0 0] := by simp [Value.cells]
  rw [h5, fill_part ([Value.int .i64 n, Value.int .i64 t, Value.int .i64 k] ++ x.map u8v ++ y.map u8v) ((List.replicate 32 (0 : UInt8)).map u8v) [Value.slice none 0 0] rfl (by simp [hx, hy]) (by simp [Value.cells, hz0]) (by rfl)]
  have h6 : (([Value.int .i64 n, Value.int .i64 t, Value.int .i64 k] ++ x.map u8v ++ y.map u8v) ++ (Value.agg (z.map u8v).toArray).cells.toList ++ [Value.slice none 0 0]) = ([Value.int .i64 n, Value.int .i64 t, Value.int .i64 k] ++ x.map u8v ++ y.map u8v ++ z.map u8v) ++ [Value.slice none 0 0] ++ ([] : List Value) := by simp [Value.cells]
  rw [h6, fill_part ([Value.int .i64 n, Value.int .i64 t, Value.int .i64 k] ++ x.map u8v ++ y.map u8v ++ z.map u8v) ([Value.slice none 0 0]) ([] : List Value) rfl (by simp [hx, hy, hz0]) rfl (by rfl)]
  rw [Instr.fill]
  simp [Value.cells, EntR.v]
theorem exec_ent6 {o : Oper} {a : Act} {p0 p1 p2 p3 p4 p5 : Operand} {n t k : Int} {x y z : List UInt8} (ho : o.op = .build 79 #[(0, p0), (1, p1), (2, p2), (3, p3), (4, p4), (5, p5)]) (h0 : a.eval p0 = Value.int .i64 n) (h1 : a.eval p1 = Value.int .i64 t) (h2 : a.eval p2 = Value.int .i64 k) (h3 : a.eval p3 = Value.agg (x.map u8v).toArray) (h4 : a.eval p4 = Value.agg (y.map u8v).toArray) (h5 : a.eval p5 = Value.agg (z.map u8v).toArray) (hx : x.length = 16) (hy : y.length = 16) (hz0 : z.length = 32) (w : World) :
    (execOp a.eval o).run Try.prog w = .ok (.value (.agg (EntR.v ⟨n, t, k, x, y, z, none, 0, 0, []⟩).toArray)) w := by
  have h := run_build (P := Try.prog) w 79 #[(0, Value.int .i64 n), (1, Value.int .i64 t), (2, Value.int .i64 k), (3, Value.agg (x.map u8v).toArray), (4, Value.agg (y.map u8v).toArray), (5, Value.agg (z.map u8v).toArray)] _ (built_ent6 n t k x y z hx hy hz0)
  have he : (#[(0, p0), (1, p1), (2, p2), (3, p3), (4, p4), (5, p5)].map fun (r : Nat × Operand) => (r.1, a.eval r.2)) = #[(0, Value.int .i64 n), (1, Value.int .i64 t), (2, Value.int .i64 k), (3, Value.agg (x.map u8v).toArray), (4, Value.agg (y.map u8v).toArray), (5, Value.agg (z.map u8v).toArray)] := by simp [h0, h1, h2, h3, h4, h5]
  unfold execOp
  simp only [ho, Sem.run_bind]
  have h2 : (Instr.build 79 (#[(0, p0), (1, p1), (2, p2), (3, p3), (4, p4), (5, p5)].map fun (r : Nat × Operand) => (r.1, a.eval r.2))).run Try.prog w = .ok (.agg (EntR.v ⟨n, t, k, x, y, z, none, 0, 0, []⟩).toArray) w := by rw [he]; exact h
  rw [h2]
  rfl
theorem exec_ent7 {o : Oper} {a : Act} {p0 p1 p2 p3 p4 p5 p6 : Operand} {n t k : Int} {x y z : List UInt8} {ba : Option Addr} {bn bc : Nat} (l : List UInt8) (ho : o.op = .build 79 #[(0, p0), (1, p1), (2, p2), (3, p3), (4, p4), (5, p5), (6, p6)]) (h0 : a.eval p0 = Value.int .i64 n) (h1 : a.eval p1 = Value.int .i64 t) (h2 : a.eval p2 = Value.int .i64 k) (h3 : a.eval p3 = Value.agg (x.map u8v).toArray) (h4 : a.eval p4 = Value.agg (y.map u8v).toArray) (h5 : a.eval p5 = Value.agg (z.map u8v).toArray) (h6 : a.eval p6 = Value.slice ba bn bc) (hx : x.length = 16) (hy : y.length = 16) (hz0 : z.length = 32) (w : World) :
    (execOp a.eval o).run Try.prog w = .ok (.value (.agg (EntR.v ⟨n, t, k, x, y, z, ba, bn, bc, l⟩).toArray)) w := by
  have h := run_build (P := Try.prog) w 79 #[(0, Value.int .i64 n), (1, Value.int .i64 t), (2, Value.int .i64 k), (3, Value.agg (x.map u8v).toArray), (4, Value.agg (y.map u8v).toArray), (5, Value.agg (z.map u8v).toArray), (6, Value.slice ba bn bc)] _ (built_ent7 n t k x y z ba bn bc l hx hy hz0)
  have he : (#[(0, p0), (1, p1), (2, p2), (3, p3), (4, p4), (5, p5), (6, p6)].map fun (r : Nat × Operand) => (r.1, a.eval r.2)) = #[(0, Value.int .i64 n), (1, Value.int .i64 t), (2, Value.int .i64 k), (3, Value.agg (x.map u8v).toArray), (4, Value.agg (y.map u8v).toArray), (5, Value.agg (z.map u8v).toArray), (6, Value.slice ba bn bc)] := by simp [h0, h1, h2, h3, h4, h5, h6]
  unfold execOp
  simp only [ho, Sem.run_bind]
  have h2 : (Instr.build 79 (#[(0, p0), (1, p1), (2, p2), (3, p3), (4, p4), (5, p5), (6, p6)].map fun (r : Nat × Operand) => (r.1, a.eval r.2))).run Try.prog w = .ok (.agg (EntR.v ⟨n, t, k, x, y, z, ba, bn, bc, l⟩).toArray) w := by rw [he]; exact h
  rw [h2]
  rfl
end

section
open Go Go.RowKit

/-- the length of the body of the entry at a place, as its head says it -/
def bodyN (l : List UInt8) (p : Nat) : Nat := (word4 l (p + 85)).toNat
/-- the error of an entry's head -/
def headC (l : List UInt8) (at_ : Int) : Int :=
  if at_ < 0 then 4 else if (l.length : Int) < 89 ∨ (l.length : Int) - 89 < at_ then 1 else if (l.drop at_.toNat).take 4 ≠ [75, 87, 69, 49] then 2 else if 32768 < bodyN l at_.toNat then 5 else 0
theorem headC_zero {l : List UInt8} {at_ : Int} (h : headC l at_ = 0) : ∃ p : Nat, at_ = (p : Int) ∧ p + 89 ≤ l.length ∧ (l.drop p).take 4 = [75, 87, 69, 49] ∧ bodyN l p ≤ 32768 := by
  unfold headC at h
  split at h
  · cases h
  split at h
  · cases h
  split at h
  · cases h
  split at h
  · cases h
  rename_i h1 h2 h3 h4
  obtain ⟨p, rfl⟩ := Int.eq_ofNat_of_zero_le (show 0 ≤ at_ by omega)
  rw [Int.toNat_natCast] at h3 h4
  exact ⟨p, rfl, by omega, by simpa using h3, by omega⟩

set_option maxRecDepth 100000 in
set_option maxHeartbeats 2000000 in
theorem size_c (l : List UInt8) (a : Option Addr) (n c : Nat) (at_ : Int) (w : World) (hl : l.length = n) (hnc : n ≤ c) (hn : n ≤ 140737488355328) (hcl : Cells w a (l.map u8v)) :
    Calls Try.prog 96 #[.slice a n c, .int .i64 at_] w fun e w' => e = .returned (.tuple #[.int .i64 (if headC l at_ = 0 then ((121 + bodyN l at_.toNat : Nat) : Int) else 0), .int .i64 (headC l at_)]) ∧ Ext w w' := by
  have HL := hid hl
  have HC := hid hcl
  obtain ⟨R, hR⟩ : ∃ R, (if headC l at_ = 0 then ((121 + bodyN l at_.toNat : Nat) : Int) else 0) = R := ⟨_, rfl⟩
  rw [hR]
  obtain ⟨E, hE⟩ : ∃ E, headC l at_ = E := ⟨_, rfl⟩
  rw [hE] at hR ⊢
  unfold headC at hE
  rw [hl] at hE
  clear hcl hl
  by_cases a1 : at_ < 0
  · rw [if_pos a1] at hE
    subst hE
    rw [if_neg (by decide)] at hR
    subst hR
    have d1 : decide (at_ < 0) = true := decide_eq_true a1
    go_enter Try.func96, Try.ntmps96
    go_wp2
    go_ret2
    exact ⟨rfl, Ext.refl w⟩
  rw [if_neg a1] at hE
  obtain ⟨p, rfl⟩ := Int.eq_ofNat_of_zero_le (show 0 ≤ at_ by omega)
  rw [Int.toNat_natCast] at hE hR
  have d1 : decide ((p : Int) < 0) = false := decide_eq_false (by omega)
  have d1b : decide (p < 0) = false := decide_eq_false (by omega)
  clear a1
  by_cases a2 : n < 89
  · rw [if_pos (by omega)] at hE
    subst hE
    rw [if_neg (by decide)] at hR
    subst hR
    have d2 : decide ((n : Int) < 89) = true := decide_eq_true (by omega)
    have d2b : decide (n < 89) = true := decide_eq_true (by omega)
    go_enter Try.func96, Try.ntmps96
    go_wp2
    go_ret2
    exact ⟨rfl, Ext.refl w⟩
  have d2 : decide ((n : Int) < 89) = false := decide_eq_false (by omega)
  have d2b : decide (n < 89) = false := decide_eq_false (by omega)
  have hw1 : IntKind.i64.wrap ((n : Int) - 89) = (n : Int) - 89 := IntWalk.i64_in _ (by omega)
  by_cases a3 : (n : Int) - 89 < p
  · rw [if_pos (by omega)] at hE
    subst hE
    rw [if_neg (by decide)] at hR
    subst hR
    have d3 : decide ((n : Int) - 89 < p) = true := decide_eq_true a3
    go_enter Try.func96, Try.ntmps96
    go_wp2
    go_ret2
    exact ⟨rfl, Ext.refl w⟩
  have d3 : decide ((n : Int) - 89 < p) = false := decide_eq_false a3
  rw [if_neg (by omega)] at hE
  have hpn : p + 89 ≤ n := by omega
  have hw2 : IntKind.i64.wrap ((p : Int) + 4) = (p : Int) + 4 := IntWalk.i64_in _ (by omega)
  have hlt4 : ((l.drop p).take 4).length = 4 := by rw [List.length_take, List.length_drop, HL.out]; omega
  have hsc : Cells w (shift a c p) (((l.drop p).take 4).map u8v) := by rw [List.map_take, List.map_drop]; exact HC.out.shift c p 4 (by omega)
  have hs2 := run_string_of w (shift a c p) ((l.drop p).take 4) 4 (c - p) hsc hlt4.symm
  have hstl : (strOf ((l.drop p).take 4)).toList = (l.drop p).take 4 := by unfold strOf; rw [ByteArray.toList_mk]
  have hc4 : p + 4 ≤ c := by omega
  clear a2 a3 hsc hlt4
  by_cases a4 : (l.drop p).take 4 = [75, 87, 69, 49]
  rotate_left
  · rw [if_pos a4] at hE
    subst hE
    rw [if_neg (by decide)] at hR
    subst hR
    have hm2 : ((strOf ((l.drop p).take 4)).toList == [75, 87, 69, 49]) = false := by rw [hstl]; simpa using a4
    clear a4 hstl
    go_enter Try.func96, Try.ntmps96
    go_wp2_with (refine wpl_run rfl (exec_slice2 (k := p) (h := p + 4) rfl rfl rfl rfl Try.underlying28 size_u8 (by omega) hc4 rfl _) ?_)
    go_ret2
    exact ⟨rfl, Ext.refl w⟩
  rw [if_neg (by simpa using a4)] at hE
  have hm2 : (strOf ((l.drop p).take 4)).toList = [75, 87, 69, 49] := hstl.trans a4
  have hr4 : roomE n ((p + 85 : Nat) : Int) 4 = 0 := by unfold roomE; rw [if_neg (by omega), if_neg (by omega)]
  have hnum := number_c l a n c ((p + 85 : Nat) : Int) w HL.out hn hnc HC.out
  have hno : numOf l n ((p + 85 : Nat) : Int) = .tuple #[.int .u32 ((word4 l (p + 85)).toNat : Nat), .int .i64 0] := by rw [numOf, if_pos hr4]; rfl
  rw [hno] at hnum
  have HNUM := hid hnum
  unfold bodyN at hE hR
  obtain ⟨W, hW⟩ : ∃ W, word4 l (p + 85) = W := ⟨_, rfl⟩
  rw [hW] at hE hR HNUM
  have hWlt := W.toNat_lt
  have hw3 : IntKind.i64.wrap ((p : Int) + 89) = (p : Int) + 89 := IntWalk.i64_in _ (by omega)
  have hw4 : IntKind.i64.wrap ((p : Int) + 89 - 4) = ((p + 85 : Nat) : Int) := by rw [IntWalk.i64_in _ (by omega)]; omega
  clear a4 hstl hr4 hno hnum hW
  by_cases a5 : 32768 < W.toNat
  · rw [if_pos a5] at hE
    subst hE
    rw [if_neg (by decide)] at hR
    subst hR
    have d5 : decide (32768 < W.toNat) = true := decide_eq_true a5
    have d5b : decide ((32768 : Int) < (W.toNat : Int)) = true := decide_eq_true (by omega)
    go_enter Try.func96, Try.ntmps96
    go_wp2_with (refine wpl_run rfl (exec_slice2 (k := p) (h := p + 4) rfl rfl rfl rfl Try.underlying28 size_u8 (by omega) hc4 rfl _) ?_)
    refine HNUM.out.mono ?_
    rintro e w' ⟨rfl, e1⟩
    have E1 := hid e1
    clear e1 hs2
    go_wp2_with fail
    go_ret2
    exact ⟨rfl, E1.out⟩
  · rw [if_neg a5] at hE
    subst hE
    rw [if_pos rfl] at hR
    subst hR
    have d5 : decide (32768 < W.toNat) = false := decide_eq_false a5
    have d5b : decide ((32768 : Int) < (W.toNat : Int)) = false := decide_eq_false (by omega)
    have hw5 : IntKind.i64.wrap (W.toNat : Int) = (W.toNat : Int) := IntWalk.i64_in _ (by omega)
    have hw6 : IntKind.i64.wrap (89 + (W.toNat : Int)) = 89 + (W.toNat : Int) := IntWalk.i64_in _ (by omega)
    have hw7 : IntKind.i64.wrap (89 + (W.toNat : Int) + 32) = ((121 + W.toNat : Nat) : Int) := by rw [IntWalk.i64_in _ (by omega)]; omega
    go_enter Try.func96, Try.ntmps96
    go_wp2_with (refine wpl_run rfl (exec_slice2 (k := p) (h := p + 4) rfl rfl rfl rfl Try.underlying28 size_u8 (by omega) hc4 rfl _) ?_)
    refine HNUM.out.mono ?_
    rintro e w' ⟨rfl, e1⟩
    have E1 := hid e1
    clear e1 hs2
    go_wp2_with fail
    go_ret2
    exact ⟨rfl, E1.out⟩
end

section
open Go Go.RowKit

theorem ret_row3e {P : Program} {fn : Func} {R : Ending → World → Prop} {a : Act} {w : World} {p u q : Tmp} {ty : TypeId} {g : Nat} {vs : List Value} {T : TypeId}
    (hres : fn.results = #[.cell p ty, .tmp u, .tmp q]) (hp : a.tmps.getD p undef = .pointer (some ⟨g, 0, none⟩)) (hb : Blk w g vs T)
    {n : Nat} (ht : AggT P ty n) (hn : vs.length = n)
    (hdef : a.defers = []) (hR : R (.returned (.tuple #[.agg vs.toArray, a.tmps.getD u undef, a.tmps.getD q undef])) w) : bodyPost P fn R .ret a w := by
  have h1 := run_load_sub (P := P) (off := 0) hb ht (by omega)
  have h2 : (vs.drop 0).take n = vs := by simp [← hn]
  rw [h2] at h1
  refine bodyPost_ret (v := .tuple #[.agg vs.toArray, a.tmps.getD u undef, a.tmps.getD q undef]) ?_ hdef hR
  simp only [Array.getD_eq_getD_getElem?] at hp
  simp [results, hres, hp, asAddr, h1]
theorem guard_es : Try.prog.eqGuardType Try.prog.depth 32 = false := by kernel_rfl
theorem part_at {w : World} {b off : Nat} {l : List UInt8} (h : ∀ (i : Nat) (u : Value), (l.map u8v)[i]? = some u → w.cell? ⟨b, off + i, none⟩ = some u) (k m : Nat) : CellsAt w ⟨b, off + k, none⟩ (((l.drop k).take m).map u8v) := by
  intro j u hu
  rw [addr_add]
  have hj : j < m := by have := (List.getElem?_eq_some_iff.1 hu).1; simp at this; omega
  rw [Nat.add_assoc]
  refine h (k + j) u ?_
  rw [List.map_take, List.map_drop, List.getElem?_take_of_lt hj, List.getElem?_drop] at hu
  exact hu
theorem part_cells {w : World} {b off : Nat} {l : List UInt8} (h : ∀ (i : Nat) (u : Value), (l.map u8v)[i]? = some u → w.cell? ⟨b, off + i, none⟩ = some u) (k m : Nat) : Cells w (some ⟨b, off + k, none⟩) (((l.drop k).take m).map u8v) :=
  .inr ⟨b, off + k, rfl, fun i u hu => by have := part_at h k m i u hu; rwa [addr_add] at this⟩

/-- the entry that stands at a place -/
def entAt (l : List UInt8) (p N : Nat) : EntP := ⟨w64 (long8 l (p + 4)), w64 (long8 l (p + 12)), (l[p + 20]?.getD 0).toNat, (l.drop (p + 21)).take 16, (l.drop (p + 37)).take 16, (l.drop (p + 53)).take 32, (l.drop (p + 89)).take N⟩
def sealB (l : List UInt8) (p N : Nat) : Bool := sumL 3 ((l.drop p).take (89 + N)) == (l.drop (p + 89 + N)).take 32
/-- what parsing says: the entry, the end, the error -/
noncomputable def parseEP (l : List UInt8) (at_ : Int) : EntP × Int × Int :=
  if headC l at_ ≠ 0 then (zeroEP, 0, headC l at_) else
  if l.length < at_.toNat + 121 + bodyN l at_.toNat then (zeroEP, 0, 1) else
  if sealB l at_.toNat (bodyN l at_.toNat) = false then (zeroEP, 0, 13) else
  if entEP (entAt l at_.toNat (bodyN l at_.toNat)) = 0 then (entAt l at_.toNat (bodyN l at_.toNat), ((at_.toNat + 121 + bodyN l at_.toNat : Nat) : Int), 0)
  else (zeroEP, 0, entEP (entAt l at_.toNat (bodyN l at_.toNat)))
def PEPost (l : List UInt8) (at_ : Int) (w : World) (x : Ending) (w' : World) : Prop :=
  ∃ r : EntR, x = .returned (.tuple #[.agg r.v.toArray, .int .i64 (parseEP l at_).2.1, .int .i64 (parseEP l at_).2.2]) ∧ r.Ok w' ∧ r.p = (parseEP l at_).1 ∧ Ext w w'
theorem zeroE_ok (w : World) : zeroE.Ok w := ⟨rfl, rfl, rfl, rfl, Nat.le_refl _, by decide, fun _ => ⟨rfl, rfl⟩, .inl rfl⟩
theorem zeroE_post {l : List UInt8} {at_ : Int} {w w' : World} {E : Int} (h : parseEP l at_ = (zeroEP, 0, E)) (e : Ext w w') : PEPost l at_ w (.returned (.tuple #[.agg zeroE.v.toArray, .int .i64 0, .int .i64 E])) w' :=
  ⟨zeroE, by rw [h], zeroE_ok w', by rw [h]; rfl, e⟩
end
end Go.Proofs.Ytkcjdginoccgjaa
