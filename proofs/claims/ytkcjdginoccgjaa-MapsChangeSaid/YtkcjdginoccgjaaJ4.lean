/- Contracts and laws that the claim's row leans on (30 texts, joined): math/bits.OnesCount of a size; conditions: the number is below 2^64 (its meaning: at most 65536). slices.Clone of sums; tree.FrontierOf, Size, Peaks; conditions: the sizes. mix.Sorted: the sums in order, each once; conditions: the length. keyref1.Less, the closures that sort keys, SortFunc at any such closure; conditions: the octets' memory. The keys of a Map in order; conditions: at most 1000 entries. slices.Equal at octets; conditions: the lengths. sameProof of two proofs that hold the same; conditions: the lengths. Plain law of parsing a proof; steps on parts of octets; no condition. ParseProof; conditions: the slice's size. keyref1.number; conditions: the slice's size. Plain laws of the reference's ParseProof; a step on a slice's head; no condition. The reference's ParseProof; conditions: the slice's size. ProofsArePrinted; conditions: the lengths. Bits of a key; conditions: the level is below 256. tree.bit and keyref1.bit; conditions: the level is below 256. tree.halves; conditions: the sizes, the level. tree.marked and keyref1.depth; conditions: 32 octets. single and leafOf; conditions: the lengths. tree.side; what both 'up' compute; conditions: the lengths. tree.up; conditions: the lengths. keyref1.up; conditions: the lengths. tree.There; conditions: the lengths. keyref1.There; conditions: the lengths. differs and differ; conditions: the lengths. Regions that draw and make two variables, the first stored into at once; no condition. tree.Absent; conditions: the lengths. keyref1.Absent; conditions: the lengths. Plain laws of Changed: the sums from the parting level up; where two keys part; no condition. Rows of 64 octets (the reference's entries of a map): make one, append one; no condition. keyref1.split: entries divided by a bit; two rows of one's own side by side; conditions: the sizes. -/
import Derived.Test.YtkcjdginoccgjaaJ3
import Derived.Test.YtkcjdginoccgjaaChecked
import Derived.Laws.Bits64b
import Derived.WalkKit
import Derived.Deep.DeepCutAuto
import Derived.Deep.CutBlock
import Derived.Shelf.SlSortCmp.NoneTotal
import Derived.Test.YtkcjdginoccgjaaB2
namespace Go.Proofs.Ytkcjdginoccgjaa
section
open Go Go.RowKit

def popF : Nat → Nat → Nat
  | 0, _ => 0
  | f + 1, k => k % 2 + popF f (k / 2)
def ocA (x : Nat) : Nat := (x / 2 &&& 6148914691236517205) + (x &&& 6148914691236517205)
def ocB (a : Nat) : Nat := (a / 4 &&& 3689348814741910323) + (a &&& 3689348814741910323)
def ocC (b : Nat) : Nat := (b / 16 + b) &&& 1085102592571150095
def ocD (c : Nat) : Nat := (c + c / 256 + (c + c / 256) / 65536 + (c + c / 256 + (c + c / 256) / 65536) / 4294967296) % 128
def oc64 (x : Nat) : Nat := ocD (ocC (ocB (ocA x)))
def a8 (l : Nat) : Nat := (l / 2 &&& 85) + (l &&& 85)
def b8 (a : Nat) : Nat := (a / 4 &&& 51) + (a &&& 51)
def c8 (b : Nat) : Nat := (b / 16 + b) &&& 15

theorem land_byte (x M m : Nat) (hm : m < 256) : x &&& (256 * M + m) = 256 * (x / 256 &&& M) + (x % 256 &&& m) := by
  have h1 : (x &&& (256 * M + m)) / 2 ^ 8 = x / 2 ^ 8 &&& (256 * M + m) / 2 ^ 8 := Nat.and_div_two_pow
  have h2 : (x &&& (256 * M + m)) % 2 ^ 8 = x % 2 ^ 8 &&& (256 * M + m) % 2 ^ 8 := Nat.and_mod_two_pow
  have e1 : (256 * M + m) / 2 ^ 8 = M := by omega
  have e2 : (256 * M + m) % 2 ^ 8 = m := by omega
  rw [e1] at h1
  rw [e2] at h2
  have := Nat.div_add_mod (x &&& (256 * M + m)) (2 ^ 8)
  rw [h1, h2] at this
  exact this.symm
theorem byteA : ∀ (t : Fin 2) (l : Fin 256), (128 * t.val + l.val / 2) &&& 85 = l.val / 2 &&& 85 := by decide +kernel
theorem byteB : ∀ (t : Fin 4) (l : Fin 256), (64 * t.val + l.val / 4) &&& 51 = l.val / 4 &&& 51 := by decide +kernel
theorem boundA : ∀ l : Fin 256, a8 l.val ≤ 170 := by decide +kernel
theorem boundB : ∀ l : Fin 256, b8 (a8 l.val) ≤ 68 ∧ b8 (a8 l.val) % 16 ≤ 4 := by decide +kernel
theorem byteC : ∀ l : Fin 256, c8 (b8 (a8 l.val)) = popF 8 l.val := by decide +kernel
theorem small_land (h M m : Nat) (hh : h < 256) (hm : m < 256) : h &&& (256 * M + m) = h &&& m := by
  rw [land_byte h M m hm, Nat.div_eq_of_lt hh, Nat.zero_and, Nat.mul_zero, Nat.zero_add, Nat.mod_eq_of_lt hh]
theorem ocA_byte (h l : Nat) (hh : h < 256) (hl : l < 256) : ocA (256 * h + l) = 256 * a8 h + a8 l := by
  unfold ocA
  rw [show (6148914691236517205 : Nat) = 256 * 24019198012642645 + 85 from rfl, land_byte _ _ 85 (by omega), land_byte (256 * h + l) _ 85 (by omega)]
  have e1 : (256 * h + l) / 2 / 256 = h / 2 := by omega
  have e2 : (256 * h + l) / 2 % 256 = 128 * (h % 2) + l / 2 := by omega
  have e3 : (256 * h + l) / 256 = h := by omega
  have e4 : (256 * h + l) % 256 = l := by omega
  rw [e1, e2, e3, e4, byteA ⟨h % 2, by omega⟩ ⟨l, hl⟩, show (24019198012642645 : Nat) = 256 * 93824992236885 + 85 from rfl, small_land (h / 2) _ 85 (by omega) (by omega), small_land h _ 85 (by omega) (by omega)]
  unfold a8
  simp only
  omega
theorem ocB_byte (h l : Nat) (hh : h < 256) (hl : l < 256) : ocB (256 * h + l) = 256 * b8 h + b8 l := by
  unfold ocB
  rw [show (3689348814741910323 : Nat) = 256 * 14411518807585587 + 51 from rfl, land_byte _ _ 51 (by omega), land_byte (256 * h + l) _ 51 (by omega)]
  have e1 : (256 * h + l) / 4 / 256 = h / 4 := by omega
  have e2 : (256 * h + l) / 4 % 256 = 64 * (h % 4) + l / 4 := by omega
  have e3 : (256 * h + l) / 256 = h := by omega
  have e4 : (256 * h + l) % 256 = l := by omega
  rw [e1, e2, e3, e4, byteB ⟨h % 4, by omega⟩ ⟨l, hl⟩, show (14411518807585587 : Nat) = 256 * 56294995342131 + 51 from rfl, small_land (h / 4) _ 51 (by omega) (by omega), small_land h _ 51 (by omega) (by omega)]
  unfold b8
  simp only
  omega
theorem and15 (y : Nat) : y &&& 15 = y % 16 := Nat.and_two_pow_sub_one_eq_mod y 4
theorem ocC_byte (h l : Nat) (hh : h ≤ 68) (hh2 : h % 16 ≤ 4) (hl : l ≤ 68) : ocC (256 * h + l) = 256 * c8 h + c8 l := by
  unfold ocC
  rw [show (1085102592571150095 : Nat) = 256 * 4238682002231055 + 15 from rfl, land_byte _ _ 15 (by omega)]
  have e1 : ((256 * h + l) / 16 + (256 * h + l)) / 256 = h / 16 + h := by omega
  have e2 : ((256 * h + l) / 16 + (256 * h + l)) % 256 = 16 * (h % 16) + (l / 16 + l) := by omega
  rw [e1, e2, show (4238682002231055 : Nat) = 256 * 16557351571215 + 15 from rfl, small_land (h / 16 + h) _ 15 (by omega) (by omega)]
  unfold c8
  rw [and15, and15, and15]
  omega
theorem popF_zero (f : Nat) : popF f 0 = 0 := by
  induction f with
  | zero => rfl
  | succ f ih => simp only [popF, Nat.zero_mod, Nat.zero_div, ih]
theorem popF_more (f g k : Nat) (h : k < 2 ^ f) : popF (f + g) k = popF f k := by
  induction f generalizing k with
  | zero =>
    have : k = 0 := by simpa using h
    subst this
    rw [popF_zero, popF_zero]
  | succ f ih =>
    have h2 : k / 2 < 2 ^ f := by rw [Nat.pow_succ] at h; omega
    rw [show f + 1 + g = (f + g) + 1 by omega]
    simp only [popF]
    rw [ih _ h2]
theorem popF_split (f h l : Nat) (hl : l < 2 ^ f) (g : Nat) : popF (f + g) (2 ^ f * h + l) = popF f l + popF g h := by
  induction f generalizing l with
  | zero =>
    have : l = 0 := by simpa using hl
    subst this
    simp [popF]
  | succ f ih =>
    have e : 2 ^ (f + 1) = 2 * 2 ^ f := by rw [Nat.pow_succ]; omega
    rw [e] at hl ⊢
    have h1 : (2 * 2 ^ f * h + l) % 2 = l % 2 := by rw [Nat.mul_assoc]; omega
    have h2 : (2 * 2 ^ f * h + l) / 2 = 2 ^ f * h + l / 2 := by rw [Nat.mul_assoc]; omega
    rw [show f + 1 + g = (f + g) + 1 by omega]
    simp only [popF]
    rw [h1, h2, ih _ (by omega)]
    omega
theorem popF_le (f k : Nat) : popF f k ≤ f := by
  induction f generalizing k with
  | zero => exact Nat.le_refl _
  | succ f ih => simp only [popF]; have := ih (k / 2); omega
theorem oc_size {x : Nat} (hx : x ≤ 65536) : oc64 x = popF 63 x := by
  by_cases h6 : x = 65536
  · subst h6; decide +kernel
  · obtain ⟨h, l, hh, hl, rfl⟩ : ∃ h l, h < 256 ∧ l < 256 ∧ x = 256 * h + l := ⟨x / 256, x % 256, by omega, by omega, by omega⟩
    have bh := boundB ⟨h, hh⟩
    have bl := boundB ⟨l, hl⟩
    have ah := boundA ⟨h, hh⟩
    have al := boundA ⟨l, hl⟩
    have ch := byteC ⟨h, hh⟩
    have cl := byteC ⟨l, hl⟩
    simp only at bh bl ah al ch cl
    unfold oc64
    rw [ocA_byte h l hh hl, ocB_byte _ _ (by omega) (by omega), ocC_byte _ _ bh.1 bh.2 bl.1, ch, cl]
    have p1 := popF_le 8 h
    have p2 := popF_le 8 l
    have e : popF 63 (256 * h + l) = popF 8 l + popF 55 h := popF_split 8 h l hl 55
    have e5 : popF 55 h = popF 8 h := popF_more 8 47 h hh
    rw [e, e5]
    unfold ocD
    generalize popF 8 h = A at *
    generalize popF 8 l = B at *
    have d1 : (256 * A + B) / 256 = A := by omega
    rw [d1]
    have d2 : (256 * A + B + A) / 65536 = 0 := by omega
    rw [d2, Nat.add_zero]
    have d3 : (256 * A + B + A) / 4294967296 = 0 := by omega
    rw [d3, Nat.add_zero]
    omega

theorem land_le (x m : Nat) : x &&& m ≤ m := Nat.and_le_right
theorem and_lit (x : Nat) (hx : x < 18446744073709551616) : bits .and .u64 (x : Int) 6148914691236517205 = ((x &&& 6148914691236517205 : Nat) : Int) ∧ bits .and .u64 (x : Int) 3689348814741910323 = ((x &&& 3689348814741910323 : Nat) : Int) ∧ bits .and .u64 (x : Int) 1085102592571150095 = ((x &&& 1085102592571150095 : Nat) : Int) :=
  ⟨bits_and_u64_nat x 6148914691236517205 hx (by omega), bits_and_u64_nat x 3689348814741910323 hx (by omega), bits_and_u64_nat x 1085102592571150095 hx (by omega)⟩
theorem and127 (F : Nat) (hF : F < 9223372036854775808) : bits .and .i64 (F : Int) 127 = ((F % 128 : Nat) : Int) := by
  have ea : (BitVec.ofInt 64 (F : Int)).toNat = F := by rw [BitVec.toNat_ofInt]; omega
  have eb : (BitVec.ofInt 64 (127 : Int)).toNat = 127 := by decide
  change IntKind.i64.wrap ((BitVec.ofInt 64 (F : Int) &&& BitVec.ofInt 64 (127 : Int)).toNat : Int) = _
  rw [BitVec.toNat_and, ea, eb, show F &&& 127 = F % 128 from Nat.and_two_pow_sub_one_eq_mod F 7, IntWalk.i64_in _ (by omega)]
end

section
open Go Go.RowKit

set_option maxRecDepth 100000 in
set_option maxHeartbeats 1000000 in
theorem cloneS_c (ls : List (List UInt8)) (a : Option Addr) (n c : Nat) (w : World) (hnl : ls.length = n) (h32 : All32 ls) (hn : n * 32 ≤ 140737488355320) (hcl : Cells w a (rows ls)) :
    Calls Try.prog 13 #[.slice a n c] w fun e w' => ∃ v, e = .returned v ∧ w'.ownsRow w.heap.size 32 32 v n (rows ls) ∧ (v = .slice none 0 0 ↔ a = none) ∧ Ext w w' := by
  have hrl := rows_length h32
  rw [hnl] at hrl
  have HR := hid hrl
  have HN := hid hnl
  have HC := hid hcl
  clear hnl hcl h32 hrl
  obtain ⟨i0, hi, hz, hs, hb1⟩ := info_parts info_sum
  have q26 : ∀ (w : World) (a : Option Addr) (n c n' c' : Nat), (binOp .eql 29 (.slice a n c) (.slice none n' c')).run Try.prog w = .ok (.bool a.isNone) w := fun w a n c n' c' => Lib.run_eql_slice_nil w _ _ a n c n' c' Try.underlying29
  have o1 : ∀ v ∈ rows ls, v.oneCell' = true := one_u8 _
  cases a with
  | none =>
    have hl : rows ls = [] := by
      rcases HC.out with h | ⟨_, _, h, _⟩
      · exact h
      · cases h
    have hn0 : n = 0 := by have := HR.out; rw [hl] at this; simp at this; omega
    subst hn0
    have HL := hid hl
    clear hl HN HC
    go_enter Try.func13, Try.ntmps13
    go_wp2
    go_ret
    exact ⟨_, rfl, by rw [HL.out]; exact World.ownsRow_nil _ _ _ _, by simp, Ext.refl _⟩
  | some ad =>
    generalize rows ls = rl at *
    go_enter Try.func13, Try.ntmps13
    go_wp2_with (at_builtin; refine wpList_append_own _ rfl _ _ 29 rfl w.heap.size 32 i0 _ 32 32 Try.underlying29 hi hz hs hb1 zsum_size (by decide) _ _ _ rfl (World.ownsRow_made w #[] 0 (Nat.le_refl _) (Nat.zero_le _) (by simp)) ad n c rl rfl ?qc1 (news_cells (HC.out.ext ((Ext.refl w).alloc _))) o1 ?qc4 ?qc5 ?qc6 ?_)
    case qc1 => have := HR.out; omega
    case qc4 => unfold maxLen; omega
    case qc5 => omega
    case qc6 => simp
    intro v' w1 hown hgrow hnil
    have e1 : Ext w w1 := ((Ext.refl w).alloc _).grown hgrow (by intro k hk; simp [Value.ownBlock] at hk; omega)
    clear hgrow
    go_wp2
    go_ret
    exact ⟨v', rfl, by simpa using hown, by simp [hnil], e1⟩

theorem own_block_lt' {w : World} {B : Nat} {e : TypeId} {size n : Nat} {v : Value} {xs : List Value} (h : w.ownsRow B e size v n xs) : ∀ g, v.ownBlock = some g → g < w.heap.size := by
  intro g hg
  rcases h.2 with ⟨rfl, _⟩ | ⟨g', cap, cur, rfl, hb, hc, _⟩
  · cases hg
  · simp [Value.ownBlock] at hg
    subst hg
    exact (Array.getElem?_eq_some_iff.1 hc).1

/-- a frontier's cells -/
def frL (n : Nat) (v : Value) : List Value := [.int .i64 (n : Int), v]
end

section
open Go Go.RowKit Go.Shelf

theorem ltB_sorted {es : List (List UInt8)} (h : es.Pairwise (fun x y => ¬ ltB y x = true)) : (dd es).Pairwise (fun x y => ltB x y = true) :=
  dd_sorted (fun x y => ltB x y = true) (fun _ _ _ => ltB_trans) (fun x y hne hn => by
    rcases ltB_three x y with h | h | h
    · exact h
    · exact absurd h hne
    · exact absurd h hn) es h
theorem sortN_c (p : Option Addr) (c : Nat) (fv : Value) (w : World) :
    Calls Try.prog 27 #[.slice p 0 c, fv] w fun e w' => e = .returned (.tuple #[]) ∧ w' = w :=
  AnyF.slices_SortFunc_none sortS p c fv w

set_option maxRecDepth 100000 in
set_option maxHeartbeats 1000000 in
theorem compactN_c (p : Option Addr) (c : Nat) (w : World) :
    Calls Try.prog 53 #[.slice p 0 c] w fun e w' => e = .returned (.slice p 0 c) ∧ w' = w := by
  go_enter Try.func53, Try.ntmps53
  go_wp2
  go_ret
  exact ⟨rfl, rfl⟩

set_option maxRecDepth 100000 in
set_option maxHeartbeats 1000000 in
theorem sorted_c (ls : List (List UInt8)) (a : Option Addr) (n c : Nat) (w : World) (hnl : ls.length = n) (h32 : All32 ls) (hn : n * 32 ≤ 140737488355320) (hcl : Cells w a (rows ls)) :
    Calls Try.prog 14 #[.slice a n c] w fun e w' => ∃ (p : Option Addr) (os : List (List UInt8)) (d : Nat), e = .returned (.slice p os.length d) ∧ os.Pairwise (fun x y => ltB x y = true) ∧ (∀ x, x ∈ os ↔ x ∈ ls) ∧ Cells w' p (rows os) ∧ Ext w w' := by
  have hc := hid (cloneS_c ls a n c w hnl h32 hn hcl)
  have HN := hid hnl
  have H32 := hid h32
  clear hnl h32 hcl
  go_enter Try.func14, Try.ntmps14
  go_wp2_with fail
  refine hc.out.mono ?_
  rintro e w1 ⟨v, rfl, own, _, e1⟩
  have E1 := hid e1
  clear hc e1
  by_cases h0 : n = 0
  · subst h0
    have hl0 : ls = [] := List.length_eq_zero_iff.1 HN.out
    obtain ⟨p, d, rfl⟩ : ∃ p d, v = .slice p 0 d := by
      rcases own.2 with ⟨rfl, _⟩ | ⟨g, cap, cur, rfl, _⟩
      · exact ⟨_, _, rfl⟩
      · exact ⟨_, _, rfl⟩
    have HL0 := hid hl0
    clear own hl0
    go_wp2_with fail
    refine (sortN_c p d _ w1).mono ?_
    rintro e w2 ⟨rfl, rfl⟩
    go_wp2_with fail
    refine (compactN_c p d w2).mono ?_
    rintro e w3 ⟨rfl, rfl⟩
    go_wp2_with fail
    go_ret
    exact ⟨p, [], d, rfl, by simp, fun x => by rw [HL0.out], .inl rfl, E1.out⟩
  · obtain ⟨g, cap, rest, rfl, hgb, hnc, hb⟩ : ∃ g cap rest, v = .slice (some ⟨g, 0, none⟩) n cap ∧ w.heap.size ≤ g ∧ n ≤ cap ∧ Blk w1 g (rows ls ++ rest) 32 := by
      rcases own.2 with ⟨_, h⟩ | ⟨g, cap, cur, rfl, hb, hg, h1, h2, h3, h4⟩
      · exact absurd h h0
      · refine ⟨g, cap, cur.toList.drop (n * 32), rfl, hb, h1, ?_⟩
        unfold Blk
        rw [← h4, List.take_append_drop]
        simpa using hg
    have HB := hid hb
    clear own hb
    go_wp2_with fail
    refine (sortS_c ls rest g n cap _ w1 H32.out HN.out HB.out (by omega)).mono ?_
    rintro e w2 ⟨rfl, es, hp, hs, b2, g2⟩
    have E2 := hid (E1.out.grown g2 (fun k hk => by cases hk; exact hgb))
    have B2 := hid b2
    have HP := hid hp
    have HS := hid hs
    have hel : es.length = n := by rw [hp.length_eq, HN.out]
    have he32 : All32 es := fun x hx => H32.out x (hp.mem_iff.1 hx)
    have HEL := hid hel
    have HE32 := hid he32
    clear g2 b2 hp hs hel he32 E1 HB
    go_wp2_with fail
    refine (compact_c es rest g n cap _ w2 HE32.out HEL.out hnc (by omega) B2.out).mono ?_
    rintro e w3 ⟨rfl, ⟨vs, b3⟩, u3⟩
    have E3 := hid (u3.ext E2.out hgb)
    have B3 := hid b3
    clear b3 u3
    go_wp2_with fail
    go_ret
    refine ⟨_, dd es, cap, rfl, ltB_sorted HS.out, fun x => (dd_mem es x).trans HP.out.mem_iff, .inr ⟨g, 0, rfl, fun i u hu => ?_⟩, E3.out⟩
    rw [Nat.zero_add]
    refine B3.out.cell' ?_
    rw [List.getElem?_append_left (List.getElem?_eq_some_iff.1 hu).1]
    exact hu
end

section
open Go Go.RowKit Go.Shelf Go.Sort

set_option maxRecDepth 100000 in
set_option maxHeartbeats 1000000 in
theorem less_c (x y : List UInt8) (w : World) (hx : x.length = 32) (hy : y.length = 32) :
    Calls Try.prog 29 #[.agg (x.map u8v).toArray, .agg (y.map u8v).toArray] w fun e w' => e = .returned (.int .i64 (cmpB x y)) ∧ Laid w w' := by
  have HX := hid hx
  have HY := hid hy
  have hxl := hid (show (x.map u8v).length = 32 by rw [List.length_map]; exact hx)
  have hyl := hid (show (y.map u8v).length = 32 by rw [List.length_map]; exact hy)
  clear hx hy
  go_enter Try.func29, Try.ntmps29
  go_wp2_with fail
  generalize hwA : World.alloc (World.alloc w _) _ = wA
  have xA : Blk wA w.heap.size (x.map u8v) 22 := by rw [← hwA]; exact (Blk.mk_alloc rfl rfl).alloc _
  have yA : Blk wA (w.heap.size + 1) (y.map u8v) 22 := by rw [← hwA]; exact Blk.mk_alloc (by simp) rfl
  have eA : Laid w wA := by rw [← hwA]; exact ((Laid.refl w).alloc _).alloc _
  have hb := hid (fun n => bcompare_c x y ⟨w.heap.size, 0, none⟩ ⟨w.heap.size + 1, 0, none⟩ 32 32 32 32 (wA.drewN n) HX.out HY.out (cellsAt_blk xA.drewN) (cellsAt_blk yA.drewN))
  have EA := hid eA
  clear hwA xA yA eA
  refine wp_region_held_drew (S := fun w' => ∃ n, w' = wA.drewN n) (by kernel_rfl) ⟨1, rfl⟩ (fun hS0 => ?_)
  refine held_take 0 (v := ?tv1) rfl (by kernel_rfl) (by kernel_rfl) (by kernel_rfl) (fun _ _ _ h => h) (.inl ⟨rfl, ?ty1⟩) hS0 ?tr1
  case ty1 => (intro _ _; go_simp; try with_reducible rfl)
  case tr1 =>
  simp only [Act.put, List.setIfInBounds_toArray, List.set_cons_succ, List.set_cons_zero]
  refine held_take 1 (v := ?tv2) rfl (by kernel_rfl) (by kernel_rfl) (by kernel_rfl) (fun _ _ _ h => h) (.inl ⟨rfl, ?ty2⟩) hS0 ?tr2
  case ty2 => (intro _ _; go_simp; try with_reducible rfl)
  case tr2 =>
  simp only [Act.put, List.setIfInBounds_toArray, List.set_cons_succ, List.set_cons_zero]
  refine held_one (i := 2) (by kernel_rfl) rfl ?_
  intro Q' hQ
  obtain ⟨nq, hnq⟩ := hS0
  generalize wA.drew = wB at *
  subst hnq
  go_wp2_with fail
  refine (hb.out nq).mono ?_
  rintro e w' ⟨rfl, rfl⟩
  go_wp2_with fail
  refine hQ _ _ ⟨nq, rfl⟩ ?_
  clear hQ Q'
  have hS0 : ∃ n, wA.drewN nq = wA.drewN n := ⟨nq, rfl⟩
  try dsimp only
  try simp only [Act.put, List.setIfInBounds_toArray, List.set_cons_succ, List.set_cons_zero]
  refine held_take 3 (v := ?tv3) rfl (by kernel_rfl) (by kernel_rfl) (by kernel_rfl) (fun _ _ _ h => h) (.inl ⟨rfl, ?ty3⟩) hS0 ?tr3
  case ty3 => (intro _ _; go_simp; try with_reducible rfl)
  case tr3 =>
  simp only [Act.put, List.setIfInBounds_toArray, List.set_cons_succ, List.set_cons_zero]
  refine wpAnyH_done (by kernel_rfl) ?_ _
  go_wp2_with fail
  go_ret
  exact ⟨rfl, EA.out.drewN nq⟩

set_option maxRecDepth 100000 in
set_option maxHeartbeats 1000000 in
theorem kclos_c (x y : List UInt8) (w : World) (hx : x.length = 32) (hy : y.length = 32) :
    Calls Try.prog 65 #[.agg (x.map u8v).toArray, .agg (y.map u8v).toArray] w fun e w' => e = .returned (.int .i64 (cmpB x y)) ∧ Laid w w' := by
  have hc := hid (fun w => compare_c x y w hx hy)
  have hxl := hid (show (x.map u8v).length = 32 by rw [List.length_map]; exact hx)
  have hyl := hid (show (y.map u8v).length = 32 by rw [List.length_map]; exact hy)
  clear hx hy
  go_enter Try.func65, Try.ntmps65
  go_upto_region 1 with (fail)
  generalize hwA : World.alloc (World.alloc w _) _ = wA
  have xA : Blk wA w.heap.size (x.map u8v) 32 := by rw [← hwA]; exact (Blk.mk_alloc rfl rfl).alloc _
  have yA : Blk wA (w.heap.size + 1) (y.map u8v) 32 := by rw [← hwA]; exact Blk.mk_alloc (by simp) rfl
  have EA : Hid (Laid w wA) := by rw [← hwA]; exact hid (((Laid.refl w).alloc _).alloc _)
  have XA := hid xA
  have YA := hid yA
  clear hwA xA yA
  go_wp2_with (first | (refine wpl_loadw rfl _ (.tmp 2) rfl rfl XA.out agg_apisum hxl.out ?_) | (refine wpl_loadw rfl _ (.tmp 3) rfl rfl YA.out agg_apisum hyl.out ?_))
  refine (hc.out wA).mono ?_
  rintro e w' ⟨rfl, e1⟩
  have E1 := hid (EA.out.trans e1)
  clear e1
  go_wp2_with fail
  go_ret
  exact ⟨rfl, E1.out⟩
set_option maxRecDepth 100000 in
set_option maxHeartbeats 1000000 in
theorem mclos_c (x y : List UInt8) (w : World) (hx : x.length = 32) (hy : y.length = 32) :
    Calls Try.prog 28 #[.agg (x.map u8v).toArray, .agg (y.map u8v).toArray] w fun e w' => e = .returned (.int .i64 (cmpB x y)) ∧ Laid w w' := by
  have hc := hid (fun w => less_c x y w hx hy)
  have hxl := hid (show (x.map u8v).length = 32 by rw [List.length_map]; exact hx)
  have hyl := hid (show (y.map u8v).length = 32 by rw [List.length_map]; exact hy)
  clear hx hy
  go_enter Try.func28, Try.ntmps28
  go_upto_region 1 with (fail)
  generalize hwA : World.alloc (World.alloc w _) _ = wA
  have xA : Blk wA w.heap.size (x.map u8v) 32 := by rw [← hwA]; exact (Blk.mk_alloc rfl rfl).alloc _
  have yA : Blk wA (w.heap.size + 1) (y.map u8v) 32 := by rw [← hwA]; exact Blk.mk_alloc (by simp) rfl
  have EA : Hid (Laid w wA) := by rw [← hwA]; exact hid (((Laid.refl w).alloc _).alloc _)
  have XA := hid xA
  have YA := hid yA
  clear hwA xA yA
  go_wp2_with (first | (refine wpl_loadw rfl _ (.tmp 2) rfl rfl XA.out agg_apisum hxl.out ?_) | (refine wpl_loadw rfl _ (.tmp 3) rfl rfl YA.out agg_apisum hyl.out ?_))
  refine (hc.out wA).mono ?_
  rintro e w' ⟨rfl, e1⟩
  have E1 := hid (EA.out.trans e1)
  clear e1
  go_wp2_with fail
  go_ret
  exact ⟨rfl, E1.out⟩
theorem cmpLaysF {f : Nat} (hf : ∀ (x y : List UInt8) (w : World), x.length = 32 → y.length = 32 → Calls Try.prog f #[.agg (x.map u8v).toArray, .agg (y.map u8v).toArray] w fun e w' => e = .returned (.int .i64 (cmpB x y)) ∧ Laid w w') (g size : Nat) (w : World) : CmpLays Try.prog f #[] encS 32 cfS g 0 size w := fun m os dk _ x y =>
  hf x.l y.l (sortWorldK encS 32 w g 0 m dk os) x.h y.h
theorem sortF_c (f : Nat) (hf : ∀ (x y : List UInt8) (w : World), x.length = 32 → y.length = 32 → Calls Try.prog f #[.agg (x.map u8v).toArray, .agg (y.map u8v).toArray] w fun e w' => e = .returned (.int .i64 (cmpB x y)) ∧ Laid w w') (eg : ∀ args w, (callFunc f args).run Try.prog w = .ok (.enter f args) w) (ls : List (List UInt8)) (rest : List Value) (g n c : Nat) (T : TypeId) (w : World) (h32 : All32 ls) (hn : ls.length = n) (hb : Blk w g (rows ls ++ rest) T) (hlen : n < 4611686018427387904) :
    Calls Try.prog 27 #[.slice (some ⟨g, 0, none⟩) n c, .func (.func f) #[] #[]] w fun e w' =>
      e = .returned (.tuple #[]) ∧ ∃ es, es.Perm ls ∧ es.Pairwise (fun x y => ¬ ltB y x = true) ∧ Blk w' g (rows es ++ rest) T ∧ w.grownBy w' (some g) := by
  obtain ⟨d, hd⟩ : ∃ d : Array S32, d = (toS ls h32).toArray := ⟨_, rfl⟩
  have hu : unS d.toList = ls := by rw [hd]; exact unS_toS ls h32
  have hs : d.size = n := by rw [← hn, ← hu, unS_len]; simp
  have hH : Sort.HoldsK encS 32 w g 0 d := holds_blk (rest := rest) (T := T) (by rw [hu]; exact hb)
  have hcon := AnyQ.slices_SortFunc sortS 32 Try.isAgg32 Try.sizeOf32 encS encS_len encS_one cfS swo_cfS f #[] g 0 c d w eg (cmpLaysF hf g d.size w) hH hb.lt (by omega)
  rw [hs] at hcon
  refine hcon.mono ?_
  rintro e w' ⟨rfl, d', n', os, hp, ho, rfl⟩
  obtain ⟨k1, k2, k3⟩ := sorted_list hs hp ho
  rw [hu] at k2
  obtain ⟨b1, b2⟩ := sortWorld_blk h32 hb d' n' os (by omega)
  exact ⟨rfl, unS d'.toList, k2, k3, b1, b2⟩
theorem enters_k1 : ∀ args w, (callFunc 65 args).run Try.prog w = .ok (.enter 65 args) w := enters_of Try.func65 (by kernel_rfl) rfl
theorem enters_m1 : ∀ args w, (callFunc 28 args).run Try.prog w = .ok (.enter 28 args) w := enters_of Try.func28 (by kernel_rfl) rfl
end

section
open Go Go.RowKit Go.Maps Go.MapKept

theorem RngAt.left {w : World} {g r : Nat} {hs : List Ent} {lf : List (List UInt8)} (h : RngAt w g r hs lf) : w.rangeLeft g r = lf.length := by
  obtain ⟨es, clock, since, seen, c0, hb, hp, hst, hr, hold, hsc, hsk, hl⟩ := h
  unfold World.rangeLeft
  rw [hb, hr]
  have := congrArg List.length hl
  simpa using this
theorem rows_snoc (ks : List (List UInt8)) (x : List UInt8) : rows (ks ++ [x]) = rows ks ++ x.map u8v := by rw [rows_append, rows_one]
theorem sorted_strict {es ks : List (List UInt8)} (hp : es.Perm ks) (hn : ks.Nodup) (h : es.Pairwise (fun x y => ¬ ltB y x = true)) : es.Pairwise (fun x y => ltB x y = true) := by
  have hne : es.Pairwise (fun x y => x ≠ y) := hp.nodup_iff.2 hn
  refine (List.Pairwise.and h hne).imp ?_
  rintro x y ⟨h1, h2⟩
  rcases ltB_three x y with h | h | h
  · exact h
  · exact absurd h h2
  · exact absurd h h1

set_option maxRecDepth 100000 in
set_option maxHeartbeats 2000000 in
theorem keys_c (p g : Nat) (hs : List Ent) (w : World) (hm : TMap w p g hs) (hn : hs.length ≤ 1000) :
    Calls Try.prog 30 #[.pointer (some ⟨p, 0, none⟩)] w fun e w' => ∃ (a : Option Addr) (os : List (List UInt8)) (d : Nat), e = .returned (.slice a os.length d) ∧ os.Perm (hs.map Prod.fst) ∧ os.Pairwise (fun x y => ltB x y = true) ∧ Cells w' a (rows os) ∧ os.length ≤ d ∧ (d ≤ maxLen ∧ ∀ b, a = some b → w.heap.size ≤ b.block ∧ b.block < w'.heap.size) ∧ Ext w w' := by
  have HM := hid hm
  clear hm
  have hc0 := HM.out.cell
  go_enter Try.func30, Try.ntmps30
  go_wp2_with (at_range; refine wpl_rangeK rfl _ rfl rfl HM.out.map ?_)
  intro wR hr er hsz
  have HR := hid hr
  have ER := hid er
  clear hr er hc0
  have hrn : Hid (Ents hs) := hid HM.out.ents
  have hgl : g < w.heap.size := HM.out.map.lt
  obtain ⟨r, hrr⟩ : ∃ r, w.heap.size = r := ⟨_, rfl⟩
  have HRR := hid hrr
  rw [hrr] at HR hsz hgl ⊢
  clear hrr HM
  go_wp2_with fail
  go_loopw [3] (fun v wr => ∃ ks lf, RngAt wr g r hs lf ∧ (ks ++ lf).Perm (hs.map Prod.fst) ∧ wr.ownsRow (r + 1) 32 32 v ks.length (rows ks) ∧ Ext w wr) (fun _ wr => wr.rangeLeft g r)
  case atStart => exact ⟨[], hs.map Prod.fst, HR.out, by simp, ⟨by simp [rows], .inl ⟨rfl, rfl⟩⟩, ER.out⟩
  case round =>
    obtain ⟨ks, lf, hrg, hperm, own, e1⟩ := hrel
    have HRG := hid hrg
    have HP := hid hperm
    have OWN := hid own
    have E1 := hid e1
    have hms := hrg.left
    clear hrg hperm own e1 HR ER
    go_wp2_with (at_next; refine wpl_nextK rfl _ rfl hrn.out rfl HRG.out ?_ ?_)
    · intro hlf
      subst hlf
      have hpk := HP.out
      rw [List.append_nil] at hpk
      have HPK := hid hpk
      have hkl : ks.length ≤ 1000 := by rw [hpk.length_eq, List.length_map]; exact hn
      have h32 : All32 ks := fun x hx => by
        obtain ⟨q, hq, rfl⟩ := List.mem_map.1 (hpk.mem_iff.1 hx)
        exact hrn.out.k32 q hq
      have H32 := hid h32
      have hnd := hid (hpk.nodup_iff.2 hrn.out.nodup)
      clear hpk h32 HP hms HRG
      go_wp2_with fail
      by_cases h0 : ks.length = 0
      · have hl0 : ks = [] := List.length_eq_zero_iff.1 h0
        subst hl0
        obtain ⟨q, d, rfl⟩ : ∃ q d, u3 = .slice q 0 d := by
          rcases OWN.out.2 with ⟨rfl, _⟩ | ⟨g, cap, cur, rfl, _⟩
          · exact ⟨_, _, rfl⟩
          · exact ⟨_, _, rfl⟩
        have hcap : d ≤ maxLen := by
          obtain ⟨q2, d2, hv, _, hd2, _⟩ := own_sliceT (by decide) OWN.out
          cases hv
          exact hd2
        refine (sortN_c q d _ wr).mono ?_
        rintro e w2 ⟨rfl, rfl⟩
        go_wp2_with fail
        go_ret
        exact ⟨q, [], d, rfl, HPK.out, by simp, .inl rfl, by simp, ⟨hcap, fun b hb => by subst hb; have h9 := own_block_ge OWN.out b.block rfl; have h8 := own_block_lt' OWN.out b.block rfl; rw [HRR.out]; exact ⟨by omega, h8⟩⟩, E1.out⟩
      · obtain ⟨n, hn0⟩ : ∃ n, ks.length = n := ⟨_, rfl⟩
        have HN := hid hn0
        have own := OWN.out
        rw [hn0] at own h0 hkl
        clear hn0 OWN
        obtain ⟨q, cap, rest, rfl, hgb, hnc, hcm, hb⟩ : ∃ q cap rest, u3 = .slice (some ⟨q, 0, none⟩) n cap ∧ r + 1 ≤ q ∧ n ≤ cap ∧ cap ≤ maxLen ∧ Blk wr q (rows ks ++ rest) 32 := by
          rcases own.2 with ⟨_, h⟩ | ⟨g, cap, cur, rfl, hb, hg, h1, h2, h3, h4⟩
          · exact absurd h h0
          · refine ⟨g, cap, cur.toList.drop (n * 32), rfl, hb, h1, h2, ?_⟩
            unfold Blk
            rw [← h4, List.take_append_drop]
            simpa using hg
        have HB := hid hb
        clear own hb
        refine (sortF_c 65 kclos_c enters_k1 ks rest q n cap _ wr H32.out HN.out HB.out (by omega)).mono ?_
        rintro e w2 ⟨rfl, es, hp, hs2, b2, g2⟩
        have E2 := hid (E1.out.grown g2 (fun k hk => by cases hk; rw [HRR.out]; omega))
        have B2 := hid b2
        have hlen : es.length = n := by rw [hp.length_eq]; exact HN.out
        have hst := hid (sorted_strict hp hnd.out hs2)
        have HP2 := hid (hp.trans HPK.out)
        have HLEN := hid hlen
        clear g2 b2 hp hs2 hlen HB
        go_wp2_with fail
        go_ret
        refine ⟨_, es, cap, by rw [HLEN.out]; rfl, HP2.out, hst.out, .inr ⟨q, 0, rfl, fun i u hu => ?_⟩, by rw [HLEN.out]; exact hnc, ⟨hcm, fun b hb => by cases hb; exact ⟨by show w.heap.size ≤ q; rw [HRR.out]; omega, B2.out.lt⟩⟩, E2.out⟩
        rw [Nat.zero_add]
        refine B2.out.cell' ?_
        rw [List.getElem?_append_left (List.getElem?_eq_some_iff.1 hu).1]
        exact hu
    · intro x v2 w2 lf2 hpm hln hr2 u2 hen
      have hx32 : x.length = 32 := by
        have hx : x ∈ hs.map Prod.fst := HP.out.mem_iff.1 (List.mem_append_right _ (hpm.mem_iff.2 (by simp)))
        obtain ⟨q, hq, rfl⟩ := List.mem_map.1 hx
        exact hrn.out.k32 q hq
      have hkl : ks.length + 1 ≤ 1000 := by
        have h1 := HP.out.length_eq
        rw [List.length_append, List.length_map] at h1
        omega
      have HX := hid hx32
      have HXV := hid (show (x.map u8v).length = 32 by rw [List.length_map, hx32])
      have ox := one_u8 x
      have HP2 := hid (show ((ks ++ [x]) ++ lf2).Perm (hs.map Prod.fst) by
        refine (List.Perm.trans ?_ HP.out)
        rw [List.append_assoc]
        exact (List.Perm.append_left ks hpm.symm))
      have HR2 := hid hr2
      have hlt2 := own_block_ge OWN.out
      have O2 := hid (own_keep OWN.out (fun q hq => u2.block q (by have := hlt2 q hq; omega)))
      have hvl : ∀ q, u3.ownBlock = some q → q < w2.heap.size := own_block_lt' O2.out
      have HVL := hid hvl
      have E2 := hid (u2.ext E1.out (by rw [HRR.out]; exact Nat.le_refl _))
      unfold sumV at hen
      clear hpm hr2 hlt2 hx32 HP OWN E1 HRG u2 hvl
      go_wp2_with (refine wpl_storew rfl _ (.tmp 4) _ rfl rfl rfl (Blk.mk_alloc (vs := List.replicate 32 (.int .u8 0)) rfl rfl) agg_apisum (by simp) HXV.out ox ?_)
      intro w3 b3 u3'
      have e3 : Ext w2 w3 := u3'.ext ((Ext.refl w2).alloc _) (Nat.le_refl _)
      have O3 := hid (ownsRow_ext O2.out (e3.alloc (.cells (x.map u8v).toArray 32)))
      have R3 := hid (HR2.out.ext (e3.alloc (.cells (x.map u8v).toArray 32)))
      have E3 := hid (E2.out.ext (e3.alloc (.cells (x.map u8v).toArray 32)))
      have B3 := hid b3
      have N3 : Hid (Blk (w3.alloc (.cells (x.map u8v).toArray 32)) w3.heap.size (x.map u8v) 32) := hid (Blk.mk_alloc rfl rfl)
      have hr3 : r + 1 ≤ (w3.alloc (.cells (x.map u8v).toArray 32)).heap.size := R3.out.lt
      clear b3 u3' e3 O2 HR2 E2 hen
      generalize w2.heap.size = g2 at *
      go_wp2_with (first | (refine wpl_loadw rfl 32 (.tmp 4) rfl rfl B3.out agg_apisum HXV.out ?_) | (refine wpl_buildRow rfl rfl rfl HX.out ?_) | (at_builtin; refine wpl_append_row rfl _ _ rfl (r + 1) rfl rfl O3.out HX.out N3.out (by omega) hr3 ?_))
      intro v4 w4 own4 gr4
      have hge := own_block_ge O3.out
      have O4 := hid own4
      have E4 := hid (E3.out.grown gr4 (fun q hq => by have := hge q hq; rw [HRR.out]; omega))
      have R4 := hid (R3.out.grown gr4 (fun he => by have := hge g he.symm; omega) (fun he => by have := hge r he.symm; omega))
      clear own4 gr4 hge O3 E3 R3 N3 B3
      go_wp2_with fail
      go_roundw
      case rel => exact ⟨ks ++ [x], lf2, R4.out, HP2.out, by rw [List.length_append]; exact O4.out, E4.out⟩
      case measure =>
        show World.rangeLeft _ _ _ < World.rangeLeft _ _ _
        rw [R4.out.left, hms]; omega
end

section
open Go Go.RowKit

theorem one_u8T : OneT Try.prog 5 := ⟨⟨_, Try.underlying5, rfl⟩, by kernel_rfl⟩
theorem cell_ext {w w' : World} {p : Addr} {v : Value} (h : w.cell? p = some v) (e : Ext w w') : w'.cell? p = some v := by
  have hb := block_lt_of_cell h
  rw [e.cell hb]; exact h
theorem exec_load_one {P : Program} {o : Oper} {a : Act} {w : World} {ty : TypeId} {x : Operand} {p : Addr} {v : Value} (ho : o.op = .load ty x) (hx : a.eval x = .pointer (some p)) (hc : w.cell? p = some v) (ht : OneT P ty) :
    (execOp a.eval o).run P w = .ok (.value v) w := by
  obtain ⟨⟨d, hu, hd⟩, hi⟩ := ht
  have hagg : (isAgg ty).run P w = .ok false w := by
    unfold isAgg
    rw [Sem.run_bind, run_underlying hu w]
    cases d <;> simp_all
  unfold execOp
  simp only [ho, hx, Instr.loadAt, Instr.sureAddr, Sem.run_bind, Sem.run_pure, Result.andThen_ok]
  simp [loadVar, Sem.run_bind, hagg, go_sem, hc]
end

section
open Go Go.RowKit
end

section
open Go Go.RowKit

def manyL (l : List UInt8) : Nat := (word4 l 16).toNat
def rowsOf (l : List UInt8) (k : Nat) : List (List UInt8) := (List.range k).map fun i => (l.drop (20 + 32 * i)).take 32
theorem rowsOf_length (l : List UInt8) (k : Nat) : (rowsOf l k).length = k := by simp [rowsOf]
theorem rowsOf_succ (l : List UInt8) (k : Nat) : rowsOf l (k + 1) = rowsOf l k ++ [(l.drop (20 + 32 * k)).take 32] := by simp [rowsOf, List.range_succ]
theorem rowsOf_32 {l : List UInt8} {k : Nat} (h : 20 + 32 * k ≤ l.length) : All32 (rowsOf l k) := fun x hx => by
  obtain ⟨i, hi, rfl⟩ := List.mem_map.1 hx
  have := List.mem_range.1 hi
  rw [List.length_take, List.length_drop]; omega
def parseE (l : List UInt8) : Int :=
  if l.length < 20 then 1 else if l.length < 20 + 32 * manyL l then 1 else if 65536 < long8 l 0 ∨ 65536 < long8 l 8 then 4 else if 64 < manyL l then 5 else 0
def parsePost (l : List UInt8) (w : World) (e : Ending) (w' : World) : Prop :=
  ∃ (I Z N : Int) (pv : Value), e = .returned (.tuple #[.agg #[.int .i64 I, .int .i64 Z, pv], .int .i64 N, .int .i64 (parseE l)]) ∧
    (if parseE l = 0 then I = long8 l 0 ∧ Z = long8 l 8 ∧ N = ((20 + 32 * manyL l : Nat) : Int) ∧ w'.ownsRow w.heap.size 32 32 pv (manyL l) (rows (rowsOf l (manyL l))) else I = 0 ∧ Z = 0 ∧ N = 0 ∧ pv = .slice none 0 0) ∧ Ext w w'

theorem rowsOf_flat {ls : List (List UInt8)} (h : All32 ls) (pre post : List UInt8) (hp : pre.length = 20) : rowsOf (pre ++ (ls.flatten ++ post)) ls.length = ls := by
  unfold rowsOf
  apply List.ext_getElem
  · simp
  · intro i h1 h2
    rw [List.getElem_map, List.getElem_range]
    have hi : i < ls.length := h2
    rw [List.drop_append, hp, List.drop_of_length_le (by omega), List.nil_append, show 20 + 32 * i - 20 = 32 * i by omega, List.drop_append, flat_drop h]
    have hfl : (ls.drop i).flatten = ls[i] ++ (ls.drop (i + 1)).flatten := by rw [List.drop_eq_getElem_cons hi]; rfl
    have hl32 := h ls[i] (List.getElem_mem hi)
    rw [hfl, List.append_assoc, List.take_append_of_le_length (by omega), List.take_of_length_le (by omega)]
theorem long8_app (l m r : List UInt8) (q : Nat) (h : l.length = q) (hm : m.length = 8) : long8 (l ++ (m ++ r)) q = long8 (l ++ m) q := by
  subst h
  unfold long8 word4
  have hg : ∀ i, i < l.length + 8 → (l ++ (m ++ r))[i]? = (l ++ m)[i]? := fun i hi => by
    rw [← List.append_assoc, List.getElem?_append_left (by rw [List.length_append]; omega)]
  rw [hg _ (by omega), hg _ (by omega), hg _ (by omega), hg _ (by omega), hg _ (by omega), hg _ (by omega), hg _ (by omega), hg _ (by omega)]
theorem parse_print {I Z : Nat} {ls : List (List UInt8)} (hI : I ≤ 65536) (hZ : Z ≤ 65536) (hm : ls.length ≤ 64) (h32 : All32 ls) (post : List UInt8) :
    parseE (printL I Z ls ++ post) = 0 ∧ long8 (printL I Z ls ++ post) 0 = I ∧ long8 (printL I Z ls ++ post) 8 = Z ∧ manyL (printL I Z ls ++ post) = ls.length ∧ rowsOf (printL I Z ls ++ post) ls.length = ls := by
  have e0 : printL I Z ls ++ post = longL (UInt64.ofNat I) ++ (longL (UInt64.ofNat Z) ++ (octL (UInt32.ofNat ls.length) ++ (ls.flatten ++ post))) := by
    unfold printL; simp only [Int.toNat_natCast, List.append_assoc]
  have hl := printL_length (I : Int) (Z : Int) h32
  have g1 : long8 (printL I Z ls ++ post) 0 = I := by
    rw [e0]
    have := long8_app [] (longL (UInt64.ofNat I)) (longL (UInt64.ofNat Z) ++ (octL (UInt32.ofNat ls.length) ++ (ls.flatten ++ post))) 0 rfl (longL_length _)
    rw [List.nil_append] at this
    rw [this]
    rw [long8_longL [] (UInt64.ofNat I) 0 rfl, UInt64.toNat_ofNat']; omega
  have g2 : long8 (printL I Z ls ++ post) 8 = Z := by
    rw [e0]
    rw [long8_app (longL (UInt64.ofNat I)) (longL (UInt64.ofNat Z)) _ 8 (longL_length _) (longL_length _), long8_longL _ _ 8 (longL_length _), UInt64.toNat_ofNat']; omega
  have g3 : manyL (printL I Z ls ++ post) = ls.length := by
    unfold manyL
    rw [e0, ← List.append_assoc]
    have hq : (longL (UInt64.ofNat I) ++ longL (UInt64.ofNat Z)).length = 16 := rfl
    rw [word4_app _ (octL (UInt32.ofNat ls.length) ++ (ls.flatten ++ post)) _ _ _ _ _ 16 hq rfl, word_octL, UInt32.toNat_ofNat']; omega
  refine ⟨?_, g1, g2, g3, ?_⟩
  · unfold parseE
    rw [g1, g2, g3, List.length_append, hl]
    rw [if_neg (by omega), if_neg (by omega), if_neg (by omega), if_neg (by omega)]
  · rw [e0, ← List.append_assoc, ← List.append_assoc]
    exact rowsOf_flat h32 _ post rfl
end

section
open Go Go.RowKit

section
variable {P : Program} {o : Oper} {a : Act}
theorem exec_slice2 {t e : TypeId} {x y z : Operand} {p : Option Addr} {n c k h : Nat} (ho : o.op = .slice t x (some y) (some z) none) (hx : a.eval x = .slice p n c) (hy : a.eval y = .int .i64 (k : Int)) (hz : a.eval z = .int .i64 (h : Int)) (hu : P.underlying t = some (.slice e)) (hs : (P.info? e).map (·.size) = some 1) (hk : k ≤ h) (hc : h ≤ c)
    {q : Option Addr} (hq : shift p c k = q) (w : World) : (execOp a.eval o).run P w = .ok (.value (.slice q (h - k) (c - k))) w := by
  subst hq
  have hr : (Instr.sliceAt t (.slice p n c) (some (.int .i64 (k : Int))) (some (.int .i64 (h : Int))) none).run P w = .ok (.slice (shift p c k) (h - k) (c - k)) w := by
    cases hq : P.info? e with
    | none => simp [hq] at hs
    | some i =>
      have hi : i.size = 1 := by simpa [hq] using hs
      have h1 : (0 : Int) ≤ k ∧ (k : Int) ≤ h ∧ (h : Int) ≤ c := by omega
      simp [Instr.sliceAt, Instr.slice, Instr.sliceBounds, Instr.sliceBound, asIntOf, run_underlying hu, sizeOf, typeInfo, hq, hi, h1.2.1, h1.2.2, hk, hc, shift]
  unfold execOp
  simp only [ho, hx, hy, hz, Option.map_some, Option.map_none, Sem.run_bind, hr, Result.andThen_ok, Sem.run_pure]
theorem exec_arrayAt {T e : TypeId} {x : Operand} {p : Option Addr} {n c m : Nat} (ho : o.op = .sliceToArrayPointer T x) (hx : a.eval x = .slice p m c) (hu : P.underlying T = some (.array n e)) (hl : n ≤ m) (w : World) : (execOp a.eval o).run P w = .ok (.value (.pointer p)) w := by
  unfold execOp
  simp only [ho, hx, Sem.run_bind, run_arrayAt hu hl, Result.andThen_ok, Sem.run_pure]
end
theorem ret_row3 {P : Program} {fn : Func} {R : Ending → World → Prop} {a : Act} {w : World} {p u q : Tmp} {ty : TypeId} {g : Nat} {vs : List Value} {T : TypeId}
    (hres : fn.results = #[.cell p ty, .tmp u, .tmp q]) (hp : a.tmps.getD p undef = .pointer (some ⟨g, 0, none⟩)) (hb : Blk w g vs T)
    {n : Nat} (ht : AggT P ty n) (hn : vs.length = n)
    (hdef : a.defers = []) (hR : R (.returned (.tuple #[.agg vs.toArray, a.tmps.getD u undef, a.tmps.getD q undef])) w) : bodyPost P fn R .ret a w := by
  have h1 := run_load_sub (P := P) (off := 0) hb ht (by omega)
  have h2 : (vs.drop 0).take n = vs := by simp [← hn]
  rw [h2] at h1
  refine bodyPost_ret (v := .tuple #[.agg vs.toArray, a.tmps.getD u undef, a.tmps.getD q undef]) ?_ hdef hR
  simp only [Array.getD_eq_getD_getElem?] at hp
  simp [results, hres, hp, asAddr, h1]

/-- the octets of a part -/
theorem part_at {w : World} {a : Option Addr} {l : List UInt8} (h : Cells w a (l.map u8v)) (c k : Nat) (hk : k + 32 ≤ l.length) (hlc : l.length ≤ c) : ∃ A, shift a c k = some A ∧ CellsAt w A (((l.drop k).take 32).map u8v) := by
  have h1 := Cells.shift h c k 32 (by omega)
  rw [← List.map_drop, ← List.map_take] at h1
  obtain ⟨b, off, hs, _⟩ := h1.some_of (by rw [List.length_map, List.length_take, List.length_drop]; omega)
  rw [hs] at h1
  exact ⟨_, hs, CellsAt.of h1⟩

theorem Cls.grownL {w0 W w w' : World} {L : List Nat} {row : Option Nat} (h : Cls w0 W L [] w) (k : w.grownBy w' row) (hr : ∀ g, row = some g → g ∉ L) (h0 : ∀ g, row = some g → w0.heap.size ≤ g) : Cls w0 W L [] w' :=
  ⟨h.base.grown k h0, ⟨Nat.le_trans h.kept.1 k.size, h.kept.2.1, fun g hg => (k.block g (Nat.lt_of_lt_of_le (h.kept.2.1 g hg) h.kept.1) (fun e => hr g e.symm hg)).trans (h.kept.2.2 g hg)⟩, by simp⟩
end

section
open Go Go.RowKit

def natOf (l : List UInt8) : Nat := l.foldl (fun m c => m * 256 + c.toNat) 0
def w64 (m : Nat) : Int := IntKind.i64.wrap (m : Int)
theorem natOf_snoc (l : List UInt8) (c : UInt8) : natOf (l ++ [c]) = natOf l * 256 + c.toNat := by unfold natOf; rw [List.foldl_append]; rfl
theorem w64_shl (m : Nat) : IntKind.i64.wrap (w64 m * 256) = w64 (m * 256) := by
  unfold w64; simp only [IntKind.wrap_i64]; omega
theorem w64_or (m : Nat) (c : UInt8) : bits .or .i64 (w64 (m * 256)) (c.toNat : Int) = w64 (m * 256 + c.toNat) := by
  have hc := c.toNat_lt
  have ea : (BitVec.ofInt 64 (w64 (m * 256))).toNat = m * 256 % 18446744073709551616 := by
    unfold w64
    rw [BitVec.toNat_ofInt, IntKind.wrap_i64]; omega
  have eb : (BitVec.ofInt 64 (c.toNat : Int)).toNat = c.toNat := by rw [BitVec.toNat_ofInt]; omega
  change IntKind.i64.wrap ((BitVec.ofInt 64 (w64 (m * 256)) ||| BitVec.ofInt 64 (c.toNat : Int)).toNat : Int) = _
  have h := nat_join 8 (m * 256 % 18446744073709551616) c.toNat (by omega) (by omega)
  rw [BitVec.toNat_or, ea, eb, h]
  unfold w64
  simp only [IntKind.wrap_i64]; omega

set_option maxRecDepth 100000 in
set_option maxHeartbeats 1000000 in
theorem rnumber_c (l : List UInt8) (a : Option Addr) (n c : Nat) (w : World) (hl : l.length = n) (hn : n ≤ 140737488355328) (hcl : Cells w a (l.map u8v)) :
    Calls Try.prog 92 #[.slice a n c] w fun e w' => e = .returned (.int .i64 (w64 (natOf l))) ∧ w = w' := by
  have HL := hid hl
  have HC := hid hcl
  clear hl hcl
  go_enter Try.func92, Try.ntmps92
  go_wp2
  go_loopw [3, 8] (fun t i wr => ∃ k : Nat, k ≤ n ∧ i = .int .i64 (k : Int) ∧ t = .int .i64 (w64 (natOf (l.take k))) ∧ w = wr) (fun _ i _ => n - (intOf i).toNat)
  case atStart => exact ⟨0, by omega, rfl, rfl, by first | trivial | rfl⟩
  case round =>
    obtain ⟨k, hk, rfl, rfl, rfl⟩ := hrel
    by_cases hlt : k < n
    · obtain ⟨x, hxk⟩ : ∃ x, l[k]? = some x := ⟨l[k]'(by rw [HL.out]; exact hlt), by simp⟩
      obtain ⟨A, rfl, hca⟩ : ∃ A, a = some A ∧ w.cell? (A.add (k * 1)) = some (u8v x) := by
        obtain ⟨g, o, rfl, h⟩ := HC.out.some_of (by rw [List.length_map, HL.out]; omega)
        exact ⟨_, rfl, by rw [addr_add, Nat.mul_one]; exact h k _ (by rw [List.getElem?_map, hxk]; rfl)⟩
      have hs : l.take (k + 1) = l.take k ++ [x] := by
        rw [List.take_add_one, hxk]; rfl
      have hv : natOf (l.take (k + 1)) = natOf (l.take k) * 256 + x.toNat := by rw [hs, natOf_snoc]
      have HV := hid hv
      clear hs hv hxk
      generalize natOf (l.take k) = m at *
      have q1 := w64_shl m
      have q2 := w64_or m x
      have q3 : IntKind.i64.wrap (x.toNat : Int) = (x.toNat : Int) := IntWalk.i64_in _ (by have := x.toNat_lt; omega)
      have hca1 : w.cell? (A.add k) = some (.int .u8 (x.toNat : Int)) := by rw [Nat.mul_one] at hca; exact hca
      unfold u8v at hca
      go_wp2
      go_roundw
      case rel => exact ⟨k + 1, by omega, by first | rfl | go_num, by rw [HV.out], by first | trivial | rfl⟩
      case measure => simp [intOf]; omega
    · have hkn : k = n := by omega
      subst hkn
      have hlk : l.take k = l := List.take_of_length_le (by rw [HL.out]; omega)
      rw [hlk] at *
      go_wp2
      go_ret
      exact ⟨rfl, rfl⟩
end

section
open Go Go.RowKit

theorem part_cons {l : List UInt8} {p m : Nat} (h : p < l.length) : (l.drop p).take (m + 1) = l[p]?.getD 0 :: (l.drop (p + 1)).take m := by
  rw [List.drop_eq_getElem_cons h, List.take_succ_cons, List.getElem?_eq_getElem h]; rfl
theorem word4_sum (l : List UInt8) (p : Nat) : (word4 l p).toNat = (l[p]?.getD 0).toNat * 16777216 + (l[p + 1]?.getD 0).toNat * 65536 + (l[p + 2]?.getD 0).toNat * 256 + (l[p + 3]?.getD 0).toNat := by
  have ha := (l[p]?.getD 0).toNat_lt
  have hb := (l[p + 1]?.getD 0).toNat_lt
  have hc := (l[p + 2]?.getD 0).toNat_lt
  have hd := (l[p + 3]?.getD 0).toNat_lt
  unfold word4 wordOf
  rw [UInt32.toNat_ofNat']; omega
theorem natOf_4 {l : List UInt8} {p : Nat} (h : p + 4 ≤ l.length) : natOf ((l.drop p).take 4) = (word4 l p).toNat := by
  rw [part_cons (by omega), part_cons (by omega), part_cons (by omega), part_cons (by omega), List.take_zero, word4_sum]
  simp only [natOf, List.foldl_cons, List.foldl_nil, Nat.add_assoc, Nat.reduceAdd]
  omega
theorem natOf_8 {l : List UInt8} {p : Nat} (h : p + 8 ≤ l.length) : natOf ((l.drop p).take 8) = long8 l p := by
  rw [part_cons (by omega), part_cons (by omega), part_cons (by omega), part_cons (by omega), part_cons (by omega), part_cons (by omega), part_cons (by omega), part_cons (by omega), List.take_zero]
  unfold long8
  rw [word4_sum, word4_sum]
  simp only [natOf, List.foldl_cons, List.foldl_nil, Nat.add_assoc, Nat.reduceAdd]
  omega
theorem long8_lt (l : List UInt8) (p : Nat) : long8 l p < 18446744073709551616 := by
  unfold long8
  have := (word4 l p).toNat_lt
  have := (word4 l (p + 4)).toNat_lt
  omega
theorem w64_small {m : Nat} (h : m < 9223372036854775808) : w64 m = m := by
  unfold w64; rw [IntKind.wrap_i64]; omega
theorem parseE_ref {l : List UInt8} (h1 : ¬ l.length < 20) (h2 : ¬ l.length < 20 + 32 * manyL l) : parseE l = printE (w64 (long8 l 0)) (w64 (long8 l 8)) (manyL l) ∧ (parseE l = 0 → w64 (long8 l 0) = long8 l 0 ∧ w64 (long8 l 8) = long8 l 8) := by
  unfold parseE printE
  rw [if_neg h1, if_neg h2]
  have a := long8_lt l 0
  have b := long8_lt l 8
  generalize long8 l 0 = X at *
  generalize long8 l 8 = Y at *
  unfold w64
  simp only [IntKind.wrap_i64]
  constructor
  · by_cases hx : 65536 < X ∨ 65536 < Y
    · rw [if_pos hx, if_pos (by omega)]
    · rw [if_neg hx]
      have e1 : ((X : Int) + 9223372036854775808) % 18446744073709551616 - 9223372036854775808 = X := by omega
      have e2 : ((Y : Int) + 9223372036854775808) % 18446744073709551616 - 9223372036854775808 = Y := by omega
      rw [e1, e2]
      have hno : ¬ ((X : Int) < 0 ∨ 65536 < (X : Int) ∨ (Y : Int) < 0 ∨ 65536 < (Y : Int)) := by omega
      rw [if_neg hno]
  · intro h0
    by_cases hx : 65536 < X ∨ 65536 < Y
    · rw [if_pos hx] at h0; omega
    · omega

section
variable {P : Program} {o : Oper} {a : Act}
theorem exec_sliceHead {t e : TypeId} {x z : Operand} {p : Option Addr} {n c h : Nat} (ho : o.op = .slice t x none (some z) none) (hx : a.eval x = .slice p n c) (hz : a.eval z = .int .i64 (h : Int)) (hu : P.underlying t = some (.slice e)) (hs : (P.info? e).map (·.size) = some 1) (hc : h ≤ c)
    {q : Option Addr} (hq : shift p c 0 = q) (w : World) : (execOp a.eval o).run P w = .ok (.value (.slice q h c)) w := by
  subst hq
  have hr : (Instr.sliceAt t (.slice p n c) none (some (.int .i64 (h : Int))) none).run P w = .ok (.slice (shift p c 0) h c) w := by
    cases hq : P.info? e with
    | none => simp [hq] at hs
    | some i =>
      have hi : i.size = 1 := by simpa [hq] using hs
      have h1 : (0 : Int) ≤ (h : Int) ∧ (h : Int) ≤ c := by omega
      simp [Instr.sliceAt, Instr.slice, Instr.sliceBounds, Instr.sliceBound, asIntOf, run_underlying hu, sizeOf, typeInfo, hq, hi, h1.2, hc, shift]
  unfold execOp
  simp only [ho, hx, hz, Option.map_some, Option.map_none, Sem.run_bind, hr, Result.andThen_ok, Sem.run_pure]
end
end

section
open Go Go.RowKit
end

section
open Go Go.RowKit

def pI (l : List UInt8) : Int := if parseE l = 0 then long8 l 0 else 0
def pZ (l : List UInt8) : Int := if parseE l = 0 then long8 l 8 else 0
def pN (l : List UInt8) : Int := if parseE l = 0 then ((20 + 32 * manyL l : Nat) : Int) else 0
def pR (l : List UInt8) : List (List UInt8) := if parseE l = 0 then rowsOf l (manyL l) else []
theorem parseE_zero {l : List UInt8} (h : parseE l = 0) : 20 + 32 * manyL l ≤ l.length := by
  unfold parseE at h
  by_cases h1 : l.length < 20
  · rw [if_pos h1] at h; omega
  · rw [if_neg h1] at h
    by_cases h2 : l.length < 20 + 32 * manyL l
    · rw [if_pos h2] at h; omega
    · omega
theorem pR_32 (l : List UInt8) : All32 (pR l) := by
  unfold pR
  by_cases h : parseE l = 0
  · rw [if_pos h]; exact rowsOf_32 (parseE_zero h)
  · rw [if_neg h]; intro x hx; cases hx
theorem pR_le (l : List UInt8) : 32 * (pR l).length ≤ l.length := by
  unfold pR
  by_cases h : parseE l = 0
  · rw [if_pos h, rowsOf_length]; have := parseE_zero h; omega
  · rw [if_neg h]; simp
theorem parsed {l : List UInt8} {w w' : World} {e : Ending} (h : parsePost l w e w') :
    ∃ a c, e = .returned (.tuple #[.agg #[.int .i64 (pI l), .int .i64 (pZ l), .slice a (pR l).length c], .int .i64 (pN l), .int .i64 (parseE l)]) ∧ Cells w' a (rows (pR l)) ∧ Ext w w' := by
  obtain ⟨I, Z, N, pv, rfl, hi, he⟩ := h
  unfold pI pZ pN pR
  by_cases h0 : parseE l = 0
  · rw [if_pos h0] at hi
    obtain ⟨rfl, rfl, rfl, ho⟩ := hi
    obtain ⟨a, c, rfl, _, _, _, hc⟩ := own_sliceT (by omega) ho
    simp only [if_pos h0, rowsOf_length]
    exact ⟨a, c, rfl, hc, he⟩
  · rw [if_neg h0] at hi
    obtain ⟨rfl, rfl, rfl, rfl⟩ := hi
    simp only [if_neg h0]
    exact ⟨none, 0, rfl, .inl rfl, he⟩
def prL (I Z : Int) (ls : List (List UInt8)) : List UInt8 := if printE I Z ls.length = 0 then printL I Z ls else []
theorem printed {I Z : Int} {ls : List (List UInt8)} (h32 : All32 ls) {w w' : World} {e : Ending} (h : printPost I Z ls w e w') :
    ∃ a c, e = .returned (.tuple #[.slice a (prL I Z ls).length c, .int .i64 (printE I Z ls.length)]) ∧ Cells w' a ((prL I Z ls).map u8v) ∧ Ext w w' ∧ (printE I Z ls.length = 0 → w'.ownsRow w.heap.size 5 1 (.slice a (prL I Z ls).length c) (prL I Z ls).length ((prL I Z ls).map u8v)) := by
  obtain ⟨v, rfl, hi, he⟩ := h
  unfold prL
  by_cases h0 : printE I Z ls.length = 0
  · rw [if_pos h0] at hi
    simp only [if_pos h0, printL_length I Z h32]
    obtain ⟨a, c, rfl, _, _, _, hc⟩ := own_slice hi
    exact ⟨a, c, rfl, hc, he, fun _ => hi⟩
  · rw [if_neg h0] at hi
    subst hi
    simp only [if_neg h0]
    exact ⟨none, 0, rfl, .inl rfl, he, fun h => absurd h (by first | exact h0 | exact fun x => x)⟩
theorem printE_zero {I Z : Int} {m : Nat} (h : printE I Z m = 0) : 0 ≤ I ∧ I ≤ 65536 ∧ 0 ≤ Z ∧ Z ≤ 65536 ∧ m ≤ 64 := by
  unfold printE at h
  by_cases h1 : I < 0 ∨ 65536 < I ∨ Z < 0 ∨ 65536 < Z
  · rw [if_pos h1] at h; omega
  · rw [if_neg h1] at h
    by_cases h2 : 64 < m
    · rw [if_pos h2] at h; omega
    · omega
theorem printed_parsed {I Z : Int} {ls : List (List UInt8)} (h32 : All32 ls) (h : printE I Z ls.length = 0) (post : List UInt8) :
    parseE (prL I Z ls ++ post) = 0 ∧ pI (prL I Z ls ++ post) = I ∧ pZ (prL I Z ls ++ post) = Z ∧ pR (prL I Z ls ++ post) = ls ∧ pN (prL I Z ls ++ post) = ((prL I Z ls).length : Nat) ∧ ls.length ≤ 64 := by
  obtain ⟨h1, h2, h3, h4, h5⟩ := printE_zero h
  obtain ⟨i, rfl⟩ := Int.eq_ofNat_of_zero_le h1
  obtain ⟨z, rfl⟩ := Int.eq_ofNat_of_zero_le h3
  obtain ⟨a1, a2, a3, a4, a5⟩ := parse_print (I := i) (Z := z) (ls := ls) (by omega) (by omega) h5 h32 post
  unfold prL
  rw [if_pos h]
  unfold pI pZ pR pN
  rw [if_pos a1, if_pos a1, if_pos a1, if_pos a1, a2, a3, a4, a5, printL_length _ _ h32]
  exact ⟨a1, rfl, rfl, rfl, rfl, h5⟩

theorem prL_le {I Z : Int} {ls : List (List UInt8)} (h32 : All32 ls) : (prL I Z ls).length ≤ 2068 := by
  unfold prL
  by_cases h : printE I Z ls.length = 0
  · rw [if_pos h, printL_length _ _ h32]; have := printE_zero h; omega
  · rw [if_neg h]; simp

/-- a guarded load of a whole block -/
theorem wpl_loadw_g {P : Program} {ops : Array Oper} {Q : Exit → Act → World → Prop} {a : Act} {w : World} {rest : List Oper} {o : Oper} (hw : Region.wanted o (yielded ops a.tmps) = true) (ty : TypeId) (x : Operand) (ho : o.op = .load ty x) {g : Nat} {vs : List Value} {T : TypeId}
    (hx : a.eval x = .pointer (some ⟨g, 0, none⟩)) (hb : Blk w g vs T) {n : Nat} (ht : AggT P ty n) (hn : vs.length = n)
    (h : wpList P ops Q rest (a.put o.dst (.agg vs.toArray)) w) : wpList P ops Q (o :: rest) a w :=
  wpList_step fun K hK => by
    rw [if_pos hw]
    have h1 := run_load_sub (P := P) (off := 0) hb ht (by omega)
    have h2 : (vs.drop 0).take n = vs := by simp [← hn]
    rw [h2] at h1
    unfold Oper.wp execOp
    simp only [ho, hx, Instr.loadAt, Instr.sureAddr, Sem.run_bind, Sem.run_pure, Result.andThen_ok, h1]
    exact hK _ _ h
end

section
open Go Go.RowKit

def bitL (k : List UInt8) (i : Nat) : Nat := (k[i / 8]?.getD 0).toNat / 2 ^ (7 - i % 8) % 2
theorem bitL_lt (k : List UInt8) (i : Nat) : bitL k i < 2 := Nat.mod_lt _ (by omega)
def cntL (m : List UInt8) : Nat → Nat
  | 0 => 0
  | i + 1 => cntL m i + bitL m i
def depL (m : List UInt8) : Nat → Nat
  | 0 => 0
  | i + 1 => if bitL m i = 1 then i + 1 else depL m i
theorem cntL_le (m : List UInt8) (i : Nat) : cntL m i ≤ i := by
  induction i with
  | zero => exact Nat.le_refl _
  | succ i ih => have := bitL_lt m i; simp only [cntL]; omega
theorem depL_le (m : List UInt8) (i : Nat) : depL m i ≤ i := by
  induction i with
  | zero => exact Nat.le_refl _
  | succ i ih => simp only [depL]; split <;> omega
def topB (c : Nat) : Nat := if c % 2 = 1 then 8 else if c / 2 % 2 = 1 then 7 else if c / 4 % 2 = 1 then 6 else if c / 8 % 2 = 1 then 5 else if c / 16 % 2 = 1 then 4 else if c / 32 % 2 = 1 then 3 else if c / 64 % 2 = 1 then 2 else if c / 128 % 2 = 1 then 1 else 0
theorem ones_sum : ∀ c : Fin 256, Lib.onesCount c.val = c.val / 128 % 2 + c.val / 64 % 2 + c.val / 32 % 2 + c.val / 16 % 2 + c.val / 8 % 2 + c.val / 4 % 2 + c.val / 2 % 2 + c.val % 2 := by decide +kernel
theorem top_tz : ∀ c : Fin 256, (c.val = 0 ∧ topB c.val = 0) ∨ (c.val ≠ 0 ∧ 1 ≤ topB c.val ∧ topB c.val + Lib.trailingZeros8 c.val = 8) := by decide +kernel
theorem bitL_8 (m : List UInt8) (i j : Nat) (h : j < 8) : bitL m (8 * i + j) = (m[i]?.getD 0).toNat / 2 ^ (7 - j) % 2 := by
  unfold bitL
  rw [show (8 * i + j) / 8 = i by omega, show (8 * i + j) % 8 = j by omega]
theorem cnt_8 (m : List UInt8) (i : Nat) : cntL m (8 * (i + 1)) = cntL m (8 * i) + Lib.onesCount (m[i]?.getD 0).toNat := by
  rw [show 8 * (i + 1) = 8 * i + 7 + 1 by omega]
  have e7 : cntL m (8 * i + 7 + 1) = cntL m (8 * i + 6 + 1) + bitL m (8 * i + 7) := rfl
  have e6 : cntL m (8 * i + 6 + 1) = cntL m (8 * i + 5 + 1) + bitL m (8 * i + 6) := rfl
  have e5 : cntL m (8 * i + 5 + 1) = cntL m (8 * i + 4 + 1) + bitL m (8 * i + 5) := rfl
  have e4 : cntL m (8 * i + 4 + 1) = cntL m (8 * i + 3 + 1) + bitL m (8 * i + 4) := rfl
  have e3 : cntL m (8 * i + 3 + 1) = cntL m (8 * i + 2 + 1) + bitL m (8 * i + 3) := rfl
  have e2 : cntL m (8 * i + 2 + 1) = cntL m (8 * i + 1 + 1) + bitL m (8 * i + 2) := rfl
  have e1 : cntL m (8 * i + 1 + 1) = cntL m (8 * i + 0 + 1) + bitL m (8 * i + 1) := rfl
  have e0 : cntL m (8 * i + 0 + 1) = cntL m (8 * i) + bitL m (8 * i + 0) := rfl
  rw [e7, e6, e5, e4, e3, e2, e1, e0]
  rw [ones_sum ⟨(m[i]?.getD 0).toNat, (m[i]?.getD 0).toNat_lt⟩]
  have h0 := bitL_8 m i 0 (by omega)
  have h1 := bitL_8 m i 1 (by omega)
  have h2 := bitL_8 m i 2 (by omega)
  have h3 := bitL_8 m i 3 (by omega)
  have h4 := bitL_8 m i 4 (by omega)
  have h5 := bitL_8 m i 5 (by omega)
  have h6 := bitL_8 m i 6 (by omega)
  have h7 := bitL_8 m i 7 (by omega)
  rw [h0, h1, h2, h3, h4, h5, h6, h7]
  simp only [Nat.reduceSub, Nat.reducePow, Nat.div_one]
  omega
theorem dep_8 (m : List UInt8) (i : Nat) : depL m (8 * (i + 1)) = if (m[i]?.getD 0).toNat = 0 then depL m (8 * i) else 8 * i + 8 - Lib.trailingZeros8 (m[i]?.getD 0).toNat := by
  have ht := top_tz ⟨(m[i]?.getD 0).toNat, (m[i]?.getD 0).toNat_lt⟩
  have h0 := bitL_8 m i 0 (by omega)
  have h1 := bitL_8 m i 1 (by omega)
  have h2 := bitL_8 m i 2 (by omega)
  have h3 := bitL_8 m i 3 (by omega)
  have h4 := bitL_8 m i 4 (by omega)
  have h5 := bitL_8 m i 5 (by omega)
  have h6 := bitL_8 m i 6 (by omega)
  have h7 := bitL_8 m i 7 (by omega)
  have hd : depL m (8 * (i + 1)) = if topB (m[i]?.getD 0).toNat = 0 then depL m (8 * i) else 8 * i + topB (m[i]?.getD 0).toNat := by
    rw [show 8 * (i + 1) = 8 * i + 7 + 1 by omega]
    simp only [Nat.add_zero, Nat.reduceSub, Nat.reducePow, Nat.div_one] at h0 h1 h2 h3 h4 h5 h6 h7
    have e7 : depL m (8 * i + 7 + 1) = if bitL m (8 * i + 7) = 1 then 8 * i + 7 + 1 else depL m (8 * i + 6 + 1) := rfl
    have e6 : depL m (8 * i + 6 + 1) = if bitL m (8 * i + 6) = 1 then 8 * i + 6 + 1 else depL m (8 * i + 5 + 1) := rfl
    have e5 : depL m (8 * i + 5 + 1) = if bitL m (8 * i + 5) = 1 then 8 * i + 5 + 1 else depL m (8 * i + 4 + 1) := rfl
    have e4 : depL m (8 * i + 4 + 1) = if bitL m (8 * i + 4) = 1 then 8 * i + 4 + 1 else depL m (8 * i + 3 + 1) := rfl
    have e3 : depL m (8 * i + 3 + 1) = if bitL m (8 * i + 3) = 1 then 8 * i + 3 + 1 else depL m (8 * i + 2 + 1) := rfl
    have e2 : depL m (8 * i + 2 + 1) = if bitL m (8 * i + 2) = 1 then 8 * i + 2 + 1 else depL m (8 * i + 1 + 1) := rfl
    have e1 : depL m (8 * i + 1 + 1) = if bitL m (8 * i + 1) = 1 then 8 * i + 1 + 1 else depL m (8 * i + 1) := rfl
    have e0 : depL m (8 * i + 1) = if bitL m (8 * i) = 1 then 8 * i + 1 else depL m (8 * i) := rfl
    rw [e7, e6, e5, e4, e3, e2, e1, e0, h0, h1, h2, h3, h4, h5, h6, h7]
    generalize (m[i]?.getD 0).toNat = c
    unfold topB
    by_cases b0 : c % 2 = 1
    · simp only [if_pos b0]; rfl
    by_cases b1 : c / 2 % 2 = 1
    · simp only [if_neg b0, if_pos b1]; rfl
    by_cases b2 : c / 4 % 2 = 1
    · simp only [if_neg b0, if_neg b1, if_pos b2]; rfl
    by_cases b3 : c / 8 % 2 = 1
    · simp only [if_neg b0, if_neg b1, if_neg b2, if_pos b3]; rfl
    by_cases b4 : c / 16 % 2 = 1
    · simp only [if_neg b0, if_neg b1, if_neg b2, if_neg b3, if_pos b4]; rfl
    by_cases b5 : c / 32 % 2 = 1
    · simp only [if_neg b0, if_neg b1, if_neg b2, if_neg b3, if_neg b4, if_pos b5]; rfl
    by_cases b6 : c / 64 % 2 = 1
    · simp only [if_neg b0, if_neg b1, if_neg b2, if_neg b3, if_neg b4, if_neg b5, if_pos b6]; rfl
    by_cases b7 : c / 128 % 2 = 1
    · simp only [if_neg b0, if_neg b1, if_neg b2, if_neg b3, if_neg b4, if_neg b5, if_neg b6, if_pos b7]; rfl
    simp only [if_neg b0, if_neg b1, if_neg b2, if_neg b3, if_neg b4, if_neg b5, if_neg b6, if_neg b7]; rfl
  rw [hd]
  simp only at ht
  rcases ht with ⟨a, b⟩ | ⟨a, b, c⟩
  · rw [if_pos b, if_pos a]
  · rw [if_neg (by omega), if_neg a]; omega
end

section
open Go Go.RowKit

theorem and_one (x : UInt8) (k : Nat) : bits .and .i64 (wrap64 ((x.toNat : Int) / 2 ^ k)) 1 = ((x.toNat / 2 ^ k % 2 : Nat) : Int) := by
  have hx := x.toNat_lt
  have hq : ((x.toNat : Int) / 2 ^ k) = ((x.toNat / 2 ^ k : Nat) : Int) := by simp
  have hle : x.toNat / 2 ^ k ≤ x.toNat := Nat.div_le_self _ _
  rw [hq]
  generalize x.toNat / 2 ^ k = q at *
  have hw : wrap64 (q : Int) = q := by first | exact IntWalk.i64_in _ (by omega) | (unfold wrap64; omega)
  rw [hw]
  have ea : (BitVec.ofInt 64 (q : Int)).toNat = q := by rw [BitVec.toNat_ofInt]; omega
  have eb : (BitVec.ofInt 64 (1 : Int)).toNat = 1 := by decide
  change IntKind.i64.wrap ((BitVec.ofInt 64 (q : Int) &&& BitVec.ofInt 64 (1 : Int)).toNat : Int) = _
  rw [BitVec.toNat_and, ea, eb, Nat.and_one_is_mod, IntWalk.i64_in _ (by omega)]
theorem and_one8 (x : UInt8) (k : Nat)   : wrap64 (bits .and .u8 ((x.toNat : Int) / 2 ^ k) 1) = ((x.toNat / 2 ^ k % 2 : Nat) : Int) := by
  have hx := x.toNat_lt
  have hq : ((x.toNat : Int) / 2 ^ k) = ((x.toNat / 2 ^ k : Nat) : Int) := by simp
  have hle : x.toNat / 2 ^ k ≤ x.toNat := Nat.div_le_self _ _
  rw [hq]
  generalize x.toNat / 2 ^ k = q at *
  have h : bits .and .u8 (q : Int) ((1 : Nat) : Int) = ((q &&& 1 : Nat) : Int) := u8_and_nat q 1 (by omega) (by omega)
  have h1 : bits .and .u8 (q : Int) 1 = ((q % 2 : Nat) : Int) := by rw [← Nat.and_one_is_mod]; exact h
  rw [h1]
  first | exact IntWalk.i64_in _ (by omega) | (unfold wrap64; omega)

set_option maxRecDepth 100000 in
set_option maxHeartbeats 1000000 in
theorem bit_c (k : List UInt8) (i : Nat) (w : World) (hk : k.length = 32) (hi : i < 256) :
    Calls Try.prog 74 #[.agg (k.map u8v).toArray, .int .i64 (i : Int)] w fun e w' => e = .returned (.int .i64 ((bitL k i : Nat) : Int)) ∧ Ext w w' := by
  obtain ⟨x, hx⟩ : ∃ x, k[i / 8]? = some x := ⟨k[i / 8]'(by omega), by simp⟩
  have hb : bitL k i = x.toNat / 2 ^ (7 - i % 8) % 2 := by unfold bitL; rw [hx]; rfl
  rw [hb]
  have hgx : (k.map u8v)[i / 8]? = some (.int .u8 (x.toNat : Int)) := by rw [List.getElem?_map, hx]; rfl
  have HGX := hid hgx
  have hx256 := x.toNat_lt
  have HK := hid hk
  clear hgx hx hb hk
  go_enter Try.func74, Try.ntmps74
  go_upto_region 1 with (fail)
  generalize hwA : World.alloc w _ = wA
  have pA : Blk wA w.heap.size (k.map u8v) 32 := by rw [← hwA]; exact Blk.mk_alloc rfl rfl
  have eA : Ext w wA := by rw [← hwA]; exact (Ext.refl w).alloc _
  have c0 : wA.cell? ⟨w.heap.size, i / 8, none⟩ = some (.int .u8 (x.toNat : Int)) := pA.cell' HGX.out
  clear hwA pA
  go_wp2
  go_ret
  exact ⟨congrArg Ending.returned (congrArg (Value.int .i64) (and_one x _)), eA⟩

set_option maxRecDepth 100000 in
set_option maxHeartbeats 1000000 in
theorem rbit_c (k : List UInt8) (i : Nat) (w : World) (hk : k.length = 32) (hi : i < 256) :
    Calls Try.prog 106 #[.agg (k.map u8v).toArray, .int .i64 (i : Int)] w fun e w' => e = .returned (.int .i64 ((bitL k i : Nat) : Int)) ∧ Ext w w' := by
  obtain ⟨x, hx⟩ : ∃ x, k[i / 8]? = some x := ⟨k[i / 8]'(by omega), by simp⟩
  have hb : bitL k i = x.toNat / 2 ^ (7 - i % 8) % 2 := by unfold bitL; rw [hx]; rfl
  rw [hb]
  have hgx : (k.map u8v)[i / 8]? = some (.int .u8 (x.toNat : Int)) := by rw [List.getElem?_map, hx]; rfl
  have HGX := hid hgx
  have hx256 := x.toNat_lt
  have HK := hid hk
  clear hgx hx hb hk
  go_enter Try.func106, Try.ntmps106
  go_upto_region 1 with (fail)
  generalize hwA : World.alloc w _ = wA
  have pA : Blk wA w.heap.size (k.map u8v) 32 := by rw [← hwA]; exact Blk.mk_alloc rfl rfl
  have eA : Ext w wA := by rw [← hwA]; exact (Ext.refl w).alloc _
  have c0 : wA.cell? ⟨w.heap.size, i / 8, none⟩ = some (.int .u8 (x.toNat : Int)) := pA.cell' HGX.out
  clear hwA pA
  go_wp2
  go_ret
  exact ⟨congrArg Ending.returned (congrArg (Value.int .i64) (and_one8 x _)), eA⟩
end

section
open Go Go.RowKit

/-- how many keys stand before the first whose bit is set -/
def hiN (lvl : Nat) (ks : List (List UInt8)) : Nat := (ks.takeWhile fun x => bitL x lvl == 0).length
theorem hiN_le (lvl : Nat) (ks : List (List UInt8)) : hiN lvl ks ≤ ks.length := (List.takeWhile_sublist _).length_le
theorem tw_at {α : Type} {p : α → Bool} : ∀ {l : List α} {i : Nat}, i < (l.takeWhile p).length → ∃ x, l[i]? = some x ∧ p x = true
  | [], i, h => by simp at h
  | a :: l, i, h => by
    rw [List.takeWhile_cons] at h
    by_cases hp : p a = true
    · rw [if_pos hp] at h
      cases i with
      | zero => exact ⟨a, rfl, hp⟩
      | succ i =>
        obtain ⟨x, hx, h2⟩ := tw_at (l := l) (p := p) (i := i) (by simpa using h)
        exact ⟨x, by rw [List.getElem?_cons_succ]; exact hx, h2⟩
    · rw [if_neg hp] at h; simp at h
theorem tw_end {α : Type} {p : α → Bool} : ∀ {l : List α} {x : α}, l[(l.takeWhile p).length]? = some x → p x = false
  | [], x, h => by simp at h
  | a :: l, x, h => by
    rw [List.takeWhile_cons] at h
    by_cases hp : p a = true
    · rw [if_pos hp] at h
      simp only [List.length_cons, List.getElem?_cons_succ] at h
      exact tw_end h
    · rw [if_neg hp] at h
      simp at h
      rw [← h]; simpa using hp
theorem hiN_at {lvl : Nat} {ks : List (List UInt8)} {i : Nat} (h : i < hiN lvl ks) : ∃ x, ks[i]? = some x ∧ bitL x lvl = 0 := by
  obtain ⟨x, hx, hp⟩ := tw_at h
  exact ⟨x, hx, by simpa using hp⟩
theorem hiN_end {lvl : Nat} {ks : List (List UInt8)} {x : List UInt8} (h : ks[hiN lvl ks]? = some x) : bitL x lvl = 1 := by
  have := tw_end h
  have h2 := bitL_lt x lvl
  simp at this
  omega

set_option maxRecDepth 100000 in
set_option maxHeartbeats 2000000 in
theorem halves_c (ks : List (List UInt8)) (lvl : Nat) (a : Option Addr) (n c : Nat) (w : World) (hl : ks.length = n) (hn : n ≤ 1000) (hnc : n ≤ c) (h32 : All32 ks) (hlv : lvl < 256) (hcl : Cells w a (rows ks)) :
    Calls Try.prog 73 #[.slice a n c, .int .i64 (lvl : Int)] w fun e w' => e = .returned (.tuple #[.slice a (hiN lvl ks) c, .slice (shiftz a c (hiN lvl ks) 32) (n - hiN lvl ks) (c - hiN lvl ks)]) ∧ Ext w w' := by
  have HL := hid hl
  have H32 := hid h32
  have HC := hid hcl
  obtain ⟨H, hH⟩ : ∃ H, hiN lvl ks = H := ⟨_, rfl⟩
  have hHn : H ≤ n := by rw [← hH, ← hl]; exact hiN_le lvl ks
  have HAT := hid (fun i (h : i < H) => hiN_at (lvl := lvl) (ks := ks) (i := i) (by rw [hH]; exact h))
  have HEND := hid (fun x (h : ks[H]? = some x) => hiN_end (lvl := lvl) (ks := ks) (x := x) (by rw [hH]; exact h))
  rw [hH]
  obtain ⟨q, hq⟩ : ∃ q, shiftz a c H 32 = q := ⟨_, rfl⟩
  rw [hq]
  have HQ := hid hq
  have hbit := hid (fun (x : List UInt8) w' (h : x.length = 32) => bit_c x lvl w' h hlv)
  clear hl h32 hcl hH hq
  go_enter Try.func73, Try.ntmps73
  go_wp2_with fail
  go_loopw [6] (fun v wr => ∃ i : Nat, i ≤ H ∧ v = .int .i64 (i : Int) ∧ Ext w wr) (fun v _ => H - (intOf v).toNat)
  case atStart => exact ⟨0, by omega, rfl, Ext.refl _⟩
  case round =>
    obtain ⟨i, hi, rfl, e1⟩ := hrel
    have E1 := hid e1
    clear e1
    by_cases hin : i < n
    · have d1 : decide ((i : Int) < (n : Int)) = true := decide_eq_true (by omega)
      have d2 : decide (i < n) = true := decide_eq_true hin
      obtain ⟨x, hx⟩ : ∃ x, ks[i]? = some x := ⟨ks[i]'(by rw [HL.out]; exact hin), by simp⟩
      have hx0 := H32.out.at hx
      obtain ⟨A, rfl, hca⟩ : ∃ A, a = some A ∧ CellsAt w (A.add (i * 32)) (x.map u8v) := by
        cases a with
        | none => rcases HC.out with h | ⟨_, _, h, _⟩
                  · have := rows_length H32.out; rw [h, HL.out] at this; simp at this; omega
                  · cases h
        | some A => exact ⟨A, rfl, HC.out.rowAt H32.out hx⟩
      have HCA := hid (hca.ext E1.out)
      have HXV : Hid ((x.map u8v).length = 32) := hid (by rw [List.length_map, hx0])
      have hb := hbit.out x wr hx0
      by_cases hlt : i < H
      · obtain ⟨x2, hx2, hb0⟩ := HAT.out i hlt
        obtain rfl : x = x2 := by rw [hx] at hx2; exact Option.some.inj hx2
        rw [hb0] at hb
        have HB := hid hb
        clear hb hb0 hx hx2 hca hx0
        have hz : (((0 : Nat) : Int) == 0) = true := by decide
        go_wp2_with (first | (refine wpg_run rfl (exec_index (i := i) rfl rfl rfl Try.underlying29 size_apisum hin _) ?_) | (refine wpg_run rfl (exec_load_at rfl rfl HCA.out agg_apisum HXV.out) ?_))
        refine HB.out.mono ?_
        rintro e w2 ⟨rfl, e2⟩
        have E2 := hid (E1.out.ext e2)
        clear e2
        go_wp2_with fail
        go_roundw
        case rel => exact ⟨i + 1, by omega, by go_num, E2.out⟩
        case measure => simp [intOf]; omega
      · obtain rfl : i = H := by omega
        have hb1 := HEND.out x hx
        rw [hb1] at hb
        have HB := hid hb
        clear hb hb1 hx hca hx0
        go_wp2_with (first | (refine wpg_run rfl (exec_index (i := i) rfl rfl rfl Try.underlying29 size_apisum hin _) ?_) | (refine wpg_run rfl (exec_load_at rfl rfl HCA.out agg_apisum HXV.out) ?_))
        refine HB.out.mono ?_
        rintro e w2 ⟨rfl, e2⟩
        have E2 := hid (E1.out.ext e2)
        clear e2
        go_wp2_with fail
        obtain ⟨C, hC⟩ : ∃ C : World → Prop, C = Cls w2 w2 [] [] := ⟨_, rfl⟩
        have hC0 : ∀ w', C w' ↔ Cls w2 w2 [] [] w' := fun w' => by rw [hC]
        clear hC
        have HCC := hid hC0
        clear hC0
        have hCx : ∀ w w', C w → Ext w w' → C w' := fun w w' h1 h2 => (HCC.out w').2 (((HCC.out w).1 h1).ext h2)
        have hCA : C w2 := (HCC.out _).2 (Cls.no_room (Ext.refl w2) (Kept.none _))
        refine wp_region_held_drew (S := C) (by kernel_rfl) (hCx _ _ hCA (Ext.refl _).drew) (fun hS0 => ?_)
        refine held_take 0 (v := ?tv1) rfl (by kernel_rfl) (by kernel_rfl) (by kernel_rfl) (fun _ _ _ h => h) (.inl ⟨rfl, ?ty1⟩) hS0 ?tr1
        case ty1 => (intro _ _; go_simp; try with_reducible rfl)
        case tr1 =>
        simp only [Act.put, List.setIfInBounds_toArray, List.set_cons_succ, List.set_cons_zero]
        refine held_take 1 (v := ?tv2) rfl (by kernel_rfl) (by kernel_rfl) (by kernel_rfl) (fun _ _ _ h => h) (.inl ⟨rfl, ?ty2⟩) hS0 ?tr2
        case ty2 => (intro _ _; go_simp; try with_reducible rfl)
        case tr2 =>
        simp only [Act.put, List.setIfInBounds_toArray, List.set_cons_succ, List.set_cons_zero]
        refine held_take 2 (v := _) rfl (by kernel_rfl) (by kernel_rfl) (by kernel_rfl) (fun _ _ _ h => h) (yieldsI_run rfl (fun w1 _ => exec_high (k := i) rfl rfl rfl Try.underlying29 size_apisum (by omega) w1)) hS0 ?_
        simp only [Act.put, List.setIfInBounds_toArray, List.set_cons_succ, List.set_cons_zero]
        refine held_take 3 (v := ?tv3) rfl (by kernel_rfl) (by kernel_rfl) (by kernel_rfl) (fun _ _ _ h => h) (.inl ⟨rfl, ?ty3⟩) hS0 ?tr3
        case ty3 => (intro _ _; go_simp; try with_reducible rfl)
        case tr3 =>
        simp only [Act.put, List.setIfInBounds_toArray, List.set_cons_succ, List.set_cons_zero]
        refine held_take 4 (v := ?tv4) rfl (by kernel_rfl) (by kernel_rfl) (by kernel_rfl) (fun _ _ _ h => h) (.inl ⟨rfl, ?ty4⟩) hS0 ?tr4
        case ty4 => (intro _ _; go_simp; try with_reducible rfl)
        case tr4 =>
        simp only [Act.put, List.setIfInBounds_toArray, List.set_cons_succ, List.set_cons_zero]
        refine held_take 5 (v := _) rfl (by kernel_rfl) (by kernel_rfl) (by kernel_rfl) (fun _ _ _ h => h) (yieldsI_run rfl (fun w1 _ => exec_lowS (k := i) HQ.out rfl rfl rfl Try.underlying29 size_apisum hHn w1)) hS0 ?_
        simp only [Act.put, List.setIfInBounds_toArray, List.set_cons_succ, List.set_cons_zero]
        refine held_take 6 (v := ?tv5) rfl (by kernel_rfl) (by kernel_rfl) (by kernel_rfl) (fun _ _ _ h => h) (.inl ⟨rfl, ?ty5⟩) hS0 ?tr5
        case ty5 => (intro _ _; go_simp; try with_reducible rfl)
        case tr5 =>
        simp only [Act.put, List.setIfInBounds_toArray, List.set_cons_succ, List.set_cons_zero]
        refine held_take 7 (v := ?tv6) rfl (by kernel_rfl) (by kernel_rfl) (by kernel_rfl) (fun _ _ _ h => h) (.inl ⟨rfl, ?ty6⟩) hS0 ?tr6
        case ty6 => (intro _ _; go_simp; try with_reducible rfl)
        case tr6 =>
        simp only [Act.put, List.setIfInBounds_toArray, List.set_cons_succ, List.set_cons_zero]
        refine wpAnyH_done (by kernel_rfl) ?_ _
        have E3 := hid (E2.out.ext ((HCC.out _).1 hS0).base)
        go_wp2_with fail
        go_ret2
        exact ⟨rfl, E3.out⟩
    · obtain rfl : i = n := by omega
      obtain rfl : i = H := by omega
      have d1 : decide ((i : Int) < (i : Int)) = false := decide_eq_false (by omega)
      have d2 : decide (i < i) = false := decide_eq_false (by omega)
      clear hi hin
      go_wp2_with fail
      obtain ⟨C, hC⟩ : ∃ C : World → Prop, C = Cls wr wr [] [] := ⟨_, rfl⟩
      have hC0 : ∀ w', C w' ↔ Cls wr wr [] [] w' := fun w' => by rw [hC]
      clear hC
      have HCC := hid hC0
      clear hC0
      have hCx : ∀ w w', C w → Ext w w' → C w' := fun w w' h1 h2 => (HCC.out w').2 (((HCC.out w).1 h1).ext h2)
      have hCA : C wr := (HCC.out _).2 (Cls.no_room (Ext.refl wr) (Kept.none _))
      refine wp_region_held_drew (S := C) (by kernel_rfl) (hCx _ _ hCA (Ext.refl _).drew) (fun hS0 => ?_)
      refine held_take 0 (v := ?tv7) rfl (by kernel_rfl) (by kernel_rfl) (by kernel_rfl) (fun _ _ _ h => h) (.inl ⟨rfl, ?ty7⟩) hS0 ?tr7
      case ty7 => (intro _ _; go_simp; try with_reducible rfl)
      case tr7 =>
      simp only [Act.put, List.setIfInBounds_toArray, List.set_cons_succ, List.set_cons_zero]
      refine held_take 1 (v := ?tv8) rfl (by kernel_rfl) (by kernel_rfl) (by kernel_rfl) (fun _ _ _ h => h) (.inl ⟨rfl, ?ty8⟩) hS0 ?tr8
      case ty8 => (intro _ _; go_simp; try with_reducible rfl)
      case tr8 =>
      simp only [Act.put, List.setIfInBounds_toArray, List.set_cons_succ, List.set_cons_zero]
      refine held_take 2 (v := _) rfl (by kernel_rfl) (by kernel_rfl) (by kernel_rfl) (fun _ _ _ h => h) (yieldsI_run rfl (fun w1 _ => exec_high (k := i) rfl rfl rfl Try.underlying29 size_apisum (by omega) w1)) hS0 ?_
      simp only [Act.put, List.setIfInBounds_toArray, List.set_cons_succ, List.set_cons_zero]
      refine held_take 3 (v := ?tv9) rfl (by kernel_rfl) (by kernel_rfl) (by kernel_rfl) (fun _ _ _ h => h) (.inl ⟨rfl, ?ty9⟩) hS0 ?tr9
      case ty9 => (intro _ _; go_simp; try with_reducible rfl)
      case tr9 =>
      simp only [Act.put, List.setIfInBounds_toArray, List.set_cons_succ, List.set_cons_zero]
      refine held_take 4 (v := ?tv10) rfl (by kernel_rfl) (by kernel_rfl) (by kernel_rfl) (fun _ _ _ h => h) (.inl ⟨rfl, ?ty10⟩) hS0 ?tr10
      case ty10 => (intro _ _; go_simp; try with_reducible rfl)
      case tr10 =>
      simp only [Act.put, List.setIfInBounds_toArray, List.set_cons_succ, List.set_cons_zero]
      refine held_take 5 (v := _) rfl (by kernel_rfl) (by kernel_rfl) (by kernel_rfl) (fun _ _ _ h => h) (yieldsI_run rfl (fun w1 _ => exec_lowS (k := i) HQ.out rfl rfl rfl Try.underlying29 size_apisum hHn w1)) hS0 ?_
      simp only [Act.put, List.setIfInBounds_toArray, List.set_cons_succ, List.set_cons_zero]
      refine held_take 6 (v := ?tv11) rfl (by kernel_rfl) (by kernel_rfl) (by kernel_rfl) (fun _ _ _ h => h) (.inl ⟨rfl, ?ty11⟩) hS0 ?tr11
      case ty11 => (intro _ _; go_simp; try with_reducible rfl)
      case tr11 =>
      simp only [Act.put, List.setIfInBounds_toArray, List.set_cons_succ, List.set_cons_zero]
      refine held_take 7 (v := ?tv12) rfl (by kernel_rfl) (by kernel_rfl) (by kernel_rfl) (fun _ _ _ h => h) (.inl ⟨rfl, ?ty12⟩) hS0 ?tr12
      case ty12 => (intro _ _; go_simp; try with_reducible rfl)
      case tr12 =>
      simp only [Act.put, List.setIfInBounds_toArray, List.set_cons_succ, List.set_cons_zero]
      refine wpAnyH_done (by kernel_rfl) ?_ _
      have E3 := hid (E1.out.ext ((HCC.out _).1 hS0).base)
      go_wp2_with fail
      go_ret2
      exact ⟨by rw [Nat.sub_self]; rfl, E3.out⟩
end

section
open Go Go.RowKit

theorem agg_lev : AggT Try.prog 22 32 := ⟨⟨_, Try.underlying22, rfl⟩, by kernel_rfl⟩
theorem agg_mproof : AggT Try.prog 62 33 := ⟨⟨_, Try.underlying62, rfl⟩, by kernel_rfl⟩
/-- the value of a proof of a map -/
def mpL (m : List UInt8) (s : Value) : List Value := m.map u8v ++ [s]
theorem mpL_length {m : List UInt8} (h : m.length = 32) (s : Value) : (mpL m s).length = 33 := by simp [mpL, h]
theorem mpL_lev {m : List UInt8} (h : m.length = 32) (s : Value) : ((mpL m s).drop 0).take 32 = m.map u8v := by
  unfold mpL
  rw [List.drop_zero, List.take_append_of_le_length (by simp [h]), List.take_of_length_le (by simp [h])]
theorem mpL_at {m : List UInt8} (h : m.length = 32) (s : Value) : (mpL m s)[32]? = some s := by
  unfold mpL
  rw [List.getElem?_append_right (by simp [h])]
  simp [h]

set_option maxRecDepth 100000 in
set_option maxHeartbeats 1000000 in
theorem marked_c (m : List UInt8) (w : World) (hm : m.length = 32) :
    Calls Try.prog 70 #[.agg (m.map u8v).toArray] w fun e w' => e = .returned (.tuple #[.int .i64 ((cntL m 256 : Nat) : Int), .int .i64 ((depL m 256 : Nat) : Int)]) ∧ Ext w w' := by
  have HM := hid hm
  have HMV : Hid ((m.map u8v).length = 32) := hid (by rw [List.length_map, hm])
  go_enter Try.func70, Try.ntmps70
  go_upto_region 1 with (fail)
  generalize hwA : World.alloc w _ = wA
  have pA : Blk wA w.heap.size (m.map u8v) 22 := by rw [← hwA]; exact Blk.mk_alloc rfl rfl
  have eA : Ext w wA := by rw [← hwA]; exact (Ext.refl w).alloc _
  clear hwA
  have PA := hid pA
  have EA := hid eA
  clear pA eA hm
  go_wp2_with (first | (refine wpl_loadw rfl 22 _ rfl rfl PA.out agg_lev HMV.out ?_))
  go_loopw [2, 3, 7] (fun x y z wr => ∃ i : Nat, i ≤ 32 ∧ z = .int .i64 (i : Int) ∧ x = .int .i64 ((cntL m (8 * i) : Nat) : Int) ∧ y = .int .i64 ((depL m (8 * i) : Nat) : Int) ∧ wr = wA) (fun _ _ z _ => 32 - (intOf z).toNat)
  case atStart => exact ⟨0, by omega, rfl, rfl, rfl, by first | trivial | rfl⟩
  case round =>
    obtain ⟨i, hi, rfl, rfl, rfl, rfl⟩ := hrel
    by_cases hlt : i < 32
    · have hc := cnt_8 m i
      have hd := dep_8 m i
      obtain ⟨x, hx⟩ : ∃ x, m[i]? = some x := ⟨m[i]'(by rw [HM.out]; exact hlt), by simp⟩
      rw [hx] at hc hd
      simp only [Option.getD_some] at hc hd
      have hgx : (m.map u8v)[i]? = some (.int .u8 (x.toNat : Int)) := by rw [List.getElem?_map, hx]; rfl
      have hx256 := x.toNat_lt
      have hones := hid (fun w' => onesCount8_c (x.toNat : Int) w' (by omega) (by omega))
      have htz := hid (fun w' => trailingZeros8_c (x.toNat : Int) w' (by omega) (by omega))
      rw [Int.toNat_natCast] at hones htz
      have ho8 := Lib.onesCount_le8 ⟨x.toNat, hx256⟩
      have ht8 := Lib.trailingZeros8_le8 ⟨x.toNat, hx256⟩
      simp only at ho8 ht8
      have hcl := cntL_le m (8 * i)
      have hdl := depL_le m (8 * i)
      generalize Lib.onesCount x.toNat = o at *
      generalize Lib.trailingZeros8 x.toNat = z at *
      generalize hcc : cntL m (8 * i) = c at *
      generalize hdd : depL m (8 * i) = d at *
      have HC := hid hc
      have HD := hid hd
      have hri : (Instr.index 22 (.agg (m.map u8v).toArray) (.int .i64 (i : Int))).run Try.prog wr = .ok (.int .u8 (x.toNat : Int)) wr := run_index_arr Try.underlying22 one_u8T i hlt (by rw [List.getElem?_toArray]; exact hgx) wr
      have hlt2 : decide ((i : Int) < 32) = true := decide_eq_true (by omega)
      clear hc hd hcc hdd
      by_cases h0 : x.toNat = 0
      · have g1 : ((x.toNat : Int) != 0) = false := by rw [h0]; rfl
        have g2 : (x.toNat != 0) = false := by rw [h0]; rfl
        have hd : depL m (8 * (i + 1)) = d := by rw [HD.out, if_pos h0]
        have HD' := hid hd
        clear hd h0
        go_wp2_with (first | (go_at_call 117; refine (hones.out _).mono ?_; rintro e w' ⟨rfl, rfl⟩))
        go_roundw
        case rel => exact ⟨i + 1, by omega, by first | rfl | go_num, by rw [HC.out]; first | rfl | go_num, by rw [HD'.out], by first | trivial | rfl⟩
        case measure => simp [intOf]; omega
      · have g1 : ((x.toNat : Int) != 0) = true := by simp [h0]
        have g2 : (x.toNat != 0) = true := by simp [h0]
        have hd : depL m (8 * (i + 1)) = 8 * i + 8 - z := by rw [HD.out, if_neg h0]
        have HD' := hid hd
        clear hd
        go_wp2_with (first | (go_at_call 117; refine (hones.out _).mono ?_; rintro e w' ⟨rfl, rfl⟩) | (go_at_call 118; refine (htz.out _).mono ?_; rintro e w' ⟨rfl, rfl⟩))
        go_roundw
        case rel => exact ⟨i + 1, by omega, by first | rfl | go_num, by rw [HC.out]; first | rfl | go_num, by rw [HD'.out]; congr 1; omega, by first | trivial | rfl⟩
        case measure => simp [intOf]; omega
    · obtain rfl : i = 32 := by omega
      go_wp2
      go_ret2
      exact ⟨rfl, EA.out⟩
end

section
open Go Go.RowKit

def mleafL (x y : List UInt8) : List UInt8 := sumL 4 (x ++ y)
theorem mleafL_length (x y : List UInt8) : (mleafL x y).length = 32 := sumL_length _ _

set_option maxRecDepth 100000 in
set_option maxHeartbeats 1000000 in
theorem single_c (x y : List UInt8) (w : World) (hx : x.length = 32) (hy : y.length = 32) :
    Calls Try.prog 68 #[.agg (x.map u8v).toArray, .agg (y.map u8v).toArray] w fun e w' => e = .returned (.agg ((mleafL x y).map u8v).toArray) ∧ Ext w w' := by
  have HX := hid hx
  have HY := hid hy
  have HSL : Hid (((mleafL x y).map u8v).length = 32) := hid (by rw [List.length_map, mleafL_length])
  have o1 := one_u8 (mleafL x y)
  have hcat : ∀ h1 h2, cat [(some ⟨h1, 0, none⟩, 32, x), (some ⟨h2, 0, none⟩, 32, y)] = x ++ y := by intro h1 h2; simp [cat]
  have hlen : (x ++ y).length = 64 := by rw [List.length_append, hx, hy]
  have hso : sumOfV 4 (x ++ y) 64 = .tuple #[.agg ((mleafL x y).map u8v).toArray, .int .i64 0] := by rw [sumOfV, if_neg (by omega), if_pos (by omega)]; rfl
  have HSO := hid hso
  have HLEN := hid hlen
  have HCAT := hid hcat
  clear hx hy hso hlen hcat
  generalize (mleafL x y).map u8v = nv at *
  go_enter Try.func68, Try.ntmps68
  go_wp2_with fail
  generalize hwA : World.alloc (World.alloc (World.alloc w _) _) _ = wA
  have xA : Blk wA w.heap.size (x.map u8v) 32 := by rw [← hwA]; exact ((Blk.mk_alloc rfl rfl).alloc _).alloc _
  have yA : Blk wA (w.heap.size + 1) (y.map u8v) 32 := by rw [← hwA]; exact (Blk.mk_alloc (by simp) rfl).alloc _
  have zA : Blk wA (w.heap.size + 2) (List.replicate 32 (.int .u8 0)) 32 := by rw [← hwA]; exact Blk.mk_alloc (by simp) rfl
  have eA : Ext w wA := by rw [← hwA]; exact ((((Ext.refl w).alloc _).alloc _).alloc _)
  clear hwA
  have XA := hid xA
  have YA := hid yA
  have ZA := hid zA
  have EA := hid eA
  clear xA yA zA eA
  obtain ⟨C, hC⟩ : ∃ C : World → Prop, C = fun w' => Ext wA w' := ⟨_, rfl⟩
  have hC0 : ∀ w', C w' ↔ Ext wA w' := fun w' => by rw [hC]
  clear hC
  have HCC := hid hC0
  clear hC0
  have hCx : ∀ w w', C w → Ext w w' → C w' := fun w w' h1 h2 => (HCC.out w').2 (((HCC.out w).1 h1).ext h2)
  refine wp_region_held_drew (S := C) (by kernel_rfl) ((HCC.out _).2 (Ext.refl wA).drew) (fun hS0 => ?_)
  refine held_take 0 (v := ?tv1) rfl (by kernel_rfl) (by kernel_rfl) (by kernel_rfl) (fun _ _ _ h => h) (.inl ⟨rfl, ?ty1⟩) hS0 ?tr1
  case ty1 => (intro _ _; go_simp; try with_reducible rfl)
  case tr1 =>
  simp only [Act.put, List.setIfInBounds_toArray, List.set_cons_succ, List.set_cons_zero]
  refine held_take 1 (v := ?tv2) rfl (by kernel_rfl) (by kernel_rfl) (by kernel_rfl) (fun _ _ _ h => h) (.inl ⟨rfl, ?ty2⟩) hS0 ?tr2
  case ty2 => (intro _ _; go_simp; try with_reducible rfl)
  case tr2 =>
  simp only [Act.put, List.setIfInBounds_toArray, List.set_cons_succ, List.set_cons_zero]
  refine Fl_start (B := World.heap wA |>.size) (A := 8) (d := 5) (T := 32) (vs := List.replicate 32 (.int .u8 0)) (D := C) undef rfl hCx (fun _ h => h) (fun _ h => ((HCC.out _).1 h).size) hS0 ?_
  try dsimp only
  simp only [Act.put, List.setIfInBounds_toArray, List.set_cons_succ, List.set_cons_zero]
  refine Fl_step 2 (β := Nat) (fun g => .slice (some ⟨g, 0, none⟩) 2 2) (fun g w' => Blk w' g [.slice (some ⟨w.heap.size, 0, none⟩) 32 32, .slice (some ⟨w.heap.size + 1, 0, none⟩) 32 32] 28) rfl rfl rfl rfl (fun _ _ => rfl) (by kernel_rfl) (by kernel_rfl) (by kernel_rfl) rfl (fun _ _ => by simp only [Act.put, List.setIfInBounds_toArray, List.set_cons_succ, List.set_cons_zero]) ?phi2 ?step2 ?rest2
  case phi2 => exact fun _ _ _ h he => h.ext he
  case step2 =>
    intro x w1 hD Q' hQ
    go_wp2_with fail
    exact hQ w1.heap.size _ ((Ext.refl w1).alloc _) (Blk.mk_alloc rfl rfl)
  case rest2 =>
  intro g
  try dsimp only
  try simp only [Act.put, List.setIfInBounds_toArray, List.set_cons_succ, List.set_cons_zero]
  refine Fl_step 3 (β := Option Addr × Nat) (fun b => .slice b.1 64 b.2) (SlcAt 64 ((x ++ y).map u8v)) rfl rfl rfl rfl (fun _ _ => rfl) (by kernel_rfl) (by kernel_rfl) (by kernel_rfl) rfl (fun _ _ => by simp only [Act.put, List.setIfInBounds_toArray, List.set_cons_succ, List.set_cons_zero]) ?phi3 ?step3 ?rest3
  case phi3 => exact SlcAt.ext
  case step3 =>
    rintro x0 w1 ⟨hC1, hb⟩ Q' hQ
    have e1 := (HCC.out w1).1 hC1
    have HB := hid hb
    have HE := hid e1
    clear hb e1 hC1
    go_wp2_with fail
    refine (concat_c [(some ⟨w.heap.size, 0, none⟩, 32, x), (some ⟨w.heap.size + 1, 0, none⟩, 32, y)] g 2 2 w1 rfl (by omega) (by omega) ?hg ?hc ?hn ?hl).mono ?_
    case hg =>
      intro i it hit
      match i, hit with
      | 0, hit => cases hit; rw [itemV]; simp only; rw [HX.out]; exact HB.out.cell' rfl
      | 1, hit => cases hit; rw [itemV]; simp only; rw [HY.out]; exact HB.out.cell' rfl
    case hc =>
      intro it hit
      simp only [List.mem_cons, List.not_mem_nil, or_false] at hit
      rcases hit with rfl | rfl
      · exact Cells.of_blk0 (XA.out.ext HE.out)
      · exact Cells.of_blk0 (YA.out.ext HE.out)
    case hn =>
      intro it hit
      simp only [List.mem_cons, List.not_mem_nil, or_false] at hit
      rcases hit with rfl | rfl <;> (intro h; cases h)
    case hl => rw [HCAT.out, HLEN.out]; omega
    rintro e w2 ⟨v, rfl, own, e2⟩
    rw [HCAT.out, HLEN.out] at own
    obtain ⟨a, c, rfl, h1, h2, h3, h4⟩ := own_slice own
    go_wp2_with fail
    exact hQ (a, c) w2 e2 ⟨h1, h2, h3, h4⟩
  case rest3 =>
  rintro ⟨a, c⟩
  try dsimp only
  try simp only [Act.put, List.setIfInBounds_toArray, List.set_cons_succ, List.set_cons_zero]
  refine Fl_step 4 (β := Unit) (fun _ => .tuple #[.agg nv.toArray, .int .i64 0]) (fun _ _ => True) rfl rfl rfl rfl (fun _ _ => rfl) (by kernel_rfl) (by kernel_rfl) (by kernel_rfl) rfl (fun _ _ => by simp only [Act.put, List.setIfInBounds_toArray, List.set_cons_succ, List.set_cons_zero]) ?phi4 ?step4 ?rest4
  case phi4 => exact fun _ _ _ _ _ => trivial
  case step4 =>
    rintro x0 w1 ⟨_, h1, h2, h3, h4⟩ Q' hQ
    simp only at h1 h2 h3 h4
    have HC := hid h4
    clear h4
    go_wp2_with fail
    refine (sumOf_c 4 (x ++ y) 64 c a w1 HLEN.out h1 h2 h3 HC.out).mono ?_
    rintro e w2 ⟨rfl, e2⟩
    rw [HSO.out]
    go_wp2_with fail
    exact hQ () w2 e2 trivial
  case rest4 =>
  rintro ⟨⟩
  try dsimp only
  try simp only [Act.put, List.setIfInBounds_toArray, List.set_cons_succ, List.set_cons_zero]
  refine Fl_take 5 (v := ?tv3) rfl (by kernel_rfl) (by kernel_rfl) (by kernel_rfl) (by kernel_rfl) (by kernel_rfl) rfl (fun _ _ _ h => h) (fun _ => .inl ⟨rfl, ?ty3⟩) ?tr3
  case ty3 => (intro _ _; go_simp; try with_reducible rfl)
  case tr3 =>
  try dsimp only
  simp only [Act.put, List.setIfInBounds_toArray, List.set_cons_succ, List.set_cons_zero]
  refine Fl_take 6 (v := ?tv4) rfl (by kernel_rfl) (by kernel_rfl) (by kernel_rfl) (by kernel_rfl) (by kernel_rfl) rfl (fun _ _ _ h => h) (fun _ => .inl ⟨rfl, ?ty4⟩) ?tr4
  case ty4 => (intro _ _; go_simp; try with_reducible rfl)
  case tr4 =>
  try dsimp only
  simp only [Act.put, List.setIfInBounds_toArray, List.set_cons_succ, List.set_cons_zero]
  refine Fl_take 7 (v := ?tv5) rfl (by kernel_rfl) (by kernel_rfl) (by kernel_rfl) (by kernel_rfl) (by kernel_rfl) rfl (fun _ _ _ h => h) (fun _ => .inl ⟨rfl, ?ty5⟩) ?tr5
  case ty5 => (intro _ _; go_simp; try with_reducible rfl)
  case tr5 =>
  try dsimp only
  simp only [Act.put, List.setIfInBounds_toArray, List.set_cons_succ, List.set_cons_zero]
  refine Fl_end rfl rfl rfl (fun _ _ => rfl) (by kernel_rfl) (fun _ _ => by simp only [Act.put, List.setIfInBounds_toArray, List.set_cons_succ, List.set_cons_zero]) ?_
  rintro b w3 ⟨⟨⟨hC3, _⟩, _⟩, _⟩ lb hb
  have HB := hid hb
  have E3 := hid (EA.out.ext ((HCC.out w3).1 hC3))
  have Z3 := hid (ZA.out.ext ((HCC.out w3).1 hC3))
  have HC3 := hid hC3
  clear hb hC3
  refine held_one (i := 9) (by kernel_rfl) rfl ?_
  intro Q' hQ
  go_wp2_with (refine wpl_storew rfl _ _ _ rfl rfl rfl HB.out agg_apisum (by simp) HSL.out o1 ?_)
  intro w4 b4 u4
  have hE4 := u4.ext ((HCC.out w3).1 HC3.out) lb
  refine hQ _ _ ((HCC.out w4).2 hE4) ?_
  have HC4 := hid ((HCC.out w4).2 hE4)
  have B4 := hid b4
  have Z4 := hid (ZA.out.ext hE4)
  have E4 := hid (EA.out.ext hE4)
  clear hQ Q' u4 b4 hE4
  try dsimp only
  try simp only [Act.put, List.setIfInBounds_toArray, List.set_cons_succ, List.set_cons_zero]
  refine held_one (i := 10) (by kernel_rfl) rfl ?_
  intro Q' hQ
  go_wp2_with fail
  refine hQ _ _ ((HCC.out w4).2 ?_) ?_
  · exact (HCC.out w4).1 HC4.out
  clear hQ Q'
  refine wpAnyH_done (by kernel_rfl) ?_ _
  go_wp2_with (first | (refine wpl_loadw rfl _ _ rfl rfl B4.out agg_apisum HSL.out ?_) | (refine wpl_storew rfl _ _ _ rfl rfl rfl Z4.out agg_apisum (by simp) HSL.out o1 ?_))
  intro w5 b5 u5
  go_wp2
  refine ret_row rfl rfl b5 agg_apisum HSL.out rfl ⟨rfl, u5.ext E4.out (by omega)⟩



set_option maxRecDepth 100000 in
set_option maxHeartbeats 1000000 in
theorem rleafOf_c (x y : List UInt8) (w : World) (hx : x.length = 32) (hy : y.length = 32) :
    Calls Try.prog 60 #[.agg (x.map u8v).toArray, .agg (y.map u8v).toArray] w fun e w' => e = .returned (.agg ((mleafL x y).map u8v).toArray) ∧ Ext w w' := by
  have HX := hid hx
  have HY := hid hy
  have HSL : Hid (((mleafL x y).map u8v).length = 32) := hid (by rw [List.length_map, mleafL_length])
  have o1 := one_u8 (mleafL x y)
  have hlen : (x ++ y).length = 64 := by rw [List.length_append, hx, hy]
  have hsum := fun w c a h => rsum_c 4 (x ++ y) 64 c a w (by omega) (by omega) hlen (by omega) h
  rw [show sumL 4 (x ++ y) = mleafL x y from rfl] at hsum
  have HSUM := hid hsum
  clear hx hy hlen hsum
  generalize (mleafL x y).map u8v = nv at *
  go_enter Try.func60, Try.ntmps60
  go_wp2_with fail
  generalize hwA : World.alloc (World.alloc (World.alloc w _) _) _ = wA
  have xA : Blk wA w.heap.size (x.map u8v) 32 := by rw [← hwA]; exact ((Blk.mk_alloc rfl rfl).alloc _).alloc _
  have yA : Blk wA (w.heap.size + 1) (y.map u8v) 32 := by rw [← hwA]; exact (Blk.mk_alloc (by simp) rfl).alloc _
  have zA : Blk wA (w.heap.size + 2) (List.replicate 32 (.int .u8 0)) 32 := by rw [← hwA]; exact Blk.mk_alloc (by simp) rfl
  have eA : Ext w wA := by rw [← hwA]; exact ((((Ext.refl w).alloc _).alloc _).alloc _)
  have hwl : w.heap.size ≤ wA.heap.size := eA.size
  clear hwA
  have XA := hid xA
  have YA := hid yA
  have ZA := hid zA
  have EA := hid eA
  clear xA yA zA eA
  obtain ⟨C, hC⟩ : ∃ C : World → Prop, C = Cls w wA [w.heap.size, w.heap.size + 1] [(w.heap.size + 2, 32, 32)] := ⟨_, rfl⟩
  have hC0 : ∀ w', C w' ↔ Cls w wA [w.heap.size, w.heap.size + 1] [(w.heap.size + 2, 32, 32)] w' := fun w' => by rw [hC]
  clear hC
  have HCC := hid hC0
  clear hC0
  have hCx : ∀ w w', C w → Ext w w' → C w' := fun w w' h1 h2 => (HCC.out w').2 (((HCC.out w).1 h1).ext h2)
  have hCA : C wA := (HCC.out _).2 (Cls.one_room EA.out (Kept.two XA.out.lt YA.out.lt) ZA.out (by simp))
  refine wp_region_held_drew (S := C) (by kernel_rfl) (hCx _ _ hCA (Ext.refl _).drew) (fun hS0 => ?_)
  refine held_take 0 (v := ?tv6) rfl (by kernel_rfl) (by kernel_rfl) (by kernel_rfl) (fun _ _ _ h => h) (.inl ⟨rfl, ?ty6⟩) hS0 ?tr6
  case ty6 => (intro _ _; go_simp; try with_reducible rfl)
  case tr6 =>
  simp only [Act.put, List.setIfInBounds_toArray, List.set_cons_succ, List.set_cons_zero]
  refine held_take 2 (v := ?tv7) rfl (by kernel_rfl) (by kernel_rfl) (by kernel_rfl) (fun _ _ _ h => h) (.inl ⟨rfl, ?ty7⟩) hS0 ?tr7
  case ty7 => (intro _ _; go_simp; try with_reducible rfl)
  case tr7 =>
  simp only [Act.put, List.setIfInBounds_toArray, List.set_cons_succ, List.set_cons_zero]
  generalize wA.drew = wD at *
  have hwd : wA.heap.size ≤ wD.heap.size := ((HCC.out wD).1 hS0).kept.1
  refine held_one (i := 1) (by kernel_rfl) rfl ?_
  intro Q' hQ
  go_wp2_with fail
  refine (clone_c x (some ⟨w.heap.size, 0, none⟩) 32 32 wD HX.out (by omega) (Cells.of_blk0 (((HCC.out wD).1 hS0).blk XA.out (by simp)))).mono ?_
  rintro e w1 ⟨v1, rfl, own1, -, e1⟩
  have hC1 := hCx _ _ hS0 e1
  go_wp2_with fail
  refine hQ _ _ hC1 ?_
  clear hS0 hQ Q'
  have O1 := hid own1
  have YC1 := hid (((HCC.out w1).1 hC1).blk YA.out (by simp))
  have HC1 := hid hC1
  clear hC1
  have hb1 : wD.heap.size ≤ w1.heap.size := e1.size
  clear own1 e1
  try dsimp only
  try simp only [Act.put, List.setIfInBounds_toArray, List.set_cons_succ, List.set_cons_zero]
  refine held_one (i := 3) (by kernel_rfl) rfl ?_
  intro Q' hQ
  go_wp2_with (first | (at_builtin; refine wpl_append8 rfl _ _ rfl wD.heap.size (ys := y) rfl rfl O1.out HY.out (by intro h; cases h) (Cells.of_blk0 YC1.out) (by omega) hb1 ?_))
  intro v2 w2 own2 g2
  have own2' : w2.ownsRow wD.heap.size 5 1 v2 64 ((x ++ y).map u8v) := by rw [List.map_append]; exact own2
  have hv2 := own_block_ge O1.out
  have hC2 : C w2 := (HCC.out w2).2 (((HCC.out w1).1 HC1.out).grown g2 (by intro q hq; have := hv2 _ hq; omega) hwl)
  go_wp2_with fail
  refine hQ _ _ hC2 ?_
  clear hQ Q' own2 g2 hv2 O1 HC1 hb1
  obtain ⟨a, c, rfl, -, -, -, hcl⟩ := own_slice own2'
  have HCL := hid hcl
  clear own2' hcl
  try dsimp only
  try simp only [Act.put, List.setIfInBounds_toArray, List.set_cons_succ, List.set_cons_zero]
  refine held_one (i := 4) (by kernel_rfl) rfl ?_
  intro Q' hQ
  go_wp2_with fail
  refine (HSUM.out w2 c a HCL.out).mono ?_
  rintro e w3 ⟨rfl, e3⟩
  have hC3 := hCx _ _ hC2 e3
  go_wp2_with fail
  refine hQ _ _ hC3 ?_
  clear hQ Q'
  obtain ⟨vz, hvz, z3⟩ := ((HCC.out w3).1 hC3).at_room (r := w.heap.size + 2) (n := 32) (T := 32) (by simp)
  have Z3 := hid z3
  have HVZ := hid hvz
  have HC3 := hid hC3
  clear z3 hvz hC3 hC2 HSUM HCL
  try dsimp only
  try simp only [Act.put, List.setIfInBounds_toArray, List.set_cons_succ, List.set_cons_zero]
  refine held_one (i := 5) (by kernel_rfl) rfl ?_
  intro Q' hQ
  go_wp2_with (refine wpl_storew rfl _ _ _ rfl rfl rfl Z3.out agg_apisum HVZ.out HSL.out o1 ?_)
  intro w4 b4 u4
  go_wp2_with fail
  have B4 := hid b4
  have hS : C w4 := (HCC.out w4).2 (((HCC.out w3).1 HC3.out).store u4 b4 (by simp [HSL.out]) (by omega) (by simp <;> omega))
  refine hQ _ _ hS ?_
  clear hQ Q'
  refine wpAnyH_done (by kernel_rfl) ?_ _
  go_wp2
  refine ret_row rfl rfl b4 agg_apisum HSL.out rfl ⟨rfl, ((HCC.out w4).1 hS).base⟩

def sideL (k : List UInt8) (i : Nat) (s o : List UInt8) : List UInt8 := if bitL k i = 0 then nodeL s o else nodeL o s
theorem sideL_length (k : List UInt8) (i : Nat) (s o : List UInt8) : (sideL k i s o).length = 32 := by unfold sideL; split <;> exact nodeL_length _ _
end

section
open Go Go.RowKit

theorem cnt_dep (m : List UInt8) (n : Nat) : cntL m (depL m n) = cntL m n := by
  induction n with
  | zero => rfl
  | succ n ih =>
    have := bitL_lt m n
    simp only [depL]
    split
    · rfl
    · rw [ih]; simp only [cntL]; omega
def upL (lv k : List UInt8) (ls : List (List UInt8)) : Nat → List UInt8 → List UInt8
  | 0, s => s
  | i + 1, s => upL lv k ls i (sideL k i s (if bitL lv i = 1 then ls[cntL lv i]?.getD zero32 else zero32))
theorem upL_length {lv k : List UInt8} {ls : List (List UInt8)} (i : Nat) (s : List UInt8) (h : s.length = 32) : (upL lv k ls i s).length = 32 := by
  induction i generalizing s with
  | zero => exact h
  | succ i ih => exact ih _ (sideL_length _ _ _ _)

set_option maxRecDepth 100000 in
set_option maxHeartbeats 1000000 in
theorem side_c (k s o : List UInt8) (i : Nat) (w : World) (hk : k.length = 32) (hs : s.length = 32) (ho : o.length = 32) (hi : i < 256) :
    Calls Try.prog 72 #[.agg (k.map u8v).toArray, .int .i64 (i : Int), .agg (s.map u8v).toArray, .agg (o.map u8v).toArray] w fun e w' => e = .returned (.agg ((sideL k i s o).map u8v).toArray) ∧ Ext w w' := by
  have hb := hid (fun w' => bit_c k i w' hk hi)
  have hb2 := bitL_lt k i
  have h1 := hid (fun w' => node_c s o w' hs ho)
  have h2 := hid (fun w' => node_c o s w' ho hs)
  have HK := hid (show (k.map u8v).length = 32 by rw [List.length_map, hk])
  have HS := hid (show (s.map u8v).length = 32 by rw [List.length_map, hs])
  have HO := hid (show (o.map u8v).length = 32 by rw [List.length_map, ho])
  have L1 := hid (show ((nodeL s o).map u8v).length = 32 by rw [List.length_map, nodeL_length])
  have L2 := hid (show ((nodeL o s).map u8v).length = 32 by rw [List.length_map, nodeL_length])
  have O1 := one_u8 (nodeL s o)
  have O2 := one_u8 (nodeL o s)
  obtain ⟨R, hR⟩ : ∃ R, sideL k i s o = R := ⟨_, rfl⟩
  rw [hR]
  unfold sideL at hR
  generalize bitL k i = b at *
  generalize nodeL s o = n1 at *
  generalize nodeL o s = n2 at *
  clear hk hs ho
  by_cases h0 : b = 0
  · rw [if_pos h0] at hR
    subst hR
    have g1 : ((b : Int) == 0) = true := by rw [h0]; rfl
    have g2 : (b == 0) = true := by rw [h0]; rfl
    clear h0
    go_enter Try.func72, Try.ntmps72
    go_upto_region 1 with (fail)
    generalize hwA : World.alloc (World.alloc (World.alloc (World.alloc w _) _) _) _ = wA
    have kA : Blk wA w.heap.size (k.map u8v) 32 := by rw [← hwA]; exact (((Blk.mk_alloc rfl rfl).alloc _).alloc _).alloc _
    have sA : Blk wA (w.heap.size + 1) (s.map u8v) 32 := by rw [← hwA]; exact ((Blk.mk_alloc (by simp) rfl).alloc _).alloc _
    have oA : Blk wA (w.heap.size + 2) (o.map u8v) 32 := by rw [← hwA]; exact (Blk.mk_alloc (by simp) rfl).alloc _
    have zA : Blk wA (w.heap.size + 3) (List.replicate 32 (.int .u8 0)) 32 := by rw [← hwA]; exact Blk.mk_alloc (by simp) rfl
    have eA : Ext w wA := by rw [← hwA]; exact ((((Ext.refl w).alloc _).alloc _).alloc _).alloc _
    clear hwA
    have KA := hid kA
    have SA := hid sA
    have OA := hid oA
    have ZA := hid zA
    have EA := hid eA
    clear kA sA oA zA eA
    go_wp2_with (first | (refine wpl_loadw rfl _ _ rfl rfl KA.out agg_apisum HK.out ?_))
    refine (hb.out _).mono ?_
    rintro e wB ⟨rfl, eB⟩
    have SB := hid (SA.out.ext eB)
    have OB := hid (OA.out.ext eB)
    have ZB := hid (ZA.out.ext eB)
    have EB := hid (EA.out.ext eB)
    clear eB KA SA OA ZA EA
    go_wp2_with (first | (refine wpl_loadw rfl 32 (.tmp 6) rfl rfl SB.out agg_apisum HS.out ?_) | (refine wpl_loadw rfl 32 (.tmp 7) rfl rfl OB.out agg_apisum HO.out ?_))
    refine (h1.out _).mono ?_
    rintro e wC ⟨rfl, eC⟩
    have ZC := hid (ZB.out.ext eC)
    have EC := hid (EB.out.ext eC)
    clear eC SB OB ZB EB
    go_wp2_with (refine wpl_storew rfl _ _ _ rfl rfl rfl ZC.out agg_apisum (by simp) L1.out O1 ?_)
    intro w4 b4 u4
    go_wp2
    refine ret_row rfl rfl b4 agg_apisum L1.out rfl ⟨rfl, u4.ext EC.out (by omega)⟩
  · rw [if_neg h0] at hR
    subst hR
    have g1 : ((b : Int) == 0) = false := by simp; omega
    have g2 : (b == 0) = false := by simp [h0]
    go_enter Try.func72, Try.ntmps72
    go_upto_region 1 with (fail)
    generalize hwA : World.alloc (World.alloc (World.alloc (World.alloc w _) _) _) _ = wA
    have kA : Blk wA w.heap.size (k.map u8v) 32 := by rw [← hwA]; exact (((Blk.mk_alloc rfl rfl).alloc _).alloc _).alloc _
    have sA : Blk wA (w.heap.size + 1) (s.map u8v) 32 := by rw [← hwA]; exact ((Blk.mk_alloc (by simp) rfl).alloc _).alloc _
    have oA : Blk wA (w.heap.size + 2) (o.map u8v) 32 := by rw [← hwA]; exact (Blk.mk_alloc (by simp) rfl).alloc _
    have zA : Blk wA (w.heap.size + 3) (List.replicate 32 (.int .u8 0)) 32 := by rw [← hwA]; exact Blk.mk_alloc (by simp) rfl
    have eA : Ext w wA := by rw [← hwA]; exact ((((Ext.refl w).alloc _).alloc _).alloc _).alloc _
    clear hwA
    have KA := hid kA
    have SA := hid sA
    have OA := hid oA
    have ZA := hid zA
    have EA := hid eA
    clear kA sA oA zA eA
    go_wp2_with (first | (refine wpl_loadw rfl _ _ rfl rfl KA.out agg_apisum HK.out ?_))
    refine (hb.out _).mono ?_
    rintro e wB ⟨rfl, eB⟩
    have SB := hid (SA.out.ext eB)
    have OB := hid (OA.out.ext eB)
    have ZB := hid (ZA.out.ext eB)
    have EB := hid (EA.out.ext eB)
    clear eB KA SA OA ZA EA
    go_wp2_with (first | (refine wpl_loadw rfl 32 (.tmp 6) rfl rfl SB.out agg_apisum HS.out ?_) | (refine wpl_loadw rfl 32 (.tmp 7) rfl rfl OB.out agg_apisum HO.out ?_))
    refine (h2.out _).mono ?_
    rintro e wC ⟨rfl, eC⟩
    have ZC := hid (ZB.out.ext eC)
    have EC := hid (EB.out.ext eC)
    clear eC SB OB ZB EB
    go_wp2_with (refine wpl_storew rfl _ _ _ rfl rfl rfl ZC.out agg_apisum (by simp) L2.out O2 ?_)
    intro w4 b4 u4
    go_wp2
    refine ret_row rfl rfl b4 agg_apisum L2.out rfl ⟨rfl, u4.ext EC.out (by omega)⟩
end

section
open Go Go.RowKit

theorem cnt_mono (m : List UInt8) {i j : Nat} (h : i ≤ j) : cntL m i ≤ cntL m j := by
  induction j with
  | zero => have : i = 0 := by omega
            subst this; exact Nat.le_refl _
  | succ j ih =>
    by_cases hij : i = j + 1
    · subst hij; exact Nat.le_refl _
    · have := ih (by omega); simp only [cntL]; omega

set_option maxRecDepth 100000 in
set_option maxHeartbeats 2000000 in
theorem up_c (lv k s : List UInt8) (ls : List (List UInt8)) (a : Option Addr) (n c : Nat) (w : World) (hv : lv.length = 32) (hk : k.length = 32) (hs : s.length = 32) (hn : ls.length = n) (hcn : cntL lv 256 ≤ n) (h32 : All32 ls) (hcl : Cells w a (rows ls)) :
    Calls Try.prog 67 #[.agg (k.map u8v).toArray, .agg (s.map u8v).toArray, .agg (mpL lv (.slice a n c)).toArray] w fun e w' => e = .returned (.agg ((upL lv k ls (depL lv 256) s).map u8v).toArray) ∧ Ext w w' := by
  have HK := hid (show (k.map u8v).length = 32 by rw [List.length_map, hk])
  have HS0 := hid (show (s.map u8v).length = 32 by rw [List.length_map, hs])
  have HL33 := hid (mpL_length hv (.slice a n c))
  have HLE : Hid (0 + 32 ≤ (mpL lv (.slice a n c)).length) := hid (by rw [mpL_length hv]; omega)
  have HLV := hid (mpL_lev hv (.slice a n c))
  have HAT := hid (mpL_at hv (.slice a n c))
  have HKL := hid hk
  have HSL := hid hs
  have HVL := hid hv
  have HN := hid hn
  have H32 := hid h32
  have HC := hid hcl
  have hcd := cnt_dep lv 256
  have hd256 := depL_le lv 256
  obtain ⟨R, hR⟩ : ∃ R, upL lv k ls (depL lv 256) s = R := ⟨_, rfl⟩
  have HRL := hid (show (R.map u8v).length = 32 by rw [List.length_map, ← hR]; exact upL_length _ _ hs)
  have OR := one_u8 R
  rw [hR]
  have hmk := hid (fun w' => marked_c lv w' hv)
  rw [← hcd] at hcn hmk
  generalize depL lv 256 = D at *
  have HR := hid hR
  generalize hvs : mpL lv (.slice a n c) = vs at *
  clear hk hs hv hn hcl h32 hcd hR hvs
  go_enter Try.func67, Try.ntmps67
  go_upto_region 1 with (fail)
  generalize hwA : World.alloc (World.alloc (World.alloc (World.alloc w _) _) _) _ = wA
  have kA : Blk wA w.heap.size (k.map u8v) 32 := by rw [← hwA]; exact (((Blk.mk_alloc rfl rfl).alloc _).alloc _).alloc _
  have sA : Blk wA (w.heap.size + 1) (s.map u8v) 32 := by rw [← hwA]; exact ((Blk.mk_alloc (by simp) rfl).alloc _).alloc _
  have pA : Blk wA (w.heap.size + 2) vs 62 := by rw [← hwA]; exact (Blk.mk_alloc (by simp) rfl).alloc _
  have zA : Blk wA (w.heap.size + 3) (List.replicate 32 (.int .u8 0)) 32 := by rw [← hwA]; exact Blk.mk_alloc (by simp) rfl
  have eA : Ext w wA := by rw [← hwA]; exact ((((Ext.refl w).alloc _).alloc _).alloc _).alloc _
  clear hwA
  have KA := hid kA
  have SA := hid sA
  have PA := hid pA
  have ZA := hid zA
  have EA := hid eA
  clear kA sA pA zA eA
  go_wp2_with (first | (refine wpl_loadp rfl 22 _ rfl rfl PA.out agg_lev HLE.out HLV.out ?_))
  refine (hmk.out _).mono ?_
  rintro e wB ⟨rfl, eB⟩
  have KB := hid (KA.out.ext eB)
  have SB := hid (SA.out.ext eB)
  have PB := hid (PA.out.ext eB)
  have ZB := hid (ZA.out.ext eB)
  have EB := hid (EA.out.ext eB)
  clear eB KA SA PA ZA EA hmk
  generalize hg : w.heap.size = g at *
  go_wp2
  go_loopw [7, 9] (fun x y wr => ∃ (i : Nat) (z : Int) (q : List UInt8), z + 1 = i ∧ i ≤ D ∧ y = .int .i64 z ∧ x = .int .i64 ((cntL lv i : Nat) : Int) ∧ q.length = 32 ∧ upL lv k ls i q = R ∧ Blk wr g (k.map u8v) 32 ∧ Blk wr (g + 1) (q.map u8v) 32 ∧ Blk wr (g + 2) vs 62 ∧ Blk wr (g + 3) (List.replicate 32 (.int .u8 0)) 32 ∧ Ext w wr) (fun x y _ => ((intOf y) + 1).toNat)
  case atStart => exact ⟨D, (D : Int) - 1, s, by omega, Nat.le_refl _, by first | rfl | go_num, by first | rfl | go_num, HSL.out, HR.out, KB.out, SB.out, PB.out, ZB.out, EB.out⟩
  case round =>
    obtain ⟨i, z, q, hz, hi, rfl, rfl, hq, hup, hKB, hSB, hPB, hZB, hEB⟩ := hrel
    have KW := hid hKB
    have SW := hid hSB
    have PW := hid hPB
    have ZW := hid hZB
    have EW := hid hEB
    have HQ := hid hq
    have HQV := hid (show (q.map u8v).length = 32 by rw [List.length_map, hq])
    clear hKB hSB hPB hZB hEB KB SB PB ZB EB
    cases i with
    | zero =>
      obtain rfl : z = -1 := by omega
      have hqR : q = R := hup
      subst hqR
      clear hup hq
      go_wp2_with (first | (refine wpl_loadw rfl 32 _ rfl rfl SW.out agg_apisum HQV.out ?_) | (refine wpl_storew rfl _ _ _ rfl rfl rfl ZW.out agg_apisum (by simp) HQV.out OR ?_))
      intro w4 b4 u4
      go_wp2
      refine ret_row rfl rfl b4 agg_apisum HQV.out rfl ⟨rfl, u4.ext EW.out (by omega)⟩
    | succ i =>
      obtain rfl : z = (i : Int) := by omega
      have hup' : upL lv k ls i (sideL k i q (if bitL lv i = 1 then ls[cntL lv i]?.getD zero32 else zero32)) = R := hup
      have hc1 : cntL lv (i + 1) = cntL lv i + bitL lv i := rfl
      have hcD := cnt_mono lv hi
      have hbit := hid (fun w' => bit_c lv i w' HVL.out (by omega))
      have hb2 := bitL_lt lv i
      have hcle := cntL_le lv i
      rw [hc1] at hcD ⊢
      have g0 : decide ((i : Int) ≥ 0) = true := decide_eq_true (by omega)
      have g0' : decide ((0 : Int) ≤ (i : Int)) = true := decide_eq_true (by omega)
      have hkL := HKL.out
      have hqL := HQ.out
      have HVR := HVL
      generalize hbb : bitL lv i = bb at *
      generalize hcc : cntL lv i = cc at *
      clear hup hc1 hq hbb
      go_wp2_with (first | (refine wpl_storew rfl _ (.tmp 10) _ rfl rfl rfl (Blk.mk_alloc (vs := List.replicate 32 (.int .u8 0)) rfl rfl) agg_apisum (by simp) (xs := List.replicate 32 (.int .u8 0)) (by simp) (one_zeros 32) ?_))
      intro w1 b1 u1
      have e1 : Ext wr w1 := u1.ext ((Ext.refl wr).alloc _) (Nat.le_refl _)
      clear u1
      have K1 := hid (KW.out.ext e1)
      have S1 := hid (SW.out.ext e1)
      have P1 := hid (PW.out.ext e1)
      have Z1 := hid (ZW.out.ext e1)
      have E1 := hid (EW.out.ext e1)
      have B1 := hid b1
      have hgs : g + 3 < wr.heap.size := ZW.out.lt
      clear e1 b1 KW SW PW ZW EW
      generalize wr.heap.size = gs at *
      go_wp2_with (first | (refine wpl_loadp rfl 22 _ rfl rfl P1.out agg_lev HLE.out HLV.out ?_))
      refine (hbit.out _).mono ?_
      rintro e w2 ⟨rfl, e2⟩
      have K2 := hid (K1.out.ext e2)
      have S2 := hid (S1.out.ext e2)
      have P2 := hid (P1.out.ext e2)
      have Z2 := hid (Z1.out.ext e2)
      have E2 := hid (E1.out.ext e2)
      have B2 := hid (B1.out.ext e2)
      clear e2 K1 S1 P1 Z1 E1 B1 hbit
      by_cases h1 : bb = 1
      · have g1 : ((bb : Int) == 1) = true := by rw [h1]; rfl
        have g2 : (bb == 1) = true := by rw [h1]; rfl
        rw [if_pos h1] at hup'
        subst h1
        have hccn : cc < n := by omega
        obtain ⟨y, hy⟩ : ∃ y, ls[cc]? = some y := ⟨ls[cc]'(by rw [HN.out]; exact hccn), by simp⟩
        have hyl : y.length = 32 := H32.out.at hy
        obtain ⟨A, rfl, hca⟩ : ∃ A, a = some A ∧ CellsAt w2 (A.add (cc * 32)) (y.map u8v) := by
          cases a with
          | none => rcases HC.out with h | ⟨_, _, h, _⟩
                    · have := rows_length H32.out; rw [h, HN.out] at this; simp at this; omega
                    · cases h
          | some A => exact ⟨A, rfl, (HC.out.rowAt H32.out hy).ext E2.out⟩
        have HCA := hid hca
        have HY1 := hid (show (y.map u8v).length = 32 by rw [List.length_map]; exact hyl)
        have oy := one_u8 y
        rw [hy] at hup'
        simp only [Option.getD_some] at hup'
        have c32 : w2.cell? ⟨g + 2, 32, none⟩ = some (.slice (some A) n c) := P2.out.cell' HAT.out
        clear hca hy
        go_wp2_with (first | (refine wpl_run rfl (exec_index (i := cc) rfl rfl rfl Try.underlying29 size_apisum hccn w2) ?_) | (refine wpl_run rfl (exec_load_at rfl rfl HCA.out agg_apisum HY1.out) ?_) | (refine wpl_storew rfl _ (.tmp 10) _ rfl rfl rfl B2.out agg_apisum (by simp) HY1.out oy ?_))
        intro w4 b4 u4
        have K4 := hid (K2.out.upd u4 (by omega))
        have S4 := hid (S2.out.upd u4 (by omega))
        have P4 := hid (P2.out.upd u4 (by omega))
        have Z4 := hid (Z2.out.upd u4 (by omega))
        have E4 := hid (u4.ext E2.out (by omega))
        have B4 := hid b4
        clear c32 u4 b4 K2 S2 P2 Z2 E2 B2 HCA
        have hsd := hid (fun w' => side_c k q y i w' hkL hqL hyl (by omega))
        have HSD := hid (sideL_length k i q y)
        have HSDV := hid (show ((sideL k i q y).map u8v).length = 32 by rw [List.length_map]; exact sideL_length k i q y)
        have osd := one_u8 (sideL k i q y)
        have HYV := hid (show (y.map u8v).length = 32 by rw [List.length_map]; exact hyl)
        generalize sideL k i q y = q2 at *
        have HUP := hid hup'
        clear hup'
        go_wp2_with (first | (refine wpl_loadw rfl 32 (.tmp 3) rfl rfl K4.out agg_apisum HK.out ?_) | (refine wpl_loadw rfl 32 (.tmp 4) rfl rfl S4.out agg_apisum HQV.out ?_) | (refine wpl_loadw rfl 32 (.tmp 10) rfl rfl B4.out agg_apisum HYV.out ?_))
        refine (hsd.out _).mono ?_
        rintro e w5 ⟨rfl, e5⟩
        have K5 := hid (K4.out.ext e5)
        have S5 := hid (S4.out.ext e5)
        have P5 := hid (P4.out.ext e5)
        have Z5 := hid (Z4.out.ext e5)
        have E5 := hid (E4.out.ext e5)
        clear e5 K4 S4 P4 Z4 E4 B4
        go_wp2_with (first | (refine wpl_storew rfl _ (.tmp 4) _ rfl rfl rfl S5.out agg_apisum HQV.out HSDV.out osd ?_))
        intro w6 b6 u6
        have K6 := hid (K5.out.upd u6 (by omega))
        have P6 := hid (P5.out.upd u6 (by omega))
        have Z6 := hid (Z5.out.upd u6 (by omega))
        have E6 := hid (u6.ext E5.out (by omega))
        have S6 := hid b6
        clear b6 u6 K5 S5 P5 Z5 E5
        go_wp2
        go_roundw
        case rel => exact ⟨i, (i : Int) - 1, q2, by omega, by omega, by first | rfl | go_num, by first | rfl | go_num | (congr 1; omega), HSD.out, HUP.out, K6.out, S6.out, P6.out, Z6.out, E6.out⟩
        case measure => first | (simp [intOf]; done) | (simp [intOf]; omega)
      · have g1 : ((bb : Int) == 1) = false := by simp; omega
        have g2 : (bb == 1) = false := by simp [h1]
        rw [if_neg h1] at hup'
        obtain rfl : bb = 0 := by omega
        clear h1
        have hyl : zero32.length = 32 := by simp [zero32]
        have hzz : List.replicate 32 (Value.int .u8 0) = zero32.map u8v := by first | rw [zero32_map] | exact zero32_map.symm
        have B2' := hid (show Blk w2 gs (zero32.map u8v) 32 by rw [← hzz]; exact B2.out)
        clear B2
        have B2 := hid B2'.out
        clear B2' hzz
        generalize zero32 = y at *
        have hsd := hid (fun w' => side_c k q y i w' hkL hqL hyl (by omega))
        have HSD := hid (sideL_length k i q y)
        have HSDV := hid (show ((sideL k i q y).map u8v).length = 32 by rw [List.length_map]; exact sideL_length k i q y)
        have osd := one_u8 (sideL k i q y)
        have HYV := hid (show (y.map u8v).length = 32 by rw [List.length_map]; exact hyl)
        generalize sideL k i q y = q2 at *
        have HUP := hid hup'
        clear hup'
        go_wp2_with (first | (refine wpl_loadw rfl 32 (.tmp 3) rfl rfl K2.out agg_apisum HK.out ?_) | (refine wpl_loadw rfl 32 (.tmp 4) rfl rfl S2.out agg_apisum HQV.out ?_) | (refine wpl_loadw rfl 32 (.tmp 10) rfl rfl B2.out agg_apisum HYV.out ?_))
        refine (hsd.out _).mono ?_
        rintro e w5 ⟨rfl, e5⟩
        have K5 := hid (K2.out.ext e5)
        have S5 := hid (S2.out.ext e5)
        have P5 := hid (P2.out.ext e5)
        have Z5 := hid (Z2.out.ext e5)
        have E5 := hid (E2.out.ext e5)
        clear e5 K2 S2 P2 Z2 E2 B2
        go_wp2_with (first | (refine wpl_storew rfl _ (.tmp 4) _ rfl rfl rfl S5.out agg_apisum HQV.out HSDV.out osd ?_))
        intro w6 b6 u6
        have K6 := hid (K5.out.upd u6 (by omega))
        have P6 := hid (P5.out.upd u6 (by omega))
        have Z6 := hid (Z5.out.upd u6 (by omega))
        have E6 := hid (u6.ext E5.out (by omega))
        have S6 := hid b6
        clear b6 u6 K5 S5 P5 Z5 E5
        go_wp2
        go_roundw
        case rel => exact ⟨i, (i : Int) - 1, q2, by omega, by omega, by first | rfl | go_num, by first | rfl | go_num | (congr 1; omega), HSD.out, HUP.out, K6.out, S6.out, P6.out, Z6.out, E6.out⟩
        case measure => first | (simp [intOf]; done) | (simp [intOf]; omega)
end

section
open Go Go.RowKit
end

section
open Go Go.RowKit

theorem zero32_len : zero32.length = 32 := by simp [zero32]
def thereE (root k v lv : List UInt8) (ls : List (List UInt8)) : Int :=
  if v == zero32 then 2 else if ls.length ≠ cntL lv 256 then 12 else if upL lv k ls (depL lv 256) (mleafL k v) == root then 0 else 12

set_option maxRecDepth 100000 in
set_option maxHeartbeats 2000000 in
theorem there_c (root k v lv : List UInt8) (ls : List (List UInt8)) (a : Option Addr) (n c : Nat) (w : World) (hr : root.length = 32) (hk : k.length = 32) (hv : v.length = 32) (hlv : lv.length = 32) (hn : ls.length = n) (hn63 : n ≤ 9223372036854775807) (h32 : All32 ls) (hcl : Cells w a (rows ls)) :
    Calls Try.prog 66 #[.agg (root.map u8v).toArray, .agg (k.map u8v).toArray, .agg (v.map u8v).toArray, .agg (mpL lv (.slice a n c)).toArray] w fun e w' => e = .returned (.int .i64 (thereE root k v lv ls)) ∧ Ext w w' := by
  have HR := hid (show (root.map u8v).length = 32 by rw [List.length_map, hr])
  have HK := hid (show (k.map u8v).length = 32 by rw [List.length_map, hk])
  have HV := hid (show (v.map u8v).length = 32 by rw [List.length_map, hv])
  have HL33 := hid (mpL_length hlv (.slice a n c))
  have HLE : Hid (0 + 32 ≤ (mpL lv (.slice a n c)).length) := hid (by rw [mpL_length hlv]; omega)
  have HLV := hid (mpL_lev hlv (.slice a n c))
  have HAT := hid (mpL_at hlv (.slice a n c))
  have HC := hid hcl
  have HEZ := hid (fun w => eq_arr Try.underlying32 v zero32 hv zero32_len w)
  have hlf := hid (fun w' => single_c k v w' hk hv)
  have hlfl := mleafL_length k v
  have hup := hid (fun w' hcnt h => up_c lv k (mleafL k v) ls a n c w' hlv hk hlfl hn hcnt h32 h)
  have hupl := upL_length (lv := lv) (k := k) (ls := ls) (depL lv 256) (mleafL k v) hlfl
  have HNE := hid (fun w => neq_arr Try.underlying32 (upL lv k ls (depL lv 256) (mleafL k v)) root hupl hr w)
  have hmk := hid (fun w' => marked_c lv w' hlv)
  have hc256 := cntL_le lv 256
  obtain ⟨E, hE⟩ : ∃ E, thereE root k v lv ls = E := ⟨_, rfl⟩
  rw [hE]
  unfold thereE at hE
  rw [hn] at hE
  generalize depL lv 256 = D at *
  generalize cntL lv 256 = M at *
  generalize upL lv k ls D (mleafL k v) = u at *
  generalize mleafL k v = lf at *
  generalize hvs : mpL lv (.slice a n c) = vs at *
  clear hr hk hv hlv hn h32 hcl hvs hlfl hupl
  go_enter Try.func66, Try.ntmps66
  go_upto_region 1 with (fail)
  generalize hwA : World.alloc (World.alloc (World.alloc (World.alloc w _) _) _) _ = wA
  have rA : Blk wA w.heap.size (root.map u8v) 32 := by rw [← hwA]; exact (((Blk.mk_alloc rfl rfl).alloc _).alloc _).alloc _
  have kA : Blk wA (w.heap.size + 1) (k.map u8v) 32 := by rw [← hwA]; exact ((Blk.mk_alloc (by simp) rfl).alloc _).alloc _
  have vA : Blk wA (w.heap.size + 2) (v.map u8v) 32 := by rw [← hwA]; exact (Blk.mk_alloc (by simp) rfl).alloc _
  have pA : Blk wA (w.heap.size + 3) vs 62 := by rw [← hwA]; exact Blk.mk_alloc (by simp) rfl
  have eA : Ext w wA := by rw [← hwA]; exact ((((Ext.refl w).alloc _).alloc _).alloc _).alloc _
  clear hwA
  have RA := hid rA
  have KA := hid kA
  have VA := hid vA
  have PA := hid pA
  have EA := hid eA
  clear rA kA vA pA eA
  cases hvz : (v == zero32) with
  | true =>
    rw [hvz, if_pos rfl] at hE
    rw [hvz] at HEZ
    subst hE
    go_wp2_with (first | (refine wpl_loadw rfl 32 (.tmp 6) rfl rfl VA.out agg_apisum HV.out ?_) | (refine wpg_cmp rfl .eql _ _ _ _ rfl rfl rfl guard_sum HEZ.out ?_))
    go_ret
    exact ⟨rfl, EA.out⟩
  | false =>
    rw [hvz, if_neg (by decide)] at hE
    rw [hvz] at HEZ
    clear hvz
    go_wp2_with (first | (refine wpl_loadw rfl 32 (.tmp 6) rfl rfl VA.out agg_apisum HV.out ?_) | (refine wpg_cmp rfl .eql _ _ _ _ rfl rfl rfl guard_sum HEZ.out ?_) | (refine wpl_loadp rfl 22 _ rfl rfl PA.out agg_lev HLE.out HLV.out ?_))
    refine (hmk.out _).mono ?_
    rintro e wB ⟨rfl, eB⟩
    have RB := hid (RA.out.ext eB)
    have KB := hid (KA.out.ext eB)
    have VB := hid (VA.out.ext eB)
    have PB := hid (PA.out.ext eB)
    have EB := hid (EA.out.ext eB)
    clear eB RA KA VA PA EA hmk HEZ
    go_wp2
    obtain ⟨C, hC⟩ : ∃ C : World → Prop, C = Cls w wB [w.heap.size, w.heap.size + 1, w.heap.size + 2, w.heap.size + 3] [] := ⟨_, rfl⟩
    have hC0 : ∀ w', C w' ↔ Cls w wB [w.heap.size, w.heap.size + 1, w.heap.size + 2, w.heap.size + 3] [] w' := fun w' => by rw [hC]
    clear hC
    have HCC := hid hC0
    clear hC0
    have hCx : ∀ w w', C w → Ext w w' → C w' := fun w w' h1 h2 => (HCC.out w').2 (((HCC.out w).1 h1).ext h2)
    have hCA : C wB := (HCC.out _).2 (Cls.no_room EB.out (Kept.four RB.out.lt KB.out.lt VB.out.lt PB.out.lt))
    have e32 : ∀ w1, C w1 → w1.cell? ⟨w.heap.size + 3, 32, none⟩ = some (.slice a n c) := fun w1 h1 => (((HCC.out w1).1 h1).blk PB.out (by simp)).cell' HAT.out
    by_cases hnm : n = M
    · subst hnm
      rw [if_neg (by omega)] at hE
      have g1 : ((n : Int) != (n : Int)) = false := by simp
      have g2 : (n != n) = false := by simp
      refine wp_region_held_drew (S := C) (by kernel_rfl) (hCx _ _ hCA (Ext.refl _).drew) (fun hS0 => ?_)
      refine held_take 0 (v := ?tv1) rfl (by kernel_rfl) (by kernel_rfl) (by kernel_rfl) (fun _ _ _ h => h) (.inl ⟨rfl, ?ty1⟩) hS0 ?tr1
      case ty1 => (intro _ _; go_simp; try with_reducible rfl)
      case tr1 =>
      simp only [Act.put, List.setIfInBounds_toArray, List.set_cons_succ, List.set_cons_zero]
      refine held_take 1 (v := ?tv2) rfl (by kernel_rfl) (by kernel_rfl) (by kernel_rfl) (fun _ _ _ h => h) (.inl ⟨rfl, ?ty2⟩) hS0 ?tr2
      case ty2 => (intro wq hwq; have hcq := (e32) wq hwq; go_simp; try with_reducible rfl)
      case tr2 =>
      simp only [Act.put, List.setIfInBounds_toArray, List.set_cons_succ, List.set_cons_zero]
      refine held_take 2 (v := ?tv3) rfl (by kernel_rfl) (by kernel_rfl) (by kernel_rfl) (fun _ _ _ h => h) (.inl ⟨rfl, ?ty3⟩) hS0 ?tr3
      case ty3 => (intro _ _; go_simp; try with_reducible rfl)
      case tr3 =>
      simp only [Act.put, List.setIfInBounds_toArray, List.set_cons_succ, List.set_cons_zero]
      refine held_take 3 (v := ?tv4) rfl (by kernel_rfl) (by kernel_rfl) (by kernel_rfl) (fun _ _ _ h => h) (.inl ⟨rfl, ?ty4⟩) hS0 ?tr4
      case ty4 => (intro _ _; go_simp; try with_reducible rfl)
      case tr4 =>
      simp only [Act.put, List.setIfInBounds_toArray, List.set_cons_succ, List.set_cons_zero]
      refine held_take 4 (v := ?tv5) rfl (by kernel_rfl) (by kernel_rfl) (by kernel_rfl) (fun _ _ _ h => h) (.inl ⟨rfl, ?ty5⟩) hS0 ?tr5
      case ty5 => (intro _ _; go_simp; try with_reducible rfl)
      case tr5 =>
      simp only [Act.put, List.setIfInBounds_toArray, List.set_cons_succ, List.set_cons_zero]
      refine held_take 5 (v := ?tv6) rfl (by kernel_rfl) (by kernel_rfl) (by kernel_rfl) (fun _ _ _ h => h) (.inl ⟨rfl, ?ty6⟩) hS0 ?tr6
      case ty6 => (intro _ _; go_simp; try with_reducible rfl)
      case tr6 =>
      simp only [Act.put, List.setIfInBounds_toArray, List.set_cons_succ, List.set_cons_zero]
      refine held_take 6 (v := _) rfl (by kernel_rfl) (by kernel_rfl) (by kernel_rfl) (fun _ _ _ h => h) (yieldsI_loadw rfl 32 _ rfl rfl (fun w1 h => ((HCC.out w1).1 h).blk KB.out (by simp)) agg_apisum HK.out) hS0 ?_
      simp only [Act.put, List.setIfInBounds_toArray, List.set_cons_succ, List.set_cons_zero]
      refine held_take 7 (v := _) rfl (by kernel_rfl) (by kernel_rfl) (by kernel_rfl) (fun _ _ _ h => h) (yieldsI_loadw rfl 32 _ rfl rfl (fun w1 h => ((HCC.out w1).1 h).blk KB.out (by simp)) agg_apisum HK.out) hS0 ?_
      simp only [Act.put, List.setIfInBounds_toArray, List.set_cons_succ, List.set_cons_zero]
      refine held_take 8 (v := _) rfl (by kernel_rfl) (by kernel_rfl) (by kernel_rfl) (fun _ _ _ h => h) (yieldsI_loadw rfl 32 _ rfl rfl (fun w1 h => ((HCC.out w1).1 h).blk VB.out (by simp)) agg_apisum HV.out) hS0 ?_
      simp only [Act.put, List.setIfInBounds_toArray, List.set_cons_succ, List.set_cons_zero]
      refine held_take 10 (v := _) rfl (by kernel_rfl) (by kernel_rfl) (by kernel_rfl) (fun _ _ _ h => h) (yieldsI_loadw rfl 62 _ rfl rfl (fun w1 h => ((HCC.out w1).1 h).blk PB.out (by simp)) agg_mproof HL33.out) hS0 ?_
      simp only [Act.put, List.setIfInBounds_toArray, List.set_cons_succ, List.set_cons_zero]
      refine held_take 12 (v := _) rfl (by kernel_rfl) (by kernel_rfl) (by kernel_rfl) (fun _ _ _ h => h) (yieldsI_loadw rfl 32 _ rfl rfl (fun w1 h => ((HCC.out w1).1 h).blk RB.out (by simp)) agg_apisum HR.out) hS0 ?_
      simp only [Act.put, List.setIfInBounds_toArray, List.set_cons_succ, List.set_cons_zero]
      generalize wB.drew = wD at *
      refine held_one (i := 9) (by kernel_rfl) rfl ?_
      intro Q' hQ
      go_wp2_with fail
      refine (hlf.out wD).mono ?_
      rintro e w1 ⟨rfl, e1⟩
      have hC1 := hCx _ _ hS0 e1
      go_wp2_with fail
      refine hQ _ _ hC1 ?_
      clear hQ Q' hS0 e1
      try dsimp only
      try simp only [Act.put, List.setIfInBounds_toArray, List.set_cons_succ, List.set_cons_zero]
      refine held_one (i := 11) (by kernel_rfl) rfl ?_
      intro Q' hQ
      go_wp2_with fail
      refine (hup.out w1 (by omega) (HC.out.ext ((HCC.out w1).1 hC1).base)).mono ?_
      rintro e w2 ⟨rfl, e2⟩
      have hS0 := hCx _ _ hC1 e2
      go_wp2_with fail
      refine hQ _ _ hS0 ?_
      clear hQ Q' hC1 e2
      try dsimp only
      try simp only [Act.put, List.setIfInBounds_toArray, List.set_cons_succ, List.set_cons_zero]
      refine held_take 13 (v := _) rfl (by kernel_rfl) (by kernel_rfl) (by kernel_rfl) (fun _ _ _ h => h) (yieldsI_run rfl (fun w1 _ => exec_cmp rfl rfl rfl guard_sum HNE.out w1)) hS0 ?_
      simp only [Act.put, List.setIfInBounds_toArray, List.set_cons_succ, List.set_cons_zero]
      refine held_take 14 (v := ?tv7) rfl (by kernel_rfl) (by kernel_rfl) (by kernel_rfl) (fun _ _ _ h => h) (.inl ⟨rfl, ?ty7⟩) hS0 ?tr7
      case ty7 => (intro _ _; go_simp; try with_reducible rfl)
      case tr7 =>
      simp only [Act.put, List.setIfInBounds_toArray, List.set_cons_succ, List.set_cons_zero]
      refine wpAnyH_done (by kernel_rfl) ?_ _
      have E2 := hid ((HCC.out w2).1 hS0).base
      clear hS0 hCx hCA HCC e32
      cases hur : (u == root) with
      | true =>
        rw [hur, if_pos rfl] at hE
        subst hE
        go_wp2
        go_ret
        exact ⟨rfl, E2.out⟩
      | false =>
        rw [hur, if_neg (by decide)] at hE
        subst hE
        go_wp2
        go_ret
        exact ⟨rfl, E2.out⟩
    · rw [if_pos hnm] at hE
      subst hE
      have g1 : ((n : Int) != (M : Int)) = true := by simp; omega
      have g2 : (n != M) = true := by simp [hnm]
      have g3 : ((M : Int) != (n : Int)) = true := by simp; omega
      have g4 : (M != n) = true := by simp; omega
      refine wp_region_held_drew (S := C) (by kernel_rfl) (hCx _ _ hCA (Ext.refl _).drew) (fun hS0 => ?_)
      refine held_take 0 (v := ?tv8) rfl (by kernel_rfl) (by kernel_rfl) (by kernel_rfl) (fun _ _ _ h => h) (.inl ⟨rfl, ?ty8⟩) hS0 ?tr8
      case ty8 => (intro _ _; go_simp; try with_reducible rfl)
      case tr8 =>
      simp only [Act.put, List.setIfInBounds_toArray, List.set_cons_succ, List.set_cons_zero]
      refine held_take 1 (v := ?tv9) rfl (by kernel_rfl) (by kernel_rfl) (by kernel_rfl) (fun _ _ _ h => h) (.inl ⟨rfl, ?ty9⟩) hS0 ?tr9
      case ty9 => (intro wq hwq; have hcq := (e32) wq hwq; go_simp; try with_reducible rfl)
      case tr9 =>
      simp only [Act.put, List.setIfInBounds_toArray, List.set_cons_succ, List.set_cons_zero]
      refine held_take 2 (v := ?tv10) rfl (by kernel_rfl) (by kernel_rfl) (by kernel_rfl) (fun _ _ _ h => h) (.inl ⟨rfl, ?ty10⟩) hS0 ?tr10
      case ty10 => (intro _ _; go_simp; try with_reducible rfl)
      case tr10 =>
      simp only [Act.put, List.setIfInBounds_toArray, List.set_cons_succ, List.set_cons_zero]
      refine held_take 3 (v := ?tv11) rfl (by kernel_rfl) (by kernel_rfl) (by kernel_rfl) (fun _ _ _ h => h) (.inl ⟨rfl, ?ty11⟩) hS0 ?tr11
      case ty11 => (intro _ _; go_simp; try with_reducible rfl)
      case tr11 =>
      simp only [Act.put, List.setIfInBounds_toArray, List.set_cons_succ, List.set_cons_zero]
      refine held_take 4 (v := ?tv12) rfl (by kernel_rfl) (by kernel_rfl) (by kernel_rfl) (fun _ _ _ h => h) (.inl ⟨rfl, ?ty12⟩) hS0 ?tr12
      case ty12 => (intro _ _; go_simp; try with_reducible rfl)
      case tr12 =>
      simp only [Act.put, List.setIfInBounds_toArray, List.set_cons_succ, List.set_cons_zero]
      refine held_take 5 (v := ?tv13) rfl (by kernel_rfl) (by kernel_rfl) (by kernel_rfl) (fun _ _ _ h => h) (.inl ⟨rfl, ?ty13⟩) hS0 ?tr13
      case ty13 => (intro _ _; go_simp; try with_reducible rfl)
      case tr13 =>
      simp only [Act.put, List.setIfInBounds_toArray, List.set_cons_succ, List.set_cons_zero]
      refine held_take 6 (v := undef) rfl (by kernel_rfl) (by kernel_rfl) (by kernel_rfl) (fun _ _ _ h => h) (.inr ⟨rfl, rfl⟩) hS0 ?_
      simp only [Act.put, List.setIfInBounds_toArray, List.set_cons_succ, List.set_cons_zero]
      refine held_take 7 (v := undef) rfl (by kernel_rfl) (by kernel_rfl) (by kernel_rfl) (fun _ _ _ h => h) (.inr ⟨rfl, rfl⟩) hS0 ?_
      simp only [Act.put, List.setIfInBounds_toArray, List.set_cons_succ, List.set_cons_zero]
      refine held_take 8 (v := undef) rfl (by kernel_rfl) (by kernel_rfl) (by kernel_rfl) (fun _ _ _ h => h) (.inr ⟨rfl, rfl⟩) hS0 ?_
      simp only [Act.put, List.setIfInBounds_toArray, List.set_cons_succ, List.set_cons_zero]
      refine held_take 9 (v := undef) rfl (by kernel_rfl) (by kernel_rfl) (by kernel_rfl) (fun _ _ _ h => h) (.inr ⟨rfl, rfl⟩) hS0 ?_
      simp only [Act.put, List.setIfInBounds_toArray, List.set_cons_succ, List.set_cons_zero]
      refine held_take 10 (v := undef) rfl (by kernel_rfl) (by kernel_rfl) (by kernel_rfl) (fun _ _ _ h => h) (.inr ⟨rfl, rfl⟩) hS0 ?_
      simp only [Act.put, List.setIfInBounds_toArray, List.set_cons_succ, List.set_cons_zero]
      refine held_take 11 (v := undef) rfl (by kernel_rfl) (by kernel_rfl) (by kernel_rfl) (fun _ _ _ h => h) (.inr ⟨rfl, rfl⟩) hS0 ?_
      simp only [Act.put, List.setIfInBounds_toArray, List.set_cons_succ, List.set_cons_zero]
      refine held_take 12 (v := undef) rfl (by kernel_rfl) (by kernel_rfl) (by kernel_rfl) (fun _ _ _ h => h) (.inr ⟨rfl, rfl⟩) hS0 ?_
      simp only [Act.put, List.setIfInBounds_toArray, List.set_cons_succ, List.set_cons_zero]
      refine held_take 13 (v := undef) rfl (by kernel_rfl) (by kernel_rfl) (by kernel_rfl) (fun _ _ _ h => h) (.inr ⟨rfl, rfl⟩) hS0 ?_
      simp only [Act.put, List.setIfInBounds_toArray, List.set_cons_succ, List.set_cons_zero]
      refine held_take 14 (v := ?tv14) rfl (by kernel_rfl) (by kernel_rfl) (by kernel_rfl) (fun _ _ _ h => h) (.inl ⟨rfl, ?ty14⟩) hS0 ?tr14
      case ty14 => (intro _ _; go_simp; try with_reducible rfl)
      case tr14 =>
      simp only [Act.put, List.setIfInBounds_toArray, List.set_cons_succ, List.set_cons_zero]
      refine wpAnyH_done (by kernel_rfl) ?_ _
      have E2 := hid ((HCC.out _).1 hS0).base
      go_wp2
      go_ret
      exact ⟨rfl, E2.out⟩
end

section
open Go Go.RowKit
end

section
open Go Go.RowKit

def difF (a b : List UInt8) : Nat → Nat → Nat
  | 0, i => i
  | f + 1, i => if bitL a i = bitL b i then difF a b f (i + 1) else i
def difL (a b : List UInt8) : Nat := difF a b 256 0
theorem difF_le (a b : List UInt8) (f i : Nat) : difF a b f i ≤ i + f := by
  induction f generalizing i with
  | zero => exact Nat.le_refl _
  | succ f ih => simp only [difF]; split
                 · have := ih (i + 1); omega
                 · omega

set_option maxRecDepth 100000 in
set_option maxHeartbeats 1000000 in
theorem differs_c (x y : List UInt8) (w : World) (hx : x.length = 32) (hy : y.length = 32) :
    Calls Try.prog 71 #[.agg (x.map u8v).toArray, .agg (y.map u8v).toArray] w fun e w' => e = .returned (.int .i64 ((difL x y : Nat) : Int)) ∧ Ext w w' := by
  have HX := hid (show (x.map u8v).length = 32 by rw [List.length_map, hx])
  have HY := hid (show (y.map u8v).length = 32 by rw [List.length_map, hy])
  have hb1 := hid (fun i w' h => bit_c x i w' hx h)
  have hb2 := hid (fun i w' h => bit_c y i w' hy h)
  obtain ⟨R, hR⟩ : ∃ R, difL x y = R := ⟨_, rfl⟩
  rw [hR]
  unfold difL at hR
  have HR := hid hR
  clear hR hx hy
  go_enter Try.func71, Try.ntmps71
  go_upto_region 1 with (fail)
  generalize hwA : World.alloc (World.alloc w _) _ = wA
  have xA : Blk wA w.heap.size (x.map u8v) 32 := by rw [← hwA]; exact (Blk.mk_alloc rfl rfl).alloc _
  have yA : Blk wA (w.heap.size + 1) (y.map u8v) 32 := by rw [← hwA]; exact Blk.mk_alloc (by simp) rfl
  have eA : Ext w wA := by rw [← hwA]; exact ((Ext.refl w).alloc _).alloc _
  clear hwA
  have XA := hid xA
  have YA := hid yA
  have EA := hid eA
  clear xA yA eA
  go_wp2
  go_loopw [6] (fun t wr => ∃ i : Nat, i ≤ 256 ∧ t = .int .i64 (i : Int) ∧ difF x y (256 - i) i = R ∧ Ext wA wr) (fun t _ => 256 - (intOf t).toNat)
  case atStart => exact ⟨0, by omega, rfl, HR.out, Ext.refl _⟩
  case round =>
    obtain ⟨i, hi, rfl, hrest, hE⟩ := hrel
    have EW := hid (EA.out.ext hE)
    have EV := hid hE
    have XW := hid (XA.out.ext hE)
    have YW := hid (YA.out.ext hE)
    clear hE
    by_cases hlt : i < 256
    · have hst : difF x y (256 - i) i = if bitL x i = bitL y i then difF x y (256 - (i + 1)) (i + 1) else i := by
        rw [show 256 - i = 255 - i + 1 by omega, show 256 - (i + 1) = 255 - i by omega]; rfl
      rw [hst] at hrest
      have h1 := hid (fun w' => hb1.out i w' hlt)
      have h2 := hid (fun w' => hb2.out i w' hlt)
      generalize bitL x i = p at *
      generalize bitL y i = q at *
      have g0 : decide ((i : Int) < 256) = true := decide_eq_true (by omega)
      have HREST := hid hrest
      clear hst hrest
      go_wp2
      obtain ⟨C, hC⟩ : ∃ C : World → Prop, C = Cls w wr [w.heap.size, w.heap.size + 1] [] := ⟨_, rfl⟩
      have hC0 : ∀ w', C w' ↔ Cls w wr [w.heap.size, w.heap.size + 1] [] w' := fun w' => by rw [hC]
      clear hC
      have HCC := hid hC0
      clear hC0
      have hCx : ∀ w w', C w → Ext w w' → C w' := fun w w' h1 h2 => (HCC.out w').2 (((HCC.out w).1 h1).ext h2)
      have hCA : C wr := (HCC.out _).2 (Cls.no_room EW.out (Kept.two XW.out.lt YW.out.lt))
      by_cases hpq : p = q
      · have g1 : ((p : Int) != (q : Int)) = false := by rw [hpq]; simp
        have g2 : (p != q) = false := by rw [hpq]; simp
        have hr2 := HREST.out
        rw [if_pos hpq] at hr2
        have HR2 := hid hr2
        clear hpq hr2
        refine wp_region_held_drew (S := C) (by kernel_rfl) (hCx _ _ hCA (Ext.refl _).drew) (fun hS0 => ?_)
        refine held_take 0 (v := _) rfl (by kernel_rfl) (by kernel_rfl) (by kernel_rfl) (fun _ _ _ h => h) (yieldsI_loadw rfl 32 _ rfl rfl (fun w1 h => ((HCC.out w1).1 h).blk XW.out (by simp)) agg_apisum HX.out) hS0 ?_
        simp only [Act.put, List.setIfInBounds_toArray, List.set_cons_succ, List.set_cons_zero]
        refine held_take 1 (v := ?tv1) rfl (by kernel_rfl) (by kernel_rfl) (by kernel_rfl) (fun _ _ _ h => h) (.inl ⟨rfl, ?ty1⟩) hS0 ?tr1
        case ty1 => (intro _ _; go_simp; try with_reducible rfl)
        case tr1 =>
        simp only [Act.put, List.setIfInBounds_toArray, List.set_cons_succ, List.set_cons_zero]
        refine held_take 3 (v := _) rfl (by kernel_rfl) (by kernel_rfl) (by kernel_rfl) (fun _ _ _ h => h) (yieldsI_loadw rfl 32 _ rfl rfl (fun w1 h => ((HCC.out w1).1 h).blk YW.out (by simp)) agg_apisum HY.out) hS0 ?_
        simp only [Act.put, List.setIfInBounds_toArray, List.set_cons_succ, List.set_cons_zero]
        refine held_take 4 (v := ?tv2) rfl (by kernel_rfl) (by kernel_rfl) (by kernel_rfl) (fun _ _ _ h => h) (.inl ⟨rfl, ?ty2⟩) hS0 ?tr2
        case ty2 => (intro _ _; go_simp; try with_reducible rfl)
        case tr2 =>
        simp only [Act.put, List.setIfInBounds_toArray, List.set_cons_succ, List.set_cons_zero]
        have eD : Ext wr wr.drew := (Ext.refl wr).drew
        generalize wr.drew = wD at *
        refine held_one (i := 2) (by kernel_rfl) rfl ?_
        intro Q' hQ
        go_wp2_with fail
        refine (h1.out wD).mono ?_
        rintro e w1 ⟨rfl, e1⟩
        have hC1 := hCx _ _ hS0 e1
        go_wp2_with fail
        refine hQ _ _ hC1 ?_
        clear hQ Q' hS0
        try dsimp only
        try simp only [Act.put, List.setIfInBounds_toArray, List.set_cons_succ, List.set_cons_zero]
        refine held_one (i := 5) (by kernel_rfl) rfl ?_
        intro Q' hQ
        go_wp2_with fail
        refine (h2.out w1).mono ?_
        rintro e w2 ⟨rfl, e2⟩
        have hS0 := hCx _ _ hC1 e2
        have EX := hid ((eD.ext e1).ext e2)
        go_wp2_with fail
        refine hQ _ _ hS0 ?_
        clear hQ Q' hC1 e1 e2 eD
        try dsimp only
        try simp only [Act.put, List.setIfInBounds_toArray, List.set_cons_succ, List.set_cons_zero]
        refine held_take 6 (v := ?tv3) rfl (by kernel_rfl) (by kernel_rfl) (by kernel_rfl) (fun _ _ _ h => h) (.inl ⟨rfl, ?ty3⟩) hS0 ?tr3
        case ty3 => (intro _ _; go_simp; try with_reducible rfl)
        case tr3 =>
        simp only [Act.put, List.setIfInBounds_toArray, List.set_cons_succ, List.set_cons_zero]
        refine wpAnyH_done (by kernel_rfl) ?_ _
        have E2 := hid ((HCC.out _).1 hS0)
        clear hS0 hCx hCA HCC
        have EX2 := hid (EV.out.ext EX.out)
        go_wp2
        go_roundw
        case rel => exact ⟨i + 1, by omega, by first | rfl | go_num, HR2.out, EX2.out⟩
        case measure => first | (simp [intOf]; done) | (simp [intOf]; omega)
      · have g1 : ((p : Int) != (q : Int)) = true := by simp; omega
        have g2 : (p != q) = true := by simp [hpq]
        have hr2 := HREST.out
        rw [if_neg hpq] at hr2
        subst hr2
        refine wp_region_held_drew (S := C) (by kernel_rfl) (hCx _ _ hCA (Ext.refl _).drew) (fun hS0 => ?_)
        refine held_take 0 (v := _) rfl (by kernel_rfl) (by kernel_rfl) (by kernel_rfl) (fun _ _ _ h => h) (yieldsI_loadw rfl 32 _ rfl rfl (fun w1 h => ((HCC.out w1).1 h).blk XW.out (by simp)) agg_apisum HX.out) hS0 ?_
        simp only [Act.put, List.setIfInBounds_toArray, List.set_cons_succ, List.set_cons_zero]
        refine held_take 1 (v := ?tv4) rfl (by kernel_rfl) (by kernel_rfl) (by kernel_rfl) (fun _ _ _ h => h) (.inl ⟨rfl, ?ty4⟩) hS0 ?tr4
        case ty4 => (intro _ _; go_simp; try with_reducible rfl)
        case tr4 =>
        simp only [Act.put, List.setIfInBounds_toArray, List.set_cons_succ, List.set_cons_zero]
        refine held_take 3 (v := _) rfl (by kernel_rfl) (by kernel_rfl) (by kernel_rfl) (fun _ _ _ h => h) (yieldsI_loadw rfl 32 _ rfl rfl (fun w1 h => ((HCC.out w1).1 h).blk YW.out (by simp)) agg_apisum HY.out) hS0 ?_
        simp only [Act.put, List.setIfInBounds_toArray, List.set_cons_succ, List.set_cons_zero]
        refine held_take 4 (v := ?tv5) rfl (by kernel_rfl) (by kernel_rfl) (by kernel_rfl) (fun _ _ _ h => h) (.inl ⟨rfl, ?ty5⟩) hS0 ?tr5
        case ty5 => (intro _ _; go_simp; try with_reducible rfl)
        case tr5 =>
        simp only [Act.put, List.setIfInBounds_toArray, List.set_cons_succ, List.set_cons_zero]
        have eD : Ext wr wr.drew := (Ext.refl wr).drew
        generalize wr.drew = wD at *
        refine held_one (i := 2) (by kernel_rfl) rfl ?_
        intro Q' hQ
        go_wp2_with fail
        refine (h1.out wD).mono ?_
        rintro e w1 ⟨rfl, e1⟩
        have hC1 := hCx _ _ hS0 e1
        go_wp2_with fail
        refine hQ _ _ hC1 ?_
        clear hQ Q' hS0
        try dsimp only
        try simp only [Act.put, List.setIfInBounds_toArray, List.set_cons_succ, List.set_cons_zero]
        refine held_one (i := 5) (by kernel_rfl) rfl ?_
        intro Q' hQ
        go_wp2_with fail
        refine (h2.out w1).mono ?_
        rintro e w2 ⟨rfl, e2⟩
        have hS0 := hCx _ _ hC1 e2
        have EX := hid ((eD.ext e1).ext e2)
        go_wp2_with fail
        refine hQ _ _ hS0 ?_
        clear hQ Q' hC1 e1 e2 eD
        try dsimp only
        try simp only [Act.put, List.setIfInBounds_toArray, List.set_cons_succ, List.set_cons_zero]
        refine held_take 6 (v := ?tv6) rfl (by kernel_rfl) (by kernel_rfl) (by kernel_rfl) (fun _ _ _ h => h) (.inl ⟨rfl, ?ty6⟩) hS0 ?tr6
        case ty6 => (intro _ _; go_simp; try with_reducible rfl)
        case tr6 =>
        simp only [Act.put, List.setIfInBounds_toArray, List.set_cons_succ, List.set_cons_zero]
        refine wpAnyH_done (by kernel_rfl) ?_ _
        have E2 := hid ((HCC.out _).1 hS0).base
        go_wp2
        go_ret
        exact ⟨rfl, E2.out⟩
    · obtain rfl : i = 256 := by omega
      have hR2 : (256 : Nat) = R := hrest
      subst hR2
      go_wp2
      go_ret
      exact ⟨rfl, EW.out⟩
end

section
open Go Go.RowKit

section
variable {P : Program} {ops : Array Oper} {Q : Exit → Act → World → Prop} {S : World → Prop}
/-- two operations may come up -/
theorem held_two {i j : Nat} {o o' : Oper} {r r' : List Oper} {f : Nat} {listed : Array Bool} {a : Act} {w : World} (hr : Region.ready .any ops listed = [i, j]) (ho : ops.toList.drop i = o :: r) (ho' : ops.toList.drop j = o' :: r')
    (h1 : ∀ Q' : Exit → Act → World → Prop, (∀ a w, S w → wpAnyH P .any ops Q S f (listed.setIfInBounds i true) a w → Q' .normal a w) → wpList P ops Q' [o] a w)
    (h2 : ∀ Q' : Exit → Act → World → Prop, (∀ a w, S w → wpAnyH P .any ops Q S f (listed.setIfInBounds j true) a w → Q' .normal a w) → wpList P ops Q' [o'] a w) :
    wpAnyH P .any ops Q S (f + 1) listed a w :=
  wpAnyH_all hr (by simp) fun k hk => by
    have hk' : k = i ∨ k = j := by simpa using hk
    rcases hk' with rfl | rfl
    · exact wpOp_of_list (op_of_drop ho) (h1 _ fun a w hS hW => ⟨hS, hW⟩)
    · exact wpOp_of_list (op_of_drop ho') (h2 _ fun a w hS hW => ⟨hS, hW⟩)

theorem held_pair {A1 A2 S1 : Nat} {o1 o2 o3 : Oper} {r1 r2 r3 : List Oper} {d1 d2 : Tmp} {vs xs : List Value} {T : TypeId} {n B f : Nat} {x : Operand} {L L' : Array Bool} {a : Act} {w : World}
    (ho1 : ops.toList.drop A1 = o1 :: r1) (ho2 : ops.toList.drop A2 = o2 :: r2) (ho3 : ops.toList.drop S1 = o3 :: r3)
    (e1 : o1.dst = some d1) (e2 : o2.dst = some d2) (e3 : o3.dst = none) (g1 : o1.guard = none) (g2 : o2.guard = none) (g3 : o3.guard = none)
    (al1 : ∀ ρ w, (execOp ρ o1).run P w = .ok (.value (ptrAt w.heap.size)) (w.alloc (.cells vs.toArray T)))
    (al2 : ∀ ρ w, (execOp ρ o2).run P w = .ok (.value (ptrAt w.heap.size)) (w.alloc (.cells vs.toArray T)))
    (st : o3.op = .store T (.tmp d1) x)
    (hx : ∀ p q, ((a.put (some d1) p).put (some d2) q).eval x = .agg xs.toArray)
    (hd : ∀ p q, ((a.put (some d1) p).put (some d2) q).eval (.tmp d1) = p)
    (hcm : ∀ p q, (a.put (some d2) q).put (some d1) p = (a.put (some d1) p).put (some d2) q)
    (r0 : Region.ready .any ops L = [A1, A2]) (rA : Region.ready .any ops (L.setIfInBounds A1 true) = [A2]) (rB : Region.ready .any ops (L.setIfInBounds A2 true) = [A1])
    (rAB : Region.ready .any ops ((L.setIfInBounds A1 true).setIfInBounds A2 true) = [S1]) (rBA : Region.ready .any ops ((L.setIfInBounds A2 true).setIfInBounds A1 true) = [S1])
    (q1 : ((L.setIfInBounds A1 true).setIfInBounds A2 true).setIfInBounds S1 true = L') (q2 : ((L.setIfInBounds A2 true).setIfInBounds A1 true).setIfInBounds S1 true = L')
    (hSx : ∀ w w', S w → Ext w w' → S w') (hSB : ∀ w, S w → B ≤ w.heap.size) (hSu : ∀ w w' g, S w → B ≤ g → Upd w g w' → S w')
    (ht : AggT P T n) (hn : xs.length = n) (hv : vs.length = n) (h1 : ∀ v ∈ xs, v.oneCell' = true) (hS : S w)
    (h : ∀ p q w', S w' → B ≤ p → B ≤ q → p ≠ q → Blk w' p xs T → Blk w' q vs T → wpAnyH P .any ops Q S f L' ((a.put (some d1) (ptrAt p)).put (some d2) (ptrAt q)) w') :
    wpAnyH P .any ops Q S (f + 3) L a w := by
  refine held_two r0 ho1 ho2 (fun Q' hQ => ?_) (fun Q' hQ => ?_)
  · refine wpl_step g1 (al1 _ _) ?_
    rw [e1]
    have hS1 := hSx _ _ hS ((Ext.refl w).alloc (.cells vs.toArray T))
    have b1 := Blk.alloc_new w vs T
    have hB1 := hSB _ hS
    generalize w.alloc (.cells vs.toArray T) = w1 at *
    generalize w.heap.size = p at *
    refine hQ _ _ hS1 ?_
    clear hQ Q' hS
    have hlt := b1.lt
    refine held_one rA ho2 (fun Q' hQ => ?_)
    refine wpl_step g2 (al2 _ _) ?_
    rw [e2]
    have hS2 := hSx _ _ hS1 ((Ext.refl w1).alloc (.cells vs.toArray T))
    have b2 := Blk.alloc_new w1 vs T
    have b1' := b1.ext ((Ext.refl w1).alloc (.cells vs.toArray T))
    have hB2 := hSB _ hS1
    generalize w1.alloc (.cells vs.toArray T) = w2 at *
    generalize w1.heap.size = q at *
    refine hQ _ _ hS2 ?_
    clear hQ Q' hS1
    refine held_one rAB ho3 (fun Q' hQ => ?_)
    refine wpl_storew g3 T _ _ st (hd _ _) (hx _ _) b1' ht hv hn h1 ?_
    intro w3 b3 u3
    rw [e3]
    refine hQ _ _ (hSu _ _ _ hS2 hB1 u3) ?_
    rw [q1]
    exact h p q w3 (hSu _ _ _ hS2 hB1 u3) hB1 hB2 (by omega) b3 (b2.upd u3 (by omega))
  · refine wpl_step g2 (al2 _ _) ?_
    rw [e2]
    have hS1 := hSx _ _ hS ((Ext.refl w).alloc (.cells vs.toArray T))
    have b1 := Blk.alloc_new w vs T
    have hB1 := hSB _ hS
    generalize w.alloc (.cells vs.toArray T) = w1 at *
    generalize w.heap.size = q at *
    refine hQ _ _ hS1 ?_
    clear hQ Q' hS
    have hlt := b1.lt
    refine held_one rB ho1 (fun Q' hQ => ?_)
    refine wpl_step g1 (al1 _ _) ?_
    rw [e1, hcm]
    have hS2 := hSx _ _ hS1 ((Ext.refl w1).alloc (.cells vs.toArray T))
    have b2 := Blk.alloc_new w1 vs T
    have b1' := b1.ext ((Ext.refl w1).alloc (.cells vs.toArray T))
    have hB2 := hSB _ hS1
    generalize w1.alloc (.cells vs.toArray T) = w2 at *
    generalize w1.heap.size = p at *
    refine hQ _ _ hS2 ?_
    clear hQ Q' hS1
    refine held_one rBA ho3 (fun Q' hQ => ?_)
    refine wpl_storew g3 T _ _ st (hd _ _) (hx _ _) b2 ht hv hn h1 ?_
    intro w3 b3 u3
    rw [e3]
    refine hQ _ _ (hSu _ _ _ hS2 hB2 u3) ?_
    rw [q2]
    exact h p q w3 (hSu _ _ _ hS2 hB2 u3) hB2 hB1 (by omega) b3 (b1'.upd u3 (by omega))
end
end

section
open Go Go.RowKit

def absentE (root k lv : List UInt8) (ls : List (List UInt8)) : Int :=
  if ls.length = cntL lv 256 then (if upL lv k ls (depL lv 256) zero32 == root then 0 else 12)
  else if ls.length = cntL lv 256 + 2 then
    (if (ls[cntL lv 256]?.getD [] == k) = true ∨ difL (ls[cntL lv 256]?.getD []) k < depL lv 256 ∨ (ls[cntL lv 256 + 1]?.getD [] == zero32) = true then 12
    else if upL lv k ls (depL lv 256) (mleafL (ls[cntL lv 256]?.getD []) (ls[cntL lv 256 + 1]?.getD [])) == root then 0 else 12)
  else 12

set_option maxRecDepth 100000 in
set_option maxHeartbeats 4000000 in
theorem absent_c (root k lv : List UInt8) (ls : List (List UInt8)) (a : Option Addr) (n c : Nat) (w : World) (hr : root.length = 32) (hk : k.length = 32) (hlv : lv.length = 32) (hn : ls.length = n) (hn63 : n ≤ 9223372036854775807) (h32 : All32 ls) (hcl : Cells w a (rows ls)) :
    Calls Try.prog 69 #[.agg (root.map u8v).toArray, .agg (k.map u8v).toArray, .agg (mpL lv (.slice a n c)).toArray] w fun e w' => e = .returned (.int .i64 (absentE root k lv ls)) ∧ Ext w w' := by
  have HR := hid (show (root.map u8v).length = 32 by rw [List.length_map, hr])
  have HK := hid (show (k.map u8v).length = 32 by rw [List.length_map, hk])
  have HZ := hid (show (zero32.map u8v).length = 32 by rw [List.length_map, zero32_len])
  have HL33 := hid (mpL_length hlv (.slice a n c))
  have HLE : Hid (0 + 32 ≤ (mpL lv (.slice a n c)).length) := hid (by rw [mpL_length hlv]; omega)
  have HLV := hid (mpL_lev hlv (.slice a n c))
  have HAT := hid (mpL_at hlv (.slice a n c))
  have HC := hid hcl
  have HKL := hid hk
  have HRL := hid hr
  have HN := hid hn
  have H32 := hid h32
  have hup := hid (fun s w' hs hcnt h => up_c lv k s ls a n c w' hlv hk hs hn hcnt h32 h)
  have hupl := hid (fun s hs => upL_length (lv := lv) (k := k) (ls := ls) (depL lv 256) s hs)
  have hmk := hid (fun w' => marked_c lv w' hlv)
  have hc256 := cntL_le lv 256
  have hd256 := depL_le lv 256
  obtain ⟨E, hE⟩ : ∃ E, absentE root k lv ls = E := ⟨_, rfl⟩
  rw [hE]
  unfold absentE at hE
  rw [hn] at hE
  generalize depL lv 256 = D at *
  generalize cntL lv 256 = M at *
  generalize hvs : mpL lv (.slice a n c) = vs at *
  have HE := hid hE
  clear hr hk hlv hn h32 hcl hvs hE
  go_enter Try.func69, Try.ntmps69
  go_upto_region 1 with (fail)
  generalize hwA : World.alloc (World.alloc (World.alloc w _) _) _ = wA
  have rA : Blk wA w.heap.size (root.map u8v) 32 := by rw [← hwA]; exact ((Blk.mk_alloc rfl rfl).alloc _).alloc _
  have kA : Blk wA (w.heap.size + 1) (k.map u8v) 32 := by rw [← hwA]; exact (Blk.mk_alloc (by simp) rfl).alloc _
  have pA : Blk wA (w.heap.size + 2) vs 62 := by rw [← hwA]; exact Blk.mk_alloc (by simp) rfl
  have eA : Ext w wA := by rw [← hwA]; exact (((Ext.refl w).alloc _).alloc _).alloc _
  clear hwA
  have RA := hid rA
  have KA := hid kA
  have PA := hid pA
  have EA := hid eA
  clear rA kA pA eA
  go_wp2_with (first | (refine wpl_loadp rfl 22 _ rfl rfl PA.out agg_lev HLE.out HLV.out ?_))
  refine (hmk.out _).mono ?_
  rintro e wB ⟨rfl, eB⟩
  have RB := hid (RA.out.ext eB)
  have KB := hid (KA.out.ext eB)
  have PB := hid (PA.out.ext eB)
  have EB := hid (EA.out.ext eB)
  clear eB RA KA PA EA hmk
  go_wp2_with (first | (refine wpl_storew rfl _ (.tmp 9) _ rfl rfl rfl (Blk.mk_alloc (vs := List.replicate 32 (.int .u8 0)) rfl rfl) agg_apisum (by simp) (xs := List.replicate 32 (.int .u8 0)) (by simp) (one_zeros 32) ?_))
  intro wC bC0 uC
  have eC : Ext wB wC := uC.ext ((Ext.refl wB).alloc _) (Nat.le_refl _)
  have bC : Blk wC wB.heap.size (zero32.map u8v) 32 := by rw [zero32_map]; exact bC0
  clear uC bC0
  have RwC := hid (RB.out.ext eC)
  have KwC := hid (KB.out.ext eC)
  have PwC := hid (PB.out.ext eC)
  have EwC := hid (EB.out.ext eC)
  have BwC := hid bC
  have hg9 : w.heap.size + 2 < wB.heap.size := PB.out.lt
  clear eC bC RB KB PB EB
  generalize wB.heap.size = g9 at *
  have c32 : wC.cell? ⟨w.heap.size + 2, 32, none⟩ = some (.slice a n c) := PwC.out.cell' HAT.out
  have hE := HE.out
  clear HE
  by_cases hnm : n = M
  · rw [if_pos hnm] at hE
    subst hnm
    have g1 : ((n : Int) - (n : Int)) = 0 := by omega
    have g2 : ((n : Int) == (n : Int)) = true := by simp
    have g3 : (n == n) = true := by simp
    have hupz := hid (fun w' h => hup.out zero32 w' zero32_len (Nat.le_refl _) h)
    have HNE := hid (fun w => neq_arr Try.underlying32 (upL lv k ls D zero32) root (hupl.out zero32 zero32_len) HRL.out w)
    generalize zero32 = zz at *
    generalize upL lv k ls D zz = u at *
    clear hup hupl
    go_wp2_with fail
    clear c32
    obtain ⟨C, hC⟩ : ∃ C : World → Prop, C = Cls w wC [w.heap.size, w.heap.size + 1, w.heap.size + 2, g9] [] := ⟨_, rfl⟩
    have hC0 : ∀ w', C w' ↔ Cls w wC [w.heap.size, w.heap.size + 1, w.heap.size + 2, g9] [] w' := fun w' => by rw [hC]
    clear hC
    have HCC := hid hC0
    clear hC0
    have hCx : ∀ w w', C w → Ext w w' → C w' := fun w w' h1 h2 => (HCC.out w').2 (((HCC.out w).1 h1).ext h2)
    have hCA : C wC := (HCC.out _).2 (Cls.no_room EwC.out (Kept.four RwC.out.lt KwC.out.lt PwC.out.lt BwC.out.lt))
    refine wp_region_held_drew (S := C) (by kernel_rfl) (hCx _ _ hCA (Ext.refl _).drew) (fun hS0 => ?_)
    refine held_take 0 (v := _) rfl (by kernel_rfl) (by kernel_rfl) (by kernel_rfl) (fun _ _ _ h => h) (yieldsI_loadw rfl 32 _ rfl rfl (fun w1 h => ((HCC.out w1).1 h).blk KwC.out (by simp)) agg_apisum HK.out) hS0 ?_
    simp only [Act.put, List.setIfInBounds_toArray, List.set_cons_succ, List.set_cons_zero]
    refine held_take 1 (v := _) rfl (by kernel_rfl) (by kernel_rfl) (by kernel_rfl) (fun _ _ _ h => h) (yieldsI_loadw rfl 32 _ rfl rfl (fun w1 h => ((HCC.out w1).1 h).blk BwC.out (by simp)) agg_apisum HZ.out) hS0 ?_
    simp only [Act.put, List.setIfInBounds_toArray, List.set_cons_succ, List.set_cons_zero]
    refine held_take 2 (v := _) rfl (by kernel_rfl) (by kernel_rfl) (by kernel_rfl) (fun _ _ _ h => h) (yieldsI_loadw rfl 62 _ rfl rfl (fun w1 h => ((HCC.out w1).1 h).blk PwC.out (by simp)) agg_mproof HL33.out) hS0 ?_
    simp only [Act.put, List.setIfInBounds_toArray, List.set_cons_succ, List.set_cons_zero]
    refine held_take 4 (v := _) rfl (by kernel_rfl) (by kernel_rfl) (by kernel_rfl) (fun _ _ _ h => h) (yieldsI_loadw rfl 32 _ rfl rfl (fun w1 h => ((HCC.out w1).1 h).blk RwC.out (by simp)) agg_apisum HR.out) hS0 ?_
    simp only [Act.put, List.setIfInBounds_toArray, List.set_cons_succ, List.set_cons_zero]
    generalize wC.drew = wX at *
    refine held_one (i := 3) (by kernel_rfl) rfl ?_
    intro Q' hQ
    go_wp2_with fail
    refine (hupz.out wX (HC.out.ext ((HCC.out wX).1 hS0).base)).mono ?_
    rintro e wY ⟨rfl, eY⟩
    have hSY := hCx _ _ hS0 eY
    go_wp2_with fail
    refine hQ _ _ hSY ?_
    clear hQ Q' hS0 eY
    try dsimp only
    try simp only [Act.put, List.setIfInBounds_toArray, List.set_cons_succ, List.set_cons_zero]
    have hS0 := hSY
    clear hSY
    refine held_take 5 (v := _) rfl (by kernel_rfl) (by kernel_rfl) (by kernel_rfl) (fun _ _ _ h => h) (yieldsI_run rfl (fun w1 _ => exec_cmp rfl rfl rfl guard_sum HNE.out w1)) hS0 ?_
    simp only [Act.put, List.setIfInBounds_toArray, List.set_cons_succ, List.set_cons_zero]
    refine wpAnyH_done (by kernel_rfl) ?_ _
    have EY := hid ((HCC.out wY).1 hS0).base
    clear hS0 hCx hCA HCC
    cases hur : (u == root) with
    | true =>
      rw [hur, if_pos rfl] at hE
      subst hE
      go_wp2
      go_ret
      exact ⟨rfl, EY.out⟩
    | false =>
      rw [hur, if_neg (by decide)] at hE
      subst hE
      go_wp2
      go_ret
      exact ⟨rfl, EY.out⟩
  · rw [if_neg hnm] at hE
    by_cases hn2 : n = M + 2
    · rw [if_pos hn2] at hE
      obtain ⟨o, ho⟩ : ∃ o, ls[M]? = some o := ⟨ls[M]'(by rw [HN.out]; omega), by simp⟩
      obtain ⟨v, hv⟩ : ∃ v, ls[M + 1]? = some v := ⟨ls[M + 1]'(by rw [HN.out]; omega), by simp⟩
      have hol : o.length = 32 := H32.out.at ho
      have hvl : v.length = 32 := H32.out.at hv
      obtain ⟨A, rfl, hca, hcb⟩ : ∃ A, a = some A ∧ CellsAt w (A.add (M * 32)) (o.map u8v) ∧ CellsAt w (A.add ((M + 1) * 32)) (v.map u8v) := by
        cases a with
        | none => rcases HC.out with h | ⟨_, _, h, _⟩
                  · have := rows_length H32.out; rw [h, HN.out] at this; simp at this; omega
                  · cases h
        | some A => exact ⟨A, rfl, HC.out.rowAt H32.out ho, HC.out.rowAt H32.out hv⟩
      have hE2 : (if (o == k) = true ∨ difL o k < D ∨ (v == zero32) = true then (12 : Int) else if upL lv k ls D (mleafL o v) == root then 0 else 12) = E := by rw [ho, hv] at hE; exact hE
      clear hE
      have hE := hE2
      clear hE2
      have HO := hid (show (o.map u8v).length = 32 by rw [List.length_map, hol])
      have HV := hid (show (v.map u8v).length = 32 by rw [List.length_map, hvl])
      have oo := one_u8 o
      have ov := one_u8 v
      have HCA := hid hca
      have HCB := hid hcb
      have HEO := hid (fun w => eq_arr Try.underlying32 o k hol HKL.out w)
      have HEV := hid (fun w => eq_arr Try.underlying32 v zero32 hvl zero32_len w)
      have hdf := hid (fun w' => differs_c o k w' hol HKL.out)
      have hlf := hid (fun w' => single_c o v w' hol hvl)
      have hlfl := mleafL_length o v
      have HLF := hid (show ((mleafL o v).map u8v).length = 32 by rw [List.length_map, hlfl])
      have olf := one_u8 (mleafL o v)
      have hupz := hid (fun w' h => hup.out (mleafL o v) w' hlfl (by omega) h)
      have HNE := hid (fun w => neq_arr Try.underlying32 (upL lv k ls D (mleafL o v)) root (hupl.out _ hlfl) HRL.out w)
      have hdl := difF_le o k 256 0
      rw [show difF o k 256 0 = difL o k from rfl] at hdl
      obtain ⟨u, hu⟩ : ∃ u, upL lv k ls D (mleafL o v) = u := ⟨_, rfl⟩
      rw [hu] at hE hupz HNE
      obtain ⟨lf, hlf2⟩ : ∃ lf, mleafL o v = lf := ⟨_, rfl⟩
      rw [hlf2] at hupz hlf HLF olf
      obtain ⟨df, hdf2⟩ : ∃ df, difL o k = df := ⟨_, rfl⟩
      rw [hdf2] at hE hdf hdl
      clear hu hlf2 hdf2 hlfl
      obtain ⟨M1, hM1⟩ : ∃ M1, M1 = M + 1 := ⟨_, rfl⟩
      have hM1n : M1 < n := by omega
      have hMn : M < n := by omega
      have HM1 := hid hM1
      rw [← hM1] at HCB
      have g1 : ((n : Int) - (M : Int) == 0) = false := by simp; omega
      have g2 : ((n : Int) - (M : Int) == 2) = true := by simp; omega
      have g3 : ((n : Int) == (M : Int)) = false := by simp; omega
      have g4 : (n == M) = false := by simp [hnm]
      have g5 : ((n : Int) == (M : Int) + 2) = true := by simp; omega
      have g6 : (n == M + 2) = true := by simp [hn2]
      have hwm : IntKind.i64.wrap ((M : Int) + 1) = (M1 : Int) := by rw [IntWalk.i64_in _ (by omega)]; omega
      clear hca hcb ho hv hol hvl hup hupl hnm
      have HN2 := hid hn2
      clear hn2 hM1
      go_wp2_with fail
      clear c32
      obtain ⟨C, hC⟩ : ∃ C : World → Prop, C = Cls w wC [w.heap.size, w.heap.size + 1, w.heap.size + 2, g9] [] := ⟨_, rfl⟩
      have hC0 : ∀ w', C w' ↔ Cls w wC [w.heap.size, w.heap.size + 1, w.heap.size + 2, g9] [] w' := fun w' => by rw [hC]
      clear hC
      have HCC := hid hC0
      clear hC0
      have hCx : ∀ w w', C w → Ext w w' → C w' := fun w w' h1 h2 => (HCC.out w').2 (((HCC.out w).1 h1).ext h2)
      have hCA : C wC := (HCC.out _).2 (Cls.no_room EwC.out (Kept.four RwC.out.lt KwC.out.lt PwC.out.lt BwC.out.lt))
      have e32 : ∀ w1, C w1 → w1.cell? ⟨w.heap.size + 2, 32, none⟩ = some (.slice (some A) n c) := fun w1 h1 => (((HCC.out w1).1 h1).blk PwC.out (by simp)).cell' HAT.out
      have hca : ∀ w1, C w1 → CellsAt w1 (A.add (M * 32)) (o.map u8v) := fun w1 h1 => HCA.out.ext ((HCC.out w1).1 h1).base
      have hcb : ∀ w1, C w1 → CellsAt w1 (A.add (M1 * 32)) (v.map u8v) := fun w1 h1 => HCB.out.ext ((HCC.out w1).1 h1).base
      refine wp_region_held_drew (S := C) (by kernel_rfl) (hCx _ _ hCA (Ext.refl _).drew) (fun hS0 => ?_)
      refine held_take 0 (v := ?tv1) rfl (by kernel_rfl) (by kernel_rfl) (by kernel_rfl) (fun _ _ _ h => h) (.inl ⟨rfl, ?ty1⟩) hS0 ?tr1
      case ty1 => (intro _ _; go_simp; try with_reducible rfl)
      case tr1 =>
      simp only [Act.put, List.setIfInBounds_toArray, List.set_cons_succ, List.set_cons_zero]
      refine held_take 1 (v := ?tv2) rfl (by kernel_rfl) (by kernel_rfl) (by kernel_rfl) (fun _ _ _ h => h) (.inl ⟨rfl, ?ty2⟩) hS0 ?tr2
      case ty2 => (intro wq hwq; have hcq := (e32) wq hwq; go_simp; try with_reducible rfl)
      case tr2 =>
      simp only [Act.put, List.setIfInBounds_toArray, List.set_cons_succ, List.set_cons_zero]
      refine held_take 2 (v := ?tv3) rfl (by kernel_rfl) (by kernel_rfl) (by kernel_rfl) (fun _ _ _ h => h) (.inl ⟨rfl, ?ty3⟩) hS0 ?tr3
      case ty3 => (intro _ _; go_simp; try with_reducible rfl)
      case tr3 =>
      simp only [Act.put, List.setIfInBounds_toArray, List.set_cons_succ, List.set_cons_zero]
      refine held_take 3 (v := _) rfl (by kernel_rfl) (by kernel_rfl) (by kernel_rfl) (fun _ _ _ h => h) (yieldsI_run rfl (fun w1 _ => exec_index (i := M) rfl rfl rfl Try.underlying29 size_apisum hMn w1)) hS0 ?_
      simp only [Act.put, List.setIfInBounds_toArray, List.set_cons_succ, List.set_cons_zero]
      refine held_take 4 (v := _) rfl (by kernel_rfl) (by kernel_rfl) (by kernel_rfl) (fun _ _ _ h => h) (yieldsI_run rfl (fun w1 h => exec_load_at rfl rfl (hca w1 h) agg_apisum HO.out)) hS0 ?_
      simp only [Act.put, List.setIfInBounds_toArray, List.set_cons_succ, List.set_cons_zero]
      refine held_take 5 (v := ?tv4) rfl (by kernel_rfl) (by kernel_rfl) (by kernel_rfl) (fun _ _ _ h => h) (.inl ⟨rfl, ?ty4⟩) hS0 ?tr4
      case ty4 => (intro _ _; go_simp; try with_reducible rfl)
      case tr4 =>
      simp only [Act.put, List.setIfInBounds_toArray, List.set_cons_succ, List.set_cons_zero]
      refine held_take 6 (v := ?tv5) rfl (by kernel_rfl) (by kernel_rfl) (by kernel_rfl) (fun _ _ _ h => h) (.inl ⟨rfl, ?ty5⟩) hS0 ?tr5
      case ty5 => (intro wq hwq; have hcq := (e32) wq hwq; go_simp; try with_reducible rfl)
      case tr5 =>
      simp only [Act.put, List.setIfInBounds_toArray, List.set_cons_succ, List.set_cons_zero]
      refine held_take 7 (v := ?tv6) rfl (by kernel_rfl) (by kernel_rfl) (by kernel_rfl) (fun _ _ _ h => h) (.inl ⟨rfl, ?ty6⟩) hS0 ?tr6
      case ty6 => (intro _ _; go_simp; try with_reducible rfl)
      case tr6 =>
      simp only [Act.put, List.setIfInBounds_toArray, List.set_cons_succ, List.set_cons_zero]
      refine held_take 8 (v := ?tv7) rfl (by kernel_rfl) (by kernel_rfl) (by kernel_rfl) (fun _ _ _ h => h) (.inl ⟨rfl, ?ty7⟩) hS0 ?tr7
      case ty7 => (intro _ _; go_simp; try with_reducible rfl)
      case tr7 =>
      simp only [Act.put, List.setIfInBounds_toArray, List.set_cons_succ, List.set_cons_zero]
      refine held_take 9 (v := _) rfl (by kernel_rfl) (by kernel_rfl) (by kernel_rfl) (fun _ _ _ h => h) (yieldsI_run rfl (fun w1 _ => exec_index (i := M1) rfl rfl rfl Try.underlying29 size_apisum hM1n w1)) hS0 ?_
      simp only [Act.put, List.setIfInBounds_toArray, List.set_cons_succ, List.set_cons_zero]
      refine held_take 10 (v := _) rfl (by kernel_rfl) (by kernel_rfl) (by kernel_rfl) (fun _ _ _ h => h) (yieldsI_run rfl (fun w1 h => exec_load_at rfl rfl (hcb w1 h) agg_apisum HV.out)) hS0 ?_
      simp only [Act.put, List.setIfInBounds_toArray, List.set_cons_succ, List.set_cons_zero]
      clear hwm
      refine held_pair (A1 := 11) (A2 := 12) (S1 := 13) (vs := List.replicate 32 (.int .u8 0)) (xs := o.map u8v) (T := 32) (n := 32) (B := wC.heap.size) rfl rfl rfl rfl rfl rfl rfl rfl rfl (fun _ _ => rfl) (fun _ _ => rfl) rfl (fun _ _ => rfl) (fun _ _ => rfl) (fun _ _ => rfl) (by kernel_rfl) (by kernel_rfl) (by kernel_rfl) (by kernel_rfl) (by kernel_rfl) rfl (by kernel_rfl) hCx (fun w1 h1 => ((HCC.out w1).1 h1).kept.1) (fun w1 w2 g h1 hg u => (HCC.out w2).2 (Cls.upd ((HCC.out w1).1 h1) u hg EwC.out.size)) agg_apisum HO.out (by simp) oo hS0 ?_
      clear hS0
      intro p q w3 hS0 hp hq hpq b10 b11
      unfold ptrAt
      try dsimp only
      try simp only [Act.put, List.setIfInBounds_toArray, List.set_cons_succ, List.set_cons_zero]
      have B10 := hid b10
      have B11 := hid b11
      clear b10 b11
      refine held_one (i := 14) (by kernel_rfl) rfl ?_
      intro Q' hQ
      go_wp2_with (refine wpl_storew rfl _ _ _ rfl rfl rfl B11.out agg_apisum (by simp) HV.out ov ?_)
      intro wD bD uD
      have hSD : C wD := (HCC.out wD).2 (Cls.upd ((HCC.out w3).1 hS0) uD hq EwC.out.size)
      have B10D := hid (B10.out.upd uD hpq)
      have B11D := hid bD
      refine hQ _ _ hSD ?_
      clear hQ Q' hS0 B10 B11 uD bD
      refine wpAnyH_done (by kernel_rfl) ?_ _
      have RD := hid (((HCC.out wD).1 hSD).blk RwC.out (by simp))
      have KD := hid (((HCC.out wD).1 hSD).blk KwC.out (by simp))
      have PD := hid (((HCC.out wD).1 hSD).blk PwC.out (by simp))
      have BD := hid (((HCC.out wD).1 hSD).blk BwC.out (by simp))
      have ED := hid ((HCC.out wD).1 hSD).base
      have hg9C : g9 < wC.heap.size := BwC.out.lt
      clear hSD hCx hCA HCC e32 hca hcb RwC KwC PwC BwC EwC
      cases hok : (o == k) with
      | true =>
        rw [hok, if_pos (.inl rfl)] at hE
        rw [hok] at HEO
        subst hE
        clear hok
        go_wp2_with (first | (refine wpl_loadw rfl 32 (.tmp 10) rfl rfl B10D.out agg_apisum HO.out ?_) | (refine wpl_loadw rfl 32 (.tmp 4) rfl rfl KD.out agg_apisum HK.out ?_) | (refine wpg_loadw rfl 32 (.tmp 10) rfl rfl B10D.out agg_apisum HO.out ?_) | (refine wpg_loadw rfl 32 (.tmp 4) rfl rfl KD.out agg_apisum HK.out ?_) | (refine wpg_loadw rfl 32 (.tmp 11) rfl rfl B11D.out agg_apisum HV.out ?_) | (refine wpg_cmp rfl .eql _ _ _ _ rfl rfl rfl guard_sum HEO.out ?_) | (refine wpg_cmp rfl .eql _ _ _ _ rfl rfl rfl guard_sum HEV.out ?_))
        go_ret
        exact ⟨rfl, ED.out⟩
      | false =>
        rw [hok] at HEO
        go_wp2_with (first | (refine wpl_loadw rfl 32 (.tmp 10) rfl rfl B10D.out agg_apisum HO.out ?_) | (refine wpl_loadw rfl 32 (.tmp 4) rfl rfl KD.out agg_apisum HK.out ?_) | (refine wpg_loadw rfl 32 (.tmp 10) rfl rfl B10D.out agg_apisum HO.out ?_) | (refine wpg_loadw rfl 32 (.tmp 4) rfl rfl KD.out agg_apisum HK.out ?_) | (refine wpg_loadw rfl 32 (.tmp 11) rfl rfl B11D.out agg_apisum HV.out ?_) | (refine wpg_cmp rfl .eql _ _ _ _ rfl rfl rfl guard_sum HEO.out ?_) | (refine wpg_cmp rfl .eql _ _ _ _ rfl rfl rfl guard_sum HEV.out ?_))
        refine (hdf.out wD).mono ?_
        rintro e wE ⟨rfl, eE⟩
        have RE := hid (RD.out.ext eE)
        have KE := hid (KD.out.ext eE)
        have PE := hid (PD.out.ext eE)
        have BE := hid (BD.out.ext eE)
        have EE := hid (ED.out.ext eE)
        have B10E := hid (B10D.out.ext eE)
        have B11E := hid (B11D.out.ext eE)
        clear eE
        by_cases hlt : df < D
        · have g7 : decide ((df : Int) < (D : Int)) = true := decide_eq_true (by omega)
          have g8 : decide (df < D) = true := decide_eq_true hlt
          rw [if_pos (.inr (.inl hlt))] at hE
          subst hE
          go_wp2_with (first | (refine wpl_loadw rfl 32 (.tmp 10) rfl rfl B10E.out agg_apisum HO.out ?_) | (refine wpl_loadw rfl 32 (.tmp 4) rfl rfl KE.out agg_apisum HK.out ?_) | (refine wpg_loadw rfl 32 (.tmp 10) rfl rfl B10E.out agg_apisum HO.out ?_) | (refine wpg_loadw rfl 32 (.tmp 4) rfl rfl KE.out agg_apisum HK.out ?_) | (refine wpg_loadw rfl 32 (.tmp 11) rfl rfl B11E.out agg_apisum HV.out ?_) | (refine wpg_cmp rfl .eql _ _ _ _ rfl rfl rfl guard_sum HEO.out ?_) | (refine wpg_cmp rfl .eql _ _ _ _ rfl rfl rfl guard_sum HEV.out ?_))
          go_ret
          exact ⟨rfl, EE.out⟩
        · have g7 : decide ((df : Int) < (D : Int)) = false := decide_eq_false (by omega)
          have g8 : decide (df < D) = false := decide_eq_false hlt
          cases hvz : (v == zero32) with
          | true =>
            rw [hvz, if_pos (.inr (.inr rfl))] at hE
            rw [hvz] at HEV
            subst hE
            clear hok hvz
            go_wp2_with (first | (refine wpl_loadw rfl 32 (.tmp 10) rfl rfl B10E.out agg_apisum HO.out ?_) | (refine wpl_loadw rfl 32 (.tmp 4) rfl rfl KE.out agg_apisum HK.out ?_) | (refine wpg_loadw rfl 32 (.tmp 10) rfl rfl B10E.out agg_apisum HO.out ?_) | (refine wpg_loadw rfl 32 (.tmp 4) rfl rfl KE.out agg_apisum HK.out ?_) | (refine wpg_loadw rfl 32 (.tmp 11) rfl rfl B11E.out agg_apisum HV.out ?_) | (refine wpg_cmp rfl .eql _ _ _ _ rfl rfl rfl guard_sum HEO.out ?_) | (refine wpg_cmp rfl .eql _ _ _ _ rfl rfl rfl guard_sum HEV.out ?_))
            go_ret
            exact ⟨rfl, EE.out⟩
          | false =>
            rw [hvz] at HEV
            have hno : ¬ ((o == k) = true ∨ df < D ∨ (v == zero32) = true) := by
              rw [hok, hvz]
              intro h
              rcases h with h | h | h
              · cases h
              · exact hlt h
              · cases h
            rw [if_neg hno] at hE
            clear hno
            go_wp2_with (first | (refine wpl_loadw rfl 32 (.tmp 10) rfl rfl B10E.out agg_apisum HO.out ?_) | (refine wpl_loadw rfl 32 (.tmp 4) rfl rfl KE.out agg_apisum HK.out ?_) | (refine wpg_loadw rfl 32 (.tmp 10) rfl rfl B10E.out agg_apisum HO.out ?_) | (refine wpg_loadw rfl 32 (.tmp 4) rfl rfl KE.out agg_apisum HK.out ?_) | (refine wpg_loadw rfl 32 (.tmp 11) rfl rfl B11E.out agg_apisum HV.out ?_) | (refine wpg_cmp rfl .eql _ _ _ _ rfl rfl rfl guard_sum HEO.out ?_) | (refine wpg_cmp rfl .eql _ _ _ _ rfl rfl rfl guard_sum HEV.out ?_) | (refine wpl_loadw rfl 32 (.tmp 11) rfl rfl B11E.out agg_apisum HV.out ?_))
            refine (hlf.out _).mono ?_
            rintro e wF ⟨rfl, eF⟩
            have RF := hid (RE.out.ext eF)
            have KF := hid (KE.out.ext eF)
            have PF := hid (PE.out.ext eF)
            have BF := hid (BE.out.ext eF)
            have EF := hid (EE.out.ext eF)
            clear eF RE KE PE BE EE B10E B11E
            go_wp2_with (first | (refine wpl_storew rfl _ (.tmp 9) _ rfl rfl rfl BF.out agg_apisum HZ.out HLF.out olf ?_))
            intro wG bG uG
            have RwG := hid (RF.out.upd uG (by omega))
            have KwG := hid (KF.out.upd uG (by omega))
            have PwG := hid (PF.out.upd uG (by omega))
            have EwG := hid (uG.ext EF.out (by omega))
            have BwG := hid bG
            clear bG uG RF KF PF BF EF RD KD PD BD ED B10D B11D
            go_wp2_with fail
            obtain ⟨C, hC⟩ : ∃ C : World → Prop, C = Cls w wG [w.heap.size, w.heap.size + 1, w.heap.size + 2, g9] [] := ⟨_, rfl⟩
            have hC0 : ∀ w', C w' ↔ Cls w wG [w.heap.size, w.heap.size + 1, w.heap.size + 2, g9] [] w' := fun w' => by rw [hC]
            clear hC
            have HCC := hid hC0
            clear hC0
            have hCx : ∀ w w', C w → Ext w w' → C w' := fun w w' h1 h2 => (HCC.out w').2 (((HCC.out w).1 h1).ext h2)
            have hCA : C wG := (HCC.out _).2 (Cls.no_room EwG.out (Kept.four RwG.out.lt KwG.out.lt PwG.out.lt BwG.out.lt))
            refine wp_region_held_drew (S := C) (by kernel_rfl) (hCx _ _ hCA (Ext.refl _).drew) (fun hS0 => ?_)
            refine held_take 0 (v := _) rfl (by kernel_rfl) (by kernel_rfl) (by kernel_rfl) (fun _ _ _ h => h) (yieldsI_loadw rfl 32 _ rfl rfl (fun w1 h => ((HCC.out w1).1 h).blk KwG.out (by simp)) agg_apisum HK.out) hS0 ?_
            simp only [Act.put, List.setIfInBounds_toArray, List.set_cons_succ, List.set_cons_zero]
            refine held_take 1 (v := _) rfl (by kernel_rfl) (by kernel_rfl) (by kernel_rfl) (fun _ _ _ h => h) (yieldsI_loadw rfl 32 _ rfl rfl (fun w1 h => ((HCC.out w1).1 h).blk BwG.out (by simp)) agg_apisum HLF.out) hS0 ?_
            simp only [Act.put, List.setIfInBounds_toArray, List.set_cons_succ, List.set_cons_zero]
            refine held_take 2 (v := _) rfl (by kernel_rfl) (by kernel_rfl) (by kernel_rfl) (fun _ _ _ h => h) (yieldsI_loadw rfl 62 _ rfl rfl (fun w1 h => ((HCC.out w1).1 h).blk PwG.out (by simp)) agg_mproof HL33.out) hS0 ?_
            simp only [Act.put, List.setIfInBounds_toArray, List.set_cons_succ, List.set_cons_zero]
            refine held_take 4 (v := _) rfl (by kernel_rfl) (by kernel_rfl) (by kernel_rfl) (fun _ _ _ h => h) (yieldsI_loadw rfl 32 _ rfl rfl (fun w1 h => ((HCC.out w1).1 h).blk RwG.out (by simp)) agg_apisum HR.out) hS0 ?_
            simp only [Act.put, List.setIfInBounds_toArray, List.set_cons_succ, List.set_cons_zero]
            generalize wG.drew = wX at *
            refine held_one (i := 3) (by kernel_rfl) rfl ?_
            intro Q' hQ
            go_wp2_with fail
            refine (hupz.out wX (HC.out.ext ((HCC.out wX).1 hS0).base)).mono ?_
            rintro e wY ⟨rfl, eY⟩
            have hSY := hCx _ _ hS0 eY
            go_wp2_with fail
            refine hQ _ _ hSY ?_
            clear hQ Q' hS0 eY
            try dsimp only
            try simp only [Act.put, List.setIfInBounds_toArray, List.set_cons_succ, List.set_cons_zero]
            have hS0 := hSY
            clear hSY
            refine held_take 5 (v := _) rfl (by kernel_rfl) (by kernel_rfl) (by kernel_rfl) (fun _ _ _ h => h) (yieldsI_run rfl (fun w1 _ => exec_cmp rfl rfl rfl guard_sum HNE.out w1)) hS0 ?_
            simp only [Act.put, List.setIfInBounds_toArray, List.set_cons_succ, List.set_cons_zero]
            refine wpAnyH_done (by kernel_rfl) ?_ _
            have EY := hid ((HCC.out wY).1 hS0).base
            clear hS0 hCx hCA HCC
            cases hur : (u == root) with
            | true =>
              rw [hur, if_pos rfl] at hE
              subst hE
              go_wp2
              go_ret
              exact ⟨rfl, EY.out⟩
            | false =>
              rw [hur, if_neg (by decide)] at hE
              subst hE
              go_wp2
              go_ret
              exact ⟨rfl, EY.out⟩
    · rw [if_neg hn2] at hE
      subst hE
      have g1 : ((n : Int) - (M : Int) == 0) = false := by simp; omega
      have g2 : ((n : Int) - (M : Int) == 2) = false := by simp; omega
      have g3 : ((n : Int) == (M : Int)) = false := by simp; omega
      have g4 : (n == M) = false := by simp [hnm]
      have g5 : ((n : Int) == (M : Int) + 2) = false := by simp; omega
      have g6 : (n == M + 2) = false := by simp [hn2]
      go_wp2
      go_ret
      exact ⟨rfl, EwC.out⟩
end

section
open Go Go.RowKit
end

section
open Go Go.RowKit

/-- from level i (not itself) up to level D, with nothing beside -/
def downL (k : List UInt8) (D : Nat) : Nat → List UInt8 → List UInt8
  | 0, s => s
  | i + 1, s => if D ≤ i then downL k D i (sideL k i s zero32) else s
theorem downL_self (k : List UInt8) (D : Nat) (s : List UInt8) : downL k D D s = s := by
  cases D with
  | zero => rfl
  | succ D => simp only [downL]; rw [if_neg (by omega)]
theorem downL_out (k : List UInt8) (D i : Nat) (s : List UInt8) (h : D < i) : downL k D i s = sideL k D (downL k (D + 1) i s) zero32 := by
  induction i generalizing s with
  | zero => omega
  | succ i ih =>
    have e1 : downL k D (i + 1) s = downL k D i (sideL k i s zero32) := by simp only [downL]; rw [if_pos (by omega)]
    rw [e1]
    by_cases hd : D = i
    · subst hd
      rw [downL_self, downL_self]
    · have e2 : downL k (D + 1) (i + 1) s = downL k (D + 1) i (sideL k i s zero32) := by
        have : downL k (D + 1) (i + 1) s = if D + 1 ≤ i then downL k (D + 1) i (sideL k i s zero32) else s := rfl
        rw [this, if_pos (by omega)]
      rw [e2]
      exact ih _ (by omega)
theorem downL_length {k : List UInt8} {D : Nat} (i : Nat) (s : List UInt8) (h : s.length = 32) : (downL k D i s).length = 32 := by
  induction i generalizing s with
  | zero => exact h
  | succ i ih => simp only [downL]; split
                 · exact ih _ (sideL_length _ _ _ _)
                 · exact h
theorem difF_spec (a b : List UInt8) (f i : Nat) : (∀ j, i ≤ j → j < difF a b f i → bitL a j = bitL b j) ∧ (difF a b f i < i + f → bitL a (difF a b f i) ≠ bitL b (difF a b f i)) ∧ i ≤ difF a b f i := by
  induction f generalizing i with
  | zero => exact ⟨fun j h1 h2 => by simp only [difF] at h2; omega, fun h => by simp only [difF] at h; omega, Nat.le_refl _⟩
  | succ f ih =>
    have hd : difF a b (f + 1) i = if bitL a i = bitL b i then difF a b f (i + 1) else i := rfl
    by_cases he : bitL a i = bitL b i
    · rw [if_pos he] at hd
      rw [hd]
      obtain ⟨h1, h2, h3⟩ := ih (i + 1)
      refine ⟨fun j hj hj2 => ?_, fun h => h2 (by omega), by omega⟩
      by_cases hji : j = i
      · subst hji; exact he
      · exact h1 j (by omega) hj2
    · rw [if_neg he] at hd
      rw [hd]
      exact ⟨fun j h1 h2 => by omega, fun _ => he, Nat.le_refl _⟩
theorem difL_same (a b : List UInt8) {j : Nat} (h : j < difL a b) : bitL a j = bitL b j := (difF_spec a b 256 0).1 j (by omega) h
theorem difL_part (a b : List UInt8) (h : difL a b < 256) : bitL a (difL a b) ≠ bitL b (difL a b) := (difF_spec a b 256 0).2.1 (by unfold difL at h; omega)
theorem bits_octet : ∀ x : Fin 256, x.val = x.val / 128 % 2 * 128 + x.val / 64 % 2 * 64 + x.val / 32 % 2 * 32 + x.val / 16 % 2 * 16 + x.val / 8 % 2 * 8 + x.val / 4 % 2 * 4 + x.val / 2 % 2 * 2 + x.val % 2 := by decide +kernel
theorem difL_lt {a b : List UInt8} (ha : a.length = 32) (hb : b.length = 32) (hne : a ≠ b) : difL a b < 256 := by
  apply Nat.lt_of_not_le
  intro hge
  apply hne
  apply List.ext_getElem (by rw [ha, hb])
  intro i h1 h2
  have e : ∀ j, j < 8 → (a[i]?.getD 0).toNat / 2 ^ (7 - j) % 2 = (b[i]?.getD 0).toNat / 2 ^ (7 - j) % 2 := fun j hj => by
    rw [← bitL_8 a i j hj, ← bitL_8 b i j hj]; exact difL_same a b (by omega)
  rw [List.getElem?_eq_getElem h1, List.getElem?_eq_getElem h2] at e
  have ex : ∀ z : UInt8, (some z).getD 0 = z := fun _ => rfl
  rw [ex, ex] at e
  have h0 := e 0 (by omega)
  have h1' := e 1 (by omega)
  have h2' := e 2 (by omega)
  have h3 := e 3 (by omega)
  have h4 := e 4 (by omega)
  have h5 := e 5 (by omega)
  have h6 := e 6 (by omega)
  have h7 := e 7 (by omega)
  simp only [Nat.reduceSub, Nat.reducePow, Nat.div_one, Nat.sub_zero] at h0 h1' h2' h3 h4 h5 h6 h7
  have ba := bits_octet ⟨a[i].toNat, a[i].toNat_lt⟩
  have bb := bits_octet ⟨b[i].toNat, b[i].toNat_lt⟩
  simp only at ba bb
  apply UInt8.toNat_inj.1
  omega
end

section
open Go Go.RowKit

theorem agg_entry : AggT Try.prog 51 64 := ⟨⟨_, Try.underlying51, rfl⟩, by kernel_rfl⟩
theorem info_entry : (Try.prog.info? 51).map (fun i => (i.zero, i.size, i.bytes)) = some (some (.agg (List.replicate 64 (.int .u8 0)).toArray), 64, 64) := by kernel_rfl
theorem zentry_size : (Value.agg (List.replicate 64 (.int .u8 0)).toArray).cells.size = 64 := by simp [Value.cells]
theorem wpl_append_entry {ops : Array Oper} {rest : List Oper} {o : Oper} {a : Act} {w : World} {Q : Exit → Act → World → Prop} (hgd : o.guard = none) (s x : Operand)
    (ho : o.op = .call { callee := .builtin .append, args := #[s, x], argTypes := #[43, 43] }) (base : Nat) {v : Value} {n c g : Nat} {ls : List (List UInt8)} {y : List UInt8} {T : TypeId}
    (hs : a.eval s = v) (hx : a.eval x = .slice (some ⟨g, 0, none⟩) 1 c) (hown : w.ownsRow base 51 64 v n (rows ls)) (hy : y.length = 64) (hb : Blk w g (y.map u8v) T)
    (hn : (n + 1) * 64 ≤ 140737488355328) (hbase : base ≤ w.heap.size)
    (h : ∀ v' w', w'.ownsRow base 51 64 v' (n + 1) (rows (ls ++ [y])) → w.grownBy w' v.ownBlock → wpList Try.prog ops Q rest (a.put o.dst v') w') : wpList Try.prog ops Q (o :: rest) a w := by
  obtain ⟨i0, hi, hz, hsz, hb1⟩ := info_parts info_entry
  exact wpList_append_own w hgd s x 43 ho base 51 i0 _ 64 64 Try.underlying43 hi hz hsz hb1 zentry_size (by decide) v n (rows ls) hs hown ⟨g, 0, none⟩ 1 c (y.map u8v) hx
    (by rw [List.length_map, hy]) (news_blk hb) (one_u8 _) (by unfold maxLen; omega) hn hbase (fun v' w' h1 h2 _ => h v' w' (by rw [rows_append, rows_one]; exact h1) h2)
theorem fill_entry (y : List UInt8) (hy : y.length = 64) (cells : Array Value) (hc : cells.size = 64) : Instr.fill (fun i => some (i * 64, 64)) cells [(0, .agg (y.map u8v).toArray)] = some (y.map u8v).toArray := by
  have h := Great.fill_whole (s := 64) (by omega) [.agg (y.map u8v).toArray] cells (by intro v hv; rw [List.mem_singleton.1 hv]; simp [Value.cells, hy]) (by simp [hc])
  simpa [Value.cells] using h
theorem wpl_buildEntry {ops : Array Oper} {rest : List Oper} {o : Oper} {a : Act} {w : World} {Q : Exit → Act → World → Prop} (hgd : o.guard = none) {x : Operand} {y : List UInt8} (ho : o.op = .buildSlice 43 1 #[(0, x)]) (hx : a.eval x = .agg (y.map u8v).toArray) (hy : y.length = 64)
    (h : wpList Try.prog ops Q rest (a.put o.dst (.slice (some ⟨w.heap.size, 0, none⟩) 1 1)) (w.alloc (.cells (y.map u8v).toArray 51))) : wpList Try.prog ops Q (o :: rest) a w := by
  obtain ⟨i0, hi, hz, hsz, hb1⟩ := info_parts info_entry
  refine wpl_step hgd ?_ h
  have h1 := run_buildSlice (P := Try.prog) w 43 51 1 #[(0, .agg (y.map u8v).toArray)] (y.map u8v).toArray i0 _ Try.underlying43 hi hz (by rw [hsz]; simp [Value.cells]) (by rw [hsz]; omega) (by rw [hsz]; exact fill_entry y hy _ (by simp))
  have he : (#[(0, x)].map fun (p : Nat × Operand) => (p.1, a.eval p.2)) = #[(0, .agg (y.map u8v).toArray)] := by simp [hx]
  have h2 : (Instr.buildSlice 43 1 (#[(0, x)].map fun (p : Nat × Operand) => (p.1, a.eval p.2))).run Try.prog w = .ok (.slice (some ⟨w.heap.size, 0, none⟩) 1 1) (w.alloc (.cells (y.map u8v).toArray 51)) := by rw [he]; exact h1
  unfold execOp
  simp only [ho, Sem.run_bind]
  rw [h2]
  rfl
end

section
open Go Go.RowKit

theorem append_rowblk (w : World) (B : Nat) (t e ty : TypeId) {i0 : TypeInfo} {z0 : Value} {z : Nat} (hu : Try.prog.underlying t = some (.slice e)) (hi : Try.prog.info? e = some i0) (hz : i0.zero = some z0) (hsz : i0.size = z) (hb1 : i0.bytes = z) (hzs : z0.cells.size = z) (h0 : 0 < z)
    {v : Value} {n m c : Nat} {xs news : List Value} {y : Addr} (hown : w.ownsRow B e z v n xs) (hl : news.length = m * z) (hc : ∀ j u, news[j]? = some u → w.cell? (y.add j) = some u) (h1 : ∀ u ∈ news, u.oneCell' = true)
    (hb : (n + m) * z ≤ 140737488355328) (hbase : B ≤ w.heap.size) :
    ∃ v' w', (Builtin.append_ #[t, t] ty #[v, .slice (some y) m c]).run Try.prog w = .ok v' w' ∧ w'.ownsRow B e z v' (n + m) (xs ++ news) ∧ w.grownBy w' v.ownBlock ∧
      (v'.ownBlock = v.ownBlock ∨ v'.ownBlock = some w.heap.size) := by
  have hnm : n + m ≤ 140737488355328 := Nat.le_trans (Nat.le_mul_of_pos_right _ h0) hb
  have hmz : m * z ≤ 140737488355328 := Nat.le_trans (Nat.mul_le_mul_right z (Nat.le_add_left m n)) hb
  have hl' : news.length = m * i0.size := by rw [hsz]; exact hl
  obtain ⟨v', w', hr, h1', h2, h3⟩ := run_append_own (P := Try.prog) w B t ty e i0 z0 z z hu hi hz hsz hb1 hzs h0 v n xs hown y m c news hl hc h1 (by unfold maxLen; omega) hb hbase
  refine ⟨v', w', hr, h1', h2, ?_⟩
  rcases hown.2 with ⟨rfl, rfl⟩ | ⟨g, cap, cur, rfl, hbg, hg, hnc, hcm, hcs, htake⟩
  · by_cases hm0 : m = 0
    · left
      rw [h3.2 ⟨rfl, hm0⟩]
    · right
      have hr2 := run_append_nil (P := Try.prog) w t ty e i0 z0 hu hi hz y m c news hl' hc (by omega) (by omega) (by rw [hb1]; omega)
      exact ok_block hr2 hr rfl
  · by_cases hroom : n + m ≤ cap
    · left
      obtain ⟨w2, hr2, _⟩ := run_append_fits (P := Try.prog) w B t ty e i0 z hu hi hsz g n cap xs hown y m c news hl hc h1 hroom
      exact ok_block hr2 hr rfl
    · right
      have hr2 := run_append_grow (P := Try.prog) w t ty e i0 z0 hu hi hz ⟨g, 0, none⟩ n cap xs (by rw [hsz]; exact hown.1) (hown.cells (g := g) rfl) y m c news hl' hc (by omega) (by omega) (growslice_fits (by omega) (by rw [hb1]; omega))
      exact ok_block hr2 hr rfl

theorem wpl_append_entry2 {ops : Array Oper} {rest : List Oper} {o : Oper} {a : Act} {w : World} {Q : Exit → Act → World → Prop} (hgd : o.guard = none) (s x : Operand)
    (ho : o.op = .call { callee := .builtin .append, args := #[s, x], argTypes := #[43, 43] }) (base : Nat) {v : Value} {n c g : Nat} {ls : List (List UInt8)} {y : List UInt8} {T : TypeId}
    (hs : a.eval s = v) (hx : a.eval x = .slice (some ⟨g, 0, none⟩) 1 c) (hown : w.ownsRow base 51 64 v n (rows ls)) (hy : y.length = 64) (hb : Blk w g (y.map u8v) T)
    (hn : (n + 1) * 64 ≤ 140737488355328) (hbase : base ≤ w.heap.size)
    (h : ∀ v' w', w'.ownsRow base 51 64 v' (n + 1) (rows (ls ++ [y])) → w.grownBy w' v.ownBlock → (v'.ownBlock = v.ownBlock ∨ v'.ownBlock = some w.heap.size) → wpList Try.prog ops Q rest (a.put o.dst v') w') : wpList Try.prog ops Q (o :: rest) a w := by
  obtain ⟨i0, hi, hz, hsz, hb1⟩ := info_parts info_entry
  obtain ⟨v', w', hr, h1, h2, h3⟩ := append_rowblk w base 43 51 o.type (m := 1) (c := c) Try.underlying43 hi hz hsz hb1 zentry_size (by decide) hown (by rw [List.length_map, hy]) (news_blk hb) (one_u8 _) hn hbase
  exact wpList_plain hgd fun K hK => Lib.wp_append_run w s x _ _ ho v _ hs hx v' w' hr (hK _ _ (h v' w' (by rw [rows_append, rows_one]; exact h1) h2 h3))

/-- every row is of 64 octets -/
def All64 (ls : List (List UInt8)) : Prop := ∀ l ∈ ls, l.length = 64
theorem All64.at {ls : List (List UInt8)} (h : All64 ls) {i : Nat} {x : List UInt8} (hx : ls[i]? = some x) : x.length = 64 := h x (List.mem_of_getElem? hx)
theorem All64.filter {ls : List (List UInt8)} (h : All64 ls) (p : List UInt8 → Bool) : All64 (ls.filter p) := fun l hl => h l (List.mem_filter.1 hl).1
theorem rows_at64 {ls : List (List UInt8)} (h : All64 ls) {i : Nat} {x : List UInt8} (hx : ls[i]? = some x) {j : Nat} (hj : j < 64) : (rows ls)[64 * i + j]? = (x.map u8v)[j]? := by
  induction ls generalizing i with
  | nil => cases hx
  | cons l ls ih =>
    have hl := h l (by simp)
    unfold rows
    rw [List.flatten_cons, List.map_append]
    cases i with
    | zero =>
      cases hx
      rw [List.getElem?_append_left (by simp; omega), Nat.mul_zero, Nat.zero_add]
    | succ i =>
      rw [List.getElem?_append_right (by simp; omega), List.length_map, hl, show 64 * (i + 1) + j - 64 = 64 * i + j by omega]
      exact ih (fun x hx => h x (by simp [hx])) (by simpa using hx)
theorem rows_length64 {ls : List (List UInt8)} (h : All64 ls) : (rows ls).length = 64 * ls.length := by
  induction ls with
  | nil => rfl
  | cons l ls ih =>
    have := ih (fun x hx => h x (by simp [hx]))
    unfold rows at *
    rw [List.length_map] at *
    rw [List.flatten_cons, List.length_append, h l (by simp), this, List.length_cons]; omega
theorem Cells.rowAt64 {w : World} {p : Addr} {ls : List (List UInt8)} (h : Cells w (some p) (rows ls)) (h64 : All64 ls) {i : Nat} {x : List UInt8} (hx : ls[i]? = some x) : CellsAt w (p.add (i * 64)) (x.map u8v) := by
  intro j u hu
  have hxl := h64.at hx
  have hj : j < 64 := by
    have := (List.getElem?_eq_some_iff.1 hu).1
    rw [List.length_map, hxl] at this; exact this
  have h2 : (rows ls)[64 * i + j]? = some u := by rw [rows_at64 h64 hx hj]; exact hu
  obtain ⟨b, off, hp, hc⟩ := h.some_of (by have := (List.getElem?_eq_some_iff.1 h2).1; omega)
  cases hp
  rw [addr_add, addr_add]
  have := hc _ _ h2
  rw [show off + i * 64 + j = off + (64 * i + j) by omega]
  exact this
theorem size_entry : (Try.prog.info? 51).map (·.size) = some 64 := by kernel_rfl

theorem bitL_take (x : List UInt8) {i : Nat} (h : i < 256) : bitL (x.take 32) i = bitL x i := by
  unfold bitL
  rw [List.getElem?_take_of_lt (by omega)]

/-- the entries whose bit at a level is b -/
def sideE (lvl b : Nat) (es : List (List UInt8)) : List (List UInt8) := es.filter fun x => bitL x lvl == b
theorem sideE_next {lvl b k : Nat} {es : List (List UInt8)} {x : List UInt8} (hx : es[k]? = some x) : sideE lvl b (es.take (k + 1)) = sideE lvl b (es.take k) ++ if bitL x lvl = b then [x] else [] := by
  unfold sideE
  rw [List.take_add_one, hx, List.filter_append]
  congr 1
  by_cases h : bitL x lvl = b
  · simp [h]
  · simp [h]
theorem sideE_le (lvl b : Nat) (es : List (List UInt8)) : (sideE lvl b es).length ≤ es.length := List.length_filter_le _ _

set_option maxRecDepth 100000 in
set_option maxHeartbeats 1600000 in
theorem rsplit_c (es : List (List UInt8)) (lvl : Nat) (a : Option Addr) (n c : Nat) (w : World) (hl : es.length = n) (hn : n ≤ 1000000) (h64 : All64 es) (hi : lvl < 256) (hcl : Cells w a (rows es)) :
    Calls Try.prog 61 #[.slice a n c, .int .i64 (lvl : Int)] w fun e w' => ∃ va vb, e = .returned (.tuple #[va, vb]) ∧ w'.ownsRow w.heap.size 51 64 va (sideE lvl 0 es).length (rows (sideE lvl 0 es)) ∧ w'.ownsRow w.heap.size 51 64 vb (sideE lvl 1 es).length (rows (sideE lvl 1 es)) ∧ Ext w w' := by
  have HL := hid hl
  have HC := hid hcl
  have H64 := hid h64
  clear hl hcl h64
  go_enter Try.func61, Try.ntmps61
  go_wp2
  go_loopw [4, 5, 10] (fun va vb i wr => ∃ k : Nat, k ≤ n ∧ i = .int .i64 (k : Int) ∧ wr.ownsRow w.heap.size 51 64 va (sideE lvl 0 (es.take k)).length (rows (sideE lvl 0 (es.take k))) ∧ wr.ownsRow w.heap.size 51 64 vb (sideE lvl 1 (es.take k)).length (rows (sideE lvl 1 (es.take k))) ∧ (∀ g, va.ownBlock = some g → vb.ownBlock ≠ some g) ∧ Ext w wr) (fun _ _ i _ => n - (intOf i).toNat)
  case atStart => exact ⟨0, by omega, rfl, World.ownsRow_nil _ _ _ _, World.ownsRow_nil _ _ _ _, (fun g h => by cases h), Ext.refl w⟩
  case round =>
    obtain ⟨k, hk, rfl, ownA, ownB, hdis, e1⟩ := hrel
    have OA := hid ownA
    have OB := hid ownB
    have HD := hid hdis
    have E1 := hid e1
    have hb1 := e1.size
    clear ownA ownB e1 hdis
    by_cases hlt : k < n
    · obtain ⟨x, hx⟩ : ∃ x, es[k]? = some x := ⟨es[k]'(by rw [HL.out]; omega), by simp⟩
      have hxl := H64.out.at hx
      obtain ⟨A, rfl, hca⟩ : ∃ A, a = some A ∧ CellsAt w (A.add (k * 64)) (x.map u8v) := by
        cases a with
        | none => rcases HC.out with h | ⟨_, _, h, _⟩
                  · have := rows_length64 H64.out; rw [h, HL.out] at this; simp at this; omega
                  · cases h
        | some A => exact ⟨A, rfl, HC.out.rowAt64 H64.out hx⟩
      have HX := hid hxl
      have HXV : Hid ((x.map u8v).length = 64) := hid (by rw [List.length_map, hxl])
      have HX0 : Hid (0 + 32 ≤ (x.map u8v).length) := hid (by rw [List.length_map, hxl]; omega)
      have HXT : Hid ((((x.map u8v).drop 0).take 32) = (x.take 32).map u8v) := hid (by rw [List.drop_zero, List.map_take])
      have hbit := hid (fun w' => rbit_c (x.take 32) lvl w' (by rw [List.length_take, hxl]; rfl) hi)
      rw [bitL_take x hi] at hbit
      have hb2 := bitL_lt x lvl
      have ox := one_u8 x
      have hn0 := hid (sideE_next (lvl := lvl) (b := 0) hx)
      have hn1 := hid (sideE_next (lvl := lvl) (b := 1) hx)
      have hl0 : (sideE lvl 0 (es.take k)).length ≤ 1000000 := Nat.le_trans (sideE_le _ _ _) (by rw [List.length_take]; omega)
      have hl1 : (sideE lvl 1 (es.take k)).length ≤ 1000000 := Nat.le_trans (sideE_le _ _ _) (by rw [List.length_take]; omega)
      have HCA := hid (hca.ext E1.out)
      clear hca hx hxl HC
      generalize x.take 32 = xk at *
      generalize sideE lvl 0 (es.take k) = sa at *
      generalize sideE lvl 1 (es.take k) = sb at *
      generalize bitL x lvl = b at *
      obtain ⟨na, hna⟩ : ∃ na, sa.length = na := ⟨_, rfl⟩
      obtain ⟨nb, hnb⟩ : ∃ nb, sb.length = nb := ⟨_, rfl⟩
      rw [hna] at OA hl0
      rw [hnb] at OB hl1
      by_cases h0 : b = 0
      · have g1 : ((b : Int) == 0) = true := by rw [h0]; rfl
        have g2 : (b == 0) = true := by rw [h0]; rfl
        have h0' := hn0.out
        have h1' := hn1.out
        rw [if_pos h0] at h0'
        rw [if_neg (by omega), List.append_nil] at h1'
        have HS0 := hid h0'
        have HS1 := hid h1'
        clear hn0 hn1 h0 h0' h1'
        go_wp2_with (first | (refine wpl_run rfl (exec_index (i := k) rfl rfl rfl Try.underlying43 size_entry hlt wr) ?_) | (refine wpl_run rfl (exec_load_at rfl rfl HCA.out agg_entry HXV.out) ?_) | (refine wpl_storew rfl _ (.tmp 7) _ rfl rfl rfl (Blk.mk_alloc (vs := List.replicate 64 (.int .u8 0)) rfl rfl) agg_entry (by simp) HXV.out ox ?_))
        intro w2 b2 u2
        have e2 : Ext wr w2 := u2.ext ((Ext.refl wr).alloc _) (Nat.le_refl _)
        have B2 := hid b2
        have E2 := hid e2
        clear b2 u2 e2
        go_wp2_with (first | (refine wpl_loadp rfl 32 _ rfl rfl B2.out agg_apisum HX0.out HXT.out ?_))
        refine (hbit.out w2).mono ?_
        rintro e w3 ⟨rfl, e3⟩
        have hb3 : w.heap.size ≤ w3.heap.size := Nat.le_trans hb1 (Nat.le_trans E2.out.size e3.size)
        have B3 := hid (B2.out.ext e3)
        have E3 := hid (E2.out.ext e3)
        clear B2 E2 e3 hbit
        have zB : Blk (w3.alloc (.cells (x.map u8v).toArray 51)) w3.heap.size (x.map u8v) 51 := Blk.mk_alloc rfl rfl
        have e4 : Ext wr (w3.alloc (.cells (x.map u8v).toArray 51)) := E3.out.alloc _
        have O4 := hid (ownsRow_ext OA.out e4)
        have OO4 := hid (ownsRow_ext OB.out e4)
        have E4 := hid (E1.out.ext e4)
        have ZB := hid zB
        have hb4 : w.heap.size ≤ (w3.alloc (.cells (x.map u8v).toArray 51)).heap.size := E4.out.size
        clear e4 zB OA OB E1 E3
        go_wp2_with (first | (refine wpl_loadw rfl 51 (.tmp 7) rfl rfl B3.out agg_entry HXV.out ?_) | (refine wpl_buildEntry rfl rfl rfl HX.out ?_) | (at_builtin; refine wpl_append_entry2 rfl _ _ rfl w.heap.size rfl rfl O4.out HX.out ZB.out (by omega) hb4 ?_))
        intro v5 w5 own5 g5 blk5
        have hv5 := own_block_ge O4.out
        have E5 := hid (E4.out.grown g5 (by intro q hq; exact hv5 _ hq))
        have O5 := hid own5
        have HBL := hid blk5
        have hoo : u5.ownBlock = none ∨ u5.ownBlock ≠ u4.ownBlock := by
          cases hq : u5.ownBlock with
          | none => exact .inl rfl
          | some q => exact .inr (fun e => HD.out q e.symm hq)
        have OO5 := hid (OO4.out.kept g5 hoo)
        have hlt4 : ∀ q, u5.ownBlock = some q → q < (w3.alloc (.cells (x.map u8v).toArray 51)).heap.size := own_block_lt OO4.out
        have HLT4 := hid hlt4
        clear own5 g5 hv5 blk5 hoo hlt4 O4 OO4 E4 ZB B3
        go_wp2
        go_roundw
        case rel =>
          refine ⟨k + 1, by omega, by go_num, ?_, ?_, ?_, E5.out⟩
          · rw [HS0.out, List.length_append, hna]; exact O5.out
          · rw [HS1.out, hnb]; exact OO5.out
          · intro q hq hq2
            rcases HBL.out with hbl | hbl
            · rw [hbl] at hq
              exact HD.out q hq hq2
            · rw [hbl] at hq
              cases hq
              have h9 := HLT4.out _ hq2
              simp at h9
        case measure => simp [intOf]; omega
      · have g1 : ((b : Int) == 0) = false := by simp; omega
        have g2 : (b == 0) = false := by simp [h0]
        have h0' := hn0.out
        have h1' := hn1.out
        rw [if_neg (by omega), List.append_nil] at h0'
        rw [if_pos (by omega)] at h1'
        have HS0 := hid h0'
        have HS1 := hid h1'
        clear hn0 hn1 h0 h0' h1'
        go_wp2_with (first | (refine wpl_run rfl (exec_index (i := k) rfl rfl rfl Try.underlying43 size_entry hlt wr) ?_) | (refine wpl_run rfl (exec_load_at rfl rfl HCA.out agg_entry HXV.out) ?_) | (refine wpl_storew rfl _ (.tmp 7) _ rfl rfl rfl (Blk.mk_alloc (vs := List.replicate 64 (.int .u8 0)) rfl rfl) agg_entry (by simp) HXV.out ox ?_))
        intro w2 b2 u2
        have e2 : Ext wr w2 := u2.ext ((Ext.refl wr).alloc _) (Nat.le_refl _)
        have B2 := hid b2
        have E2 := hid e2
        clear b2 u2 e2
        go_wp2_with (first | (refine wpl_loadp rfl 32 _ rfl rfl B2.out agg_apisum HX0.out HXT.out ?_))
        refine (hbit.out w2).mono ?_
        rintro e w3 ⟨rfl, e3⟩
        have hb3 : w.heap.size ≤ w3.heap.size := Nat.le_trans hb1 (Nat.le_trans E2.out.size e3.size)
        have B3 := hid (B2.out.ext e3)
        have E3 := hid (E2.out.ext e3)
        clear B2 E2 e3 hbit
        have zB : Blk (w3.alloc (.cells (x.map u8v).toArray 51)) w3.heap.size (x.map u8v) 51 := Blk.mk_alloc rfl rfl
        have e4 : Ext wr (w3.alloc (.cells (x.map u8v).toArray 51)) := E3.out.alloc _
        have O4 := hid (ownsRow_ext OB.out e4)
        have OO4 := hid (ownsRow_ext OA.out e4)
        have E4 := hid (E1.out.ext e4)
        have ZB := hid zB
        have hb4 : w.heap.size ≤ (w3.alloc (.cells (x.map u8v).toArray 51)).heap.size := E4.out.size
        clear e4 zB OA OB E1 E3
        go_wp2_with (first | (refine wpl_loadw rfl 51 (.tmp 7) rfl rfl B3.out agg_entry HXV.out ?_) | (refine wpl_buildEntry rfl rfl rfl HX.out ?_) | (at_builtin; refine wpl_append_entry2 rfl _ _ rfl w.heap.size rfl rfl O4.out HX.out ZB.out (by omega) hb4 ?_))
        intro v5 w5 own5 g5 blk5
        have hv5 := own_block_ge O4.out
        have E5 := hid (E4.out.grown g5 (by intro q hq; exact hv5 _ hq))
        have O5 := hid own5
        have HBL := hid blk5
        have hoo : u4.ownBlock = none ∨ u4.ownBlock ≠ u5.ownBlock := by
          cases hq : u4.ownBlock with
          | none => exact .inl rfl
          | some q => exact .inr (fun e => HD.out q hq e.symm)
        have OO5 := hid (OO4.out.kept g5 hoo)
        have hlt4 : ∀ q, u4.ownBlock = some q → q < (w3.alloc (.cells (x.map u8v).toArray 51)).heap.size := own_block_lt OO4.out
        have HLT4 := hid hlt4
        clear own5 g5 hv5 blk5 hoo hlt4 O4 OO4 E4 ZB B3
        go_wp2
        go_roundw
        case rel =>
          refine ⟨k + 1, by omega, by go_num, ?_, ?_, ?_, E5.out⟩
          · rw [HS0.out, hna]; exact OO5.out
          · rw [HS1.out, List.length_append, hnb]; exact O5.out
          · intro q hq hq2
            rcases HBL.out with hbl | hbl
            · rw [hbl] at hq2
              exact HD.out q hq hq2
            · rw [hbl] at hq2
              cases hq2
              have h9 := HLT4.out _ hq
              simp at h9
        case measure => simp [intOf]; omega
    · obtain rfl : k = n := by omega
      have hfin : es.take k = es := by rw [← HL.out, List.take_of_length_le (Nat.le_refl _)]
      rw [hfin] at OA OB
      clear hfin
      go_wp2
      go_ret2
      exact ⟨_, _, rfl, OA.out, OB.out, E1.out⟩
end
end Go.Proofs.Ytkcjdginoccgjaa
