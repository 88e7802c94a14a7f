/- Contracts and laws that the claim's row leans on (44 texts, joined): strings.ContainsRune of the alphabet at runes of more than one octet; the predicate of names; strings.IndexFunc, ContainsFunc with it; conditions: the rune is none beyond the last. The reference's IsName; conditions: the string's size. The reference's IsName, whole; conditions: the string's size. Patterns: isPattern of the law and of the program, Fits of both; conditions: the string's size. Small functions of the policy: outside, isAct, the predicates handed to the library, patterns of the reference; conditions: the strings' sizes. Rules as values, and what is said of them, in plain Lean; no condition. keyref1.RuleError; conditions: the rule's memory. Whether a list of strings rises, in both packages; conditions: the length. Asks as values, and CheckAsk of both packages; conditions: the ask's memory. The reference's CheckAsk; conditions: the ask's memory. Whether a rule meets an ask: the closures, the hours; conditions: the ask's memory. Whether a rule meets an ask, in both packages; conditions: the memory of both, and that both are right. Whether a rule meets an ask, by the reference; conditions: the memory of both, and that both are right. policy.ruleFault; conditions: the rule's memory. Check of a policy, in both packages; conditions: the policy's memory. The reference's CheckPolicy; conditions: the policy's memory. Decisions, in plain Lean; no condition. What a policy's world is made of, plain; no program. The Summer's take; conditions: the octets' number, and where they lie. Contracts of room, cut, Number; conditions: the slices' sizes. Contracts of Cut, Number, Long, Equal; conditions: the slices' sizes. Contract of Long; conditions: the slice's size. Clone, Grow (of nil) and Concat at octets; conditions: lengths below 2^47. PutNumber, PutLong, Clone; conditions: lengths below 2^47 - 8. Plain laws: a word's and a long's octets are read back; no condition but lengths. The law NumbersArePut: its walk; conditions: the slice's size. The Summer's take with octets ahead; conditions: the octets' number, and where they lie. The Summer's take, Write, Copy, NewSummer; conditions: the octets' number, and where they lie. The Summer's end; conditions: its octets' number. The Summer's Sum, and what summed makes; conditions: the octets' number. The reference's long; condition: a number that is not negative. append(s, make([]byte, k)...) onto a row of one's own; conditions: the lengths. The reference's state: what it computes; conditions: the text's length, the domain. The reference's Sum: what it computes; conditions: the text's length, the domain. Results that lie in memory, with others beside them; no condition. Take16; conditions: the slice's size. TagOf and SealOf: what they compute; conditions: the key's length, the text's size. The reference's Tag and SealBy: what they compute; conditions: the key's length, the text's size. Arrays of octets are compared; condition: their lengths. The law SummersAreBounded, walked; no condition. Steps of a walk behind a guard; no condition. The law TagsMatch, walked; conditions: the lengths. policy.decide with 'always'; conditions: the memory of both, and that the ask is right. policy.Meets and policy.Decide; conditions: the memory of the arguments. -/
import Derived.Test.YthfddfgncolnbaaGreatJ2
import Derived.WalkMore
import Derived.Test.YthfddfgncolnbaaGreatB3
import Derived.WalkKit
import Derived.Lib.Walk
import Derived.Lib.SliceRun
import Derived.Lib.AppendZerosOnto
import Derived.Laws.AppendOwn
import Derived.Laws.AppendOwnNone
import Derived.Laws.MakeOwn
import Derived.Laws.ResultCell
import Derived.Test.YthfddfgncolnbaaGreatProg
import Derived.Stop.BytesEq
import Derived.Laws.StructEq
namespace Go.Proofs.YthfddfgncolnbaaGreat
section
open Go Go.RowKit

theorem run_stringIndex (s : ByteArray) (i : Nat) (h : i < s.size) (w : World) : (Instr.index 9 (.string s) (.int .i64 (i : Int))).run Tryz.prog w = .ok (.int .u8 ((s[i]'h).toNat : Int)) w := by
  have h2 : s[i]? = some (s[i]'h) := getElem?_pos s i h
  simp [Instr.index, asIntOf, run_underlying Tryz.underlying9, h2]

theorem exec_strAt {o : Oper} {a : Act} {x y : Operand} {s : ByteArray} {i : Nat} {v : Value} (ho : o.op = .index 9 x y) (hx : a.eval x = .string s) (hy : a.eval y = .int .i64 (i : Int)) (h : ∀ w, (Instr.index 9 (.string s) (.int .i64 (i : Int))).run Tryz.prog w = .ok v w) (w : World) :
    (execOp a.eval o).run Tryz.prog w = .ok (.value v) w := by
  unfold execOp
  simp only [ho, hx, hy, Sem.run_bind, h w, Result.andThen_ok, Sem.run_pure]

theorem run_strFrom (s : ByteArray) (i : Nat) (hi : i ≤ s.size) (w : World) : (Instr.sliceAt 9 (.string s) (some (.int .i64 (i : Int))) none none).run Tryz.prog w = .ok (.string (s.extract i s.size)) w := by
  have h1 : (0 : Int) ≤ i ∧ (i : Int) ≤ s.size := by omega
  simp [Instr.sliceAt, Instr.slice, Instr.sliceBounds, Instr.sliceBound, asIntOf, run_underlying Tryz.underlying9, hi]
theorem exec_strFrom {o : Oper} {a : Act} {x y : Operand} {s : ByteArray} {i : Nat} (ho : o.op = .slice 9 x (some y) none none) (hx : a.eval x = .string s) (hy : a.eval y = .int .i64 (i : Int)) (hi : i ≤ s.size) (w : World) :
    (execOp a.eval o).run Tryz.prog w = .ok (.value (.string (s.extract i s.size))) w := by
  unfold execOp
  simp only [ho, hx, hy, Option.map_some, Option.map_none, Sem.run_bind, run_strFrom s i hi w, Result.andThen_ok, Sem.run_pure]

set_option maxRecDepth 100000 in
set_option maxHeartbeats 1000000 in
theorem validRune_c (r : Nat) (w : World) (h2 : r ≤ 1114111) (h3 : r < 55296 ∨ 57343 < r) :
    Calls Tryz.prog 131 #[.int .i32 (r : Int)] w fun e w' => e = .returned (.bool true) ∧ w = w' := by
  have g1 : decide ((0 : Int) ≤ (r : Int)) = true := decide_eq_true (by omega)
  by_cases h : r < 55296
  · have g6 : decide ((r : Int) < 55296) = true := decide_eq_true (by omega)
    have g7 : decide (r < 55296) = true := decide_eq_true (by omega)
    go_enter Tryz.func131, Tryz.ntmps131
    go_wp2
    go_ret
    exact ⟨rfl, rfl⟩
  · have g6 : decide ((r : Int) < 55296) = false := decide_eq_false (by omega)
    have g7 : decide (r < 55296) = false := decide_eq_false (by omega)
    have g8 : decide ((57343 : Int) < (r : Int)) = true := decide_eq_true (by omega)
    have g9 : decide (57343 < r) = true := decide_eq_true (by omega)
    have g10 : decide ((r : Int) ≤ 1114111) = true := decide_eq_true (by omega)
    have g11 : decide (r ≤ 1114111) = true := decide_eq_true (by omega)
    go_enter Tryz.func131, Tryz.ntmps131
    go_wp2
    go_ret
    exact ⟨rfl, rfl⟩

set_option maxRecDepth 100000 in
set_option maxHeartbeats 1000000 in
theorem indexRune_high (r : Nat) (w : World) (h1 : 128 ≤ r) (h2 : r ≤ 1114111) (h3 : r < 55296 ∨ 57343 < r) (h4 : r ≠ 65533) :
    Calls Tryz.prog 86 #[.string alpha, .int .i32 (r : Int)] w fun e w' => e = .returned (.int .i64 (-1)) ∧ Ext w w' := by
  have hv : Utf8.valid (r : Int) = true := by
    rw [validRune_eq]; unfold validRune; exact decide_eq_true (by omega)
  obtain ⟨f1, f2, f3⟩ := encode_facts (r : Int) hv (by omega)
  obtain ⟨rs, hrs⟩ : ∃ rs, Utf8.encode (r : Int) = rs := ⟨_, rfl⟩
  rw [hrs] at f1 f2 f3
  obtain ⟨m, hm⟩ : ∃ m, m = rs.size - 1 := ⟨_, rfl⟩
  have hmlt : m < rs.size := by omega
  have hmc := f3 (by omega)
  have hc128 : 128 ≤ (rs[m]'hmlt).toNat := by subst hm; exact hmc
  have hrsz : ((rs.size : Nat) : Int) - 1 = (m : Int) := by omega
  have hia := fun w => run_stringIndex rs m hmlt w
  obtain ⟨s, hs⟩ : ∃ s, alpha = s := ⟨_, rfl⟩
  have hsz : s.size = 39 := by rw [← hs]; rfl
  have hasc : ∀ b ∈ s.data.toList, b.toNat < 128 := by rw [← hs]; exact alpha_ascii
  have hms : m < s.size := by omega
  have hib := fun w => run_stringIndex s m hms w
  have hb : (s[m]'hms).toNat < 128 := hasc _ (Array.getElem_mem_toList (xs := s.data) hms)
  obtain ⟨c, hc⟩ : ∃ c, (rs[m]'hmlt) = c := ⟨_, rfl⟩
  obtain ⟨b, hbb⟩ : ∃ b, (s[m]'hms).toNat = b := ⟨_, rfl⟩
  rw [hc] at hia hc128
  rw [hbb] at hib hb
  have hc256 := c.toNat_lt
  have hix := hid (fun a e w' => indexByte_c (s.extract a e) (c.toNat : Int) w')
  have hno := hid (fun a e => firstIdx_ascii s a e c hasc hc128)
  have hcc : ((c.toNat : Int)).toNat.toUInt8 = c := by simp
  rw [hcc] at hix
  rw [hs]
  have HSZ := hid hsz
  have hvr := hid (fun w' => validRune_c r w' h2 h3)
  clear hs hasc hmc f3 hm hc hbb hsz h3 hv hcc
  have g1 : decide ((0 : Int) ≤ (r : Int)) = true := decide_eq_true (by omega)
  have g2 : decide ((r : Int) < 128) = false := decide_eq_false (by omega)
  have g3 : decide (r < 128) = false := decide_eq_false (by omega)
  have g4 : ((r : Int) == 65533) = false := by simp; omega
  have g5 : (r == 65533) = false := by simp [h4]
  go_enter Tryz.func86, Tryz.ntmps86
  go_wp2_with (first | (go_at_call 131; refine (hvr.out _).mono ?_; rintro e w' ⟨rfl, rfl⟩))
  go_step3
  go_wp2_with fail
  go_loopw [9] (fun x wr => x = .int .i64 (m : Int) ∧ wr = w) (fun _ _ => 0)
  case atStart => exact ⟨rfl, rfl⟩
  case round =>
    obtain ⟨rfl, rfl⟩ := hrel
    have k1 : decide ((m : Int) < (s.size : Int)) = true := decide_eq_true (by omega)
    have k2 : decide (m < s.size) = true := decide_eq_true hms
    have k3 : ((b : Int) != (c.toNat : Int)) = true := by simp; omega
    have k4 : (b != c.toNat) = true := by simp; omega
    go_wp2_with fail
    go_step3
    go_wp2_with fail
    obtain ⟨C, hC⟩ : ∃ C : World → Prop, C = fun w' => Ext wr w' := ⟨_, rfl⟩
    have hC0 : ∀ w', C w' ↔ Ext wr w' := fun w' => by rw [hC]
    clear hC
    have HCC := hid hC0
    clear hC0
    have hCx : ∀ w w', C w → Ext w w' → C w' := fun w w' h1 h2 => (HCC.out w').2 (((HCC.out w).1 h1).ext h2)
    refine wp_region_held_drew (S := C) (by kernel_rfl) ((HCC.out _).2 (Ext.refl wr).drew) (fun hS0 => ?_)
    refine held_take 0 (v := ?tv1) rfl (by kernel_rfl) (by kernel_rfl) (by kernel_rfl) (fun _ _ _ h => h) (.inl ⟨rfl, ?ty1⟩) hS0 ?tr1
    case ty1 => (intro _ _; go_simp; try with_reducible rfl)
    case tr1 =>
    simp only [Act.put, List.setIfInBounds_toArray, List.set_cons_succ, List.set_cons_zero]
    refine held_take 1 (v := ?tv2) rfl (by kernel_rfl) (by kernel_rfl) (by kernel_rfl) (fun _ _ _ h => h) (.inl ⟨rfl, ?ty2⟩) hS0 ?tr2
    case ty2 => (intro _ _; go_simp; try with_reducible rfl)
    case tr2 =>
    simp only [Act.put, List.setIfInBounds_toArray, List.set_cons_succ, List.set_cons_zero]
    refine held_take 2 (v := _) rfl (by kernel_rfl) (by kernel_rfl) (by kernel_rfl) (fun _ _ _ h => h) (yieldsI_run rfl (fun w1 _ => exec_strAt rfl rfl rfl hib w1)) hS0 ?_
    simp only [Act.put, List.setIfInBounds_toArray, List.set_cons_succ, List.set_cons_zero]
    refine held_take 3 (v := ?tv3) rfl (by kernel_rfl) (by kernel_rfl) (by kernel_rfl) (fun _ _ _ h => h) (.inl ⟨rfl, ?ty3⟩) hS0 ?tr3
    case ty3 => (intro _ _; go_simp; try with_reducible rfl)
    case tr3 =>
    simp only [Act.put, List.setIfInBounds_toArray, List.set_cons_succ, List.set_cons_zero]
    refine held_take 4 (v := ?tv4) rfl (by kernel_rfl) (by kernel_rfl) (by kernel_rfl) (fun _ _ _ h => h) (.inl ⟨rfl, ?ty4⟩) hS0 ?tr4
    case ty4 => (intro _ _; go_simp; try with_reducible rfl)
    case tr4 =>
    simp only [Act.put, List.setIfInBounds_toArray, List.set_cons_succ, List.set_cons_zero]
    refine held_take 5 (v := _) rfl (by kernel_rfl) (by kernel_rfl) (by kernel_rfl) (fun _ _ _ h => h) (yieldsI_run rfl (fun w1 _ => exec_strAt rfl rfl rfl hia w1)) hS0 ?_
    simp only [Act.put, List.setIfInBounds_toArray, List.set_cons_succ, List.set_cons_zero]
    refine held_take 6 (v := ?tv5) rfl (by kernel_rfl) (by kernel_rfl) (by kernel_rfl) (fun _ _ _ h => h) (.inl ⟨rfl, ?ty5⟩) hS0 ?tr5
    case ty5 => (intro _ _; go_simp; try with_reducible rfl)
    case tr5 =>
    simp only [Act.put, List.setIfInBounds_toArray, List.set_cons_succ, List.set_cons_zero]
    have eD : Ext wr wr.drew := (Ext.refl wr).drew
    generalize wr.drew = wD at *
    refine wpAnyH_done (by kernel_rfl) ?_ _
    clear hS0 hCx HCC C
    go_wp2_with fail
    obtain ⟨C, hC⟩ : ∃ C : World → Prop, C = fun w' => Ext wD w' := ⟨_, rfl⟩
    have hC0 : ∀ w', C w' ↔ Ext wD w' := fun w' => by rw [hC]
    clear hC
    have HCC := hid hC0
    clear hC0
    have hCx : ∀ w w', C w → Ext w w' → C w' := fun w w' h1 h2 => (HCC.out w').2 (((HCC.out w).1 h1).ext h2)
    refine wp_region_held_drew (S := C) (by kernel_rfl) ((HCC.out _).2 (Ext.refl wD).drew) (fun hS0 => ?_)
    have hw1 : IntKind.i64.wrap ((m : Int) + 1) = ((m + 1 : Nat) : Int) := by rw [IntWalk.i64_in _ (by omega)]; omega
    have hm1 : m + 1 ≤ s.size := by omega
    generalize m + 1 = m1 at *
    refine held_take 0 (v := ?tv6) rfl (by kernel_rfl) (by kernel_rfl) (by kernel_rfl) (fun _ _ _ h => h) (.inl ⟨rfl, ?ty6⟩) hS0 ?tr6
    case ty6 => (intro _ _; go_simp; try with_reducible rfl)
    case tr6 =>
    simp only [Act.put, List.setIfInBounds_toArray, List.set_cons_succ, List.set_cons_zero]
    refine held_take 1 (v := ?tv7) rfl (by kernel_rfl) (by kernel_rfl) (by kernel_rfl) (fun _ _ _ h => h) (.inl ⟨rfl, ?ty7⟩) hS0 ?tr7
    case ty7 => (intro _ _; go_simp; try with_reducible rfl)
    case tr7 =>
    simp only [Act.put, List.setIfInBounds_toArray, List.set_cons_succ, List.set_cons_zero]
    refine held_take 2 (v := ?tv8) rfl (by kernel_rfl) (by kernel_rfl) (by kernel_rfl) (fun _ _ _ h => h) (.inl ⟨rfl, ?ty8⟩) hS0 ?tr8
    case ty8 => (intro _ _; go_simp; try with_reducible rfl)
    case tr8 =>
    simp only [Act.put, List.setIfInBounds_toArray, List.set_cons_succ, List.set_cons_zero]
    refine held_take 3 (v := _) rfl (by kernel_rfl) (by kernel_rfl) (by kernel_rfl) (fun _ _ _ h => h) (yieldsI_run rfl (fun w1 _ => exec_strFrom (i := m1) rfl rfl rfl hm1 w1)) hS0 ?_
    simp only [Act.put, List.setIfInBounds_toArray, List.set_cons_succ, List.set_cons_zero]
    refine held_take 4 (v := ?tv9) rfl (by kernel_rfl) (by kernel_rfl) (by kernel_rfl) (fun _ _ _ h => h) (.inl ⟨rfl, ?ty9⟩) hS0 ?tr9
    case ty9 => (intro _ _; go_simp; try with_reducible rfl)
    case tr9 =>
    simp only [Act.put, List.setIfInBounds_toArray, List.set_cons_succ, List.set_cons_zero]
    refine held_take 5 (v := ?tv10) rfl (by kernel_rfl) (by kernel_rfl) (by kernel_rfl) (fun _ _ _ h => h) (.inl ⟨rfl, ?ty10⟩) hS0 ?tr10
    case ty10 => (intro _ _; go_simp; try with_reducible rfl)
    case tr10 =>
    simp only [Act.put, List.setIfInBounds_toArray, List.set_cons_succ, List.set_cons_zero]
    refine held_take 6 (v := _) rfl (by kernel_rfl) (by kernel_rfl) (by kernel_rfl) (fun _ _ _ h => h) (yieldsI_run rfl (fun w1 _ => exec_strAt rfl rfl rfl hia w1)) hS0 ?_
    simp only [Act.put, List.setIfInBounds_toArray, List.set_cons_succ, List.set_cons_zero]
    clear hw1
    generalize wD.drew = wE at *
    refine held_one (i := 7) (by kernel_rfl) rfl ?_
    intro Q' hQ
    go_wp2_with fail
    refine (hix.out m1 s.size _).mono ?_
    rintro e wF ⟨rfl, rfl⟩
    go_wp2_with fail
    refine hQ _ _ hS0 ?_
    clear hQ Q'
    try dsimp only
    try simp only [Act.put, List.setIfInBounds_toArray, List.set_cons_succ, List.set_cons_zero]
    rw [hno.out]
    refine held_take 8 (v := ?tv11) rfl (by kernel_rfl) (by kernel_rfl) (by kernel_rfl) (fun _ _ _ h => h) (.inl ⟨rfl, ?ty11⟩) hS0 ?tr11
    case ty11 => (intro _ _; go_simp; try with_reducible rfl)
    case tr11 =>
    simp only [Act.put, List.setIfInBounds_toArray, List.set_cons_succ, List.set_cons_zero]
    refine wpAnyH_done (by kernel_rfl) ?_ _
    have EE := hid (eD.ext ((HCC.out _).1 hS0))
    clear hS0 hCx HCC C
    go_wp2_with fail
    rw [Exit.noGoto_ret]
    go_wp2_with fail
    rw [Exit.noGoto_ret]
    go_ret
    exact ⟨rfl, EE.out⟩
end

section
open Go Go.RowKit

theorem nameOct_high {c : UInt8} (h : 128 ≤ c.toNat) : nameOct c = false := by
  unfold nameOct
  simp
  omega
theorem runeOk_low {r : Nat} (h : r < 128) : runeOk r = nameOct (UInt8.ofNat r) := by
  unfold runeOk
  rw [decide_eq_true h, Bool.true_and]
theorem runeOk_high {r : Nat} (h : 128 ≤ r) : runeOk r = false := by
  unfold runeOk
  rw [decide_eq_false (by omega), Bool.false_and]
theorem runeOk_oct (c : UInt8) (h : c.toNat < 128) : runeOk c.toNat = nameOct c := by
  rw [runeOk_low h, UInt8.ofNat_toNat]

set_option maxRecDepth 100000 in
set_option maxHeartbeats 1000000 in
theorem indexRune_c (r : Nat) (w : World) (h : r ≤ 1114111) :
    Calls Tryz.prog 86 #[.string alpha, .int .i32 (r : Int)] w fun e w' => ∃ z : Int, e = .returned (.int .i64 z) ∧ decide (0 ≤ z) = runeOk r ∧ Ext w w' := by
  by_cases h1 : r < 128
  · refine (indexRune_low r w h1).mono ?_
    rintro e w' ⟨rfl, rfl⟩
    refine ⟨_, rfl, ?_, Ext.refl _⟩
    rw [firstIdx_nonneg, runeOk_low h1]
    have := alpha_any ⟨r, by omega⟩
    exact this
  · by_cases h2 : r = 65533
    · subst h2
      refine (indexRune_err w).mono ?_
      rintro e w' ⟨rfl, e1⟩
      exact ⟨_, rfl, by rw [runeOk_high (by omega)]; rfl, e1⟩
    · by_cases h3 : 55296 ≤ r ∧ r ≤ 57343
      · refine (indexRune_bad r w h3.1 h3.2).mono ?_
        rintro e w' ⟨rfl, rfl⟩
        exact ⟨_, rfl, by rw [runeOk_high (by omega)]; rfl, Ext.refl _⟩
      · refine (indexRune_high r w (by omega) h (by omega) h2).mono ?_
        rintro e w' ⟨rfl, e1⟩
        exact ⟨_, rfl, by rw [runeOk_high (by omega)]; rfl, e1⟩

set_option maxRecDepth 100000 in
set_option maxHeartbeats 1000000 in
theorem containsRune_c (r : Nat) (w : World) (h : r ≤ 1114111) :
    Calls Tryz.prog 64 #[.string alpha, .int .i32 (r : Int)] w fun e w' => e = .returned (.bool (runeOk r)) ∧ Ext w w' := by
  have hi := hid (fun w' => indexRune_c r w' h)
  generalize runeOk r = R at *
  generalize alpha = s at *
  go_enter Tryz.func64, Tryz.ntmps64
  go_wp2_with fail
  refine (hi.out w).mono ?_
  rintro e w1 ⟨z, rfl, hz, e1⟩
  have E1 := hid e1
  clear e1 hi
  go_wp2_with fail
  go_ret
  exact ⟨by first | rfl | rw [hz], E1.out⟩

set_option maxRecDepth 100000 in
set_option maxHeartbeats 1000000 in
theorem notName_rune (r : Nat) (w : World) (h : r ≤ 1114111) :
    Calls Tryz.prog 63 #[.int .i32 (r : Int)] w fun e w' => e = .returned (.bool (!runeOk r)) ∧ Ext w w' := by
  have hi := hid (fun w' => containsRune_c r w' h)
  generalize runeOk r = R at *
  go_enter Tryz.func63, Tryz.ntmps63
  go_wp2_with fail
  refine (hi.out w).mono ?_
  rintro e w1 ⟨rfl, e1⟩
  have E1 := hid e1
  clear e1 hi
  go_wp2_with fail
  go_ret
  exact ⟨rfl, E1.out⟩

def predV : Value := .func (.func 63) #[] #[]

set_option maxRecDepth 100000 in
set_option maxHeartbeats 2000000 in
theorem indexFunc_c (s : ByteArray) (w : World) :
    Calls Tryz.prog 129 #[.string s, predV, .bool true] w fun e w' => ∃ z : Int, e = .returned (.int .i64 z) ∧ decide (0 ≤ z) = !(s.data.toList.all nameOct) ∧ Ext w w' := by
  obtain ⟨N, hN⟩ : ∃ N, s.size = N := ⟨_, rfl⟩
  have hll : s.data.toList.length = N := by rw [← hN, Array.length_toList]; rfl
  have HLL := hid hll
  have HN := hid hN
  clear hll hN
  unfold predV
  go_enter Tryz.func129, Tryz.ntmps129
  go_wp2
  go_loopg [] N (fun gf wx => ∃ pos : Nat, wx.heap[w.heap.size]? = some (.stringIter s pos) ∧ Below w.heap.size w wx ∧ Hid ((s.data.toList.take pos).all nameOct = true) ∧ N ≤ pos + gf)
  case atStart => exact ⟨0, World.iter_heap w s 0, (Below.refl _ w).alloc (Nat.le_refl _) _, hid (by simp), by omega⟩
  case round =>
    obtain ⟨pos, hit, hbw, hall, hfu⟩ := hrel
    by_cases hps : pos < s.size
    · have hpN : pos < N := by rw [← HN.out]; exact hps
      obtain ⟨g', rfl⟩ : ∃ g', gk = g' + 1 := ⟨gk - 1, by omega⟩
      have hnx : ∀ ty, (Instr.next (.pointer (some ⟨w.heap.size, 0, none⟩)) true ty).run Tryz.prog wr = _ := fun ty => Lib.run_next_any_at wr w.heap.size s pos ty hit hps
      have hrl := Lib.rune_le s pos
      have hc : s.data.toList[pos]? = some (s[pos]'hps) := by rw [Array.getElem?_toList]; exact Array.getElem?_eq_getElem hps
      obtain ⟨R, hR⟩ : ∃ R, (Utf8.decode s pos).1 = R := ⟨_, rfl⟩
      obtain ⟨K, hK⟩ : ∃ K, (Utf8.decode s pos).2 = K := ⟨_, rfl⟩
      have hok : runeOk R = nameOct (s[pos]'hps) ∧ (nameOct (s[pos]'hps) = true → K = 1) := by
        by_cases hb : (s[pos]'hps).toNat < 128
        · have hdec := decode_ascii s pos hps hb
          rw [hdec] at hR hK
          simp only at hR hK
          rw [← hR]
          exact ⟨runeOk_oct _ hb, fun _ => hK.symm⟩
        · have hh := (decode_high s pos hps (by omega)).1
          rw [hR] at hh
          refine ⟨by rw [runeOk_high hh, nameOct_high (by omega)], fun h => ?_⟩
          rw [nameOct_high (by omega)] at h; cases h
      rw [hR] at hnx hrl
      rw [hK] at hnx
      obtain ⟨b, hb⟩ : ∃ b, (s[pos]'hps) = b := ⟨_, rfl⟩
      rw [hb] at hok hc
      obtain ⟨hok1, hok2⟩ := hok
      have hit2 := Lib.iterAt_heap wr w.heap.size s pos (pos + K) hit
      have hbw2 := Lib.below_iterAt hbw (k := w.heap.size) (Nat.le_refl _) s (pos + K)
      have HIT := hid hit2
      have HBW := hid hbw2
      have hcl := hid (fun w' => notName_rune R w' hrl)
      have HC := hid hc
      generalize wr.iterAt w.heap.size s (pos + K) = wX at *
      have hgt : w.heap.size < wX.heap.size := (Array.getElem?_eq_some_iff.1 HIT.out).1
      cases hnm : nameOct b with
      | true =>
        rw [hnm] at hok1
        have hK1 := hok2 hnm
        subst hK1
        rw [hok1] at hcl
        have hst : (s.data.toList.take (pos + 1)).all nameOct = true := by
          rw [List.take_add_one, HC.out, List.all_append, hall.out]; simp [hnm]
        have HST := hid hst
        clear hit hbw hit2 hbw2 hR hK hok1 hok2 hc hst hb hrl
        go_wp2_with fail
        refine (hcl.out wX).mono ?_
        rintro e wY ⟨rfl, eY⟩
        have hit3 : wY.heap[w.heap.size]? = some (.stringIter s (pos + 1)) := by rw [eY.block _ hgt]; exact HIT.out
        have HIT3 := hid hit3
        have HBW3 := hid (HBW.out.trans (eY.mono HBW.out.size))
        clear eY hit3 hcl
        go_wp2_with fail
        go_roundg g'
        case measure => omega
        case rel => exact ⟨pos + 1, HIT3.out, HBW3.out, HST, by omega⟩
      | false =>
        rw [hnm] at hok1
        rw [hok1] at hcl
        have hbad : s.data.toList.all nameOct = false := by
          rw [List.all_eq_false]
          exact ⟨b, List.mem_of_getElem? HC.out, by rw [hnm]; simp⟩
        have HBAD := hid hbad
        clear hit hbw hit2 hbw2 hR hK hok1 hok2 hc hbad hb hrl
        go_wp2_with fail
        refine (hcl.out wX).mono ?_
        rintro e wY ⟨rfl, eY⟩
        have HBW3 := hid (HBW.out.trans (eY.mono HBW.out.size))
        clear eY hcl
        go_wp2_with fail
        go_ret
        exact ⟨_, rfl, by rw [HBAD.out]; exact decide_eq_true (by omega), HBW3.out⟩
    · have hnx : ∀ ty, (Instr.next (.pointer (some ⟨w.heap.size, 0, none⟩)) true ty).run Tryz.prog wr = _ := fun ty => Lib.run_next_end_at wr w.heap.size s pos ty hit hps
      have hfull : s.data.toList.take pos = s.data.toList := List.take_of_length_le (by rw [HLL.out]; have := HN.out; omega)
      have hall2 := hall.out
      rw [hfull] at hall2
      have HALL := hid hall2
      have HBW := hid hbw
      clear hit hbw hall hall2 hfull
      go_wp2_with fail
      go_ret
      exact ⟨_, rfl, by rw [HALL.out]; rfl, HBW.out⟩
end

section
open Go Go.RowKit

set_option maxRecDepth 100000 in
set_option maxHeartbeats 1000000 in
theorem containsFunc_c (s : ByteArray) (w : World) :
    Calls Tryz.prog 62 #[.string s, predV] w fun e w' => e = .returned (.bool (!(s.data.toList.all nameOct))) ∧ Ext w w' := by
  have hi := hid (fun w' => indexFunc_c s w')
  generalize s.data.toList.all nameOct = b at *
  generalize predV = pv at *
  have hj : Hid (∀ w, Calls Tryz.prog 85 #[.string s, pv] w fun e w' => ∃ z : Int, e = .returned (.int .i64 z) ∧ decide (0 ≤ z) = (!b) ∧ Ext w w') := by
    refine hid fun w => ?_
    go_enter Tryz.func85, Tryz.ntmps85
    go_wp2_with fail
    refine (hi.out w).mono ?_
    rintro e w1 ⟨z, rfl, hz, e1⟩
    have E1 := hid e1
    have HZ := hid hz
    clear e1 hi hz
    go_wp2_with fail
    go_ret
    exact ⟨z, rfl, HZ.out, E1.out⟩
  clear hi
  go_enter Tryz.func62, Tryz.ntmps62
  go_wp2_with fail
  refine (hj.out w).mono ?_
  rintro e w1 ⟨z, rfl, hz, e1⟩
  have E1 := hid e1
  clear e1 hj
  go_wp2_with fail
  go_ret
  exact ⟨by first | rfl | rw [hz], E1.out⟩

set_option maxRecDepth 100000 in
set_option maxHeartbeats 1000000 in
theorem risName_c (s : ByteArray) (w : World) (hn : s.size ≤ 9223372036854775807) :
    Calls Tryz.prog 28 #[.string s] w fun e w' => e = .returned (.bool (isNameL s.data.toList)) ∧ Ext w w' := by
  have hc := hid (fun w' => containsFunc_c s w')
  obtain ⟨n, hsn⟩ : ∃ n, s.size = n := ⟨_, rfl⟩
  have hll : s.data.toList.length = n := by rw [← hsn, Array.length_toList]; rfl
  obtain ⟨R, hR⟩ : ∃ R, isNameL s.data.toList = R := ⟨_, rfl⟩
  rw [hR]
  unfold isNameL at hR
  have hem : s.data.toList.isEmpty = decide (n = 0) := by
    rw [Bool.eq_iff_iff, List.isEmpty_iff, decide_eq_true_eq, ← hll, List.length_eq_zero_iff]
  have hse : s = ByteArray.empty ↔ n = 0 := by
    constructor
    · rintro rfl; rw [← hsn]; rfl
    · intro h
      have : s.data.toList = [] := List.length_eq_zero_iff.1 (by rw [hll]; exact h)
      cases s with
      | mk d => cases d with
        | mk l => simp at this; subst this; rfl
  rw [hem, hll] at hR
  generalize s.data.toList.all nameOct = b at *
  by_cases h0 : n = 0
  · have hs := hse.2 h0
    subst hs
    subst h0
    simp at hR
    subst hR
    clear hc hse hem hll hsn
    go_enter Tryz.func28, Tryz.ntmps28
    go_wp2
    go_ret
    exact ⟨rfl, Ext.refl _⟩
  · have hsne : ¬ s = ByteArray.empty := fun h => h0 (hse.1 h)
    have hne1 : s.toList.isEmpty = false := by
      have := decide_eq_emptyBytes s
      rw [decide_eq_false hsne] at this
      exact this.symm
    have hne2 : ¬ s.toList = [] := by
      intro h
      rw [h] at hne1
      cases hne1
    rw [decide_eq_false h0] at hR
    by_cases h32 : n ≤ 32
    · have g1 : decide ((n : Int) ≤ 32) = true := decide_eq_true (by omega)
      have g2 : decide (n ≤ 32) = true := decide_eq_true h32
      rw [g2] at hR
      simp at hR
      subst hR
      clear hse hem hll
      unfold predV at hc
      go_enter Tryz.func28, Tryz.ntmps28
      go_wp2_with fail
      refine (hc.out w).mono ?_
      rintro e w1 ⟨rfl, e1⟩
      have E1 := hid e1
      clear e1 hc
      go_wp2_with fail
      go_ret
      exact ⟨by first | rfl | simp, E1.out⟩
    · have g1 : decide ((n : Int) ≤ 32) = false := decide_eq_false (by omega)
      have g2 : decide (n ≤ 32) = false := decide_eq_false h32
      rw [g2] at hR
      simp at hR
      subst hR
      clear hc hse hem hll
      go_enter Tryz.func28, Tryz.ntmps28
      go_wp2
      go_ret
      exact ⟨rfl, Ext.refl _⟩
end

section
open Go Go.RowKit

/-- the head of a pattern, and whether a star ends it -/
def headL (l : List UInt8) : List UInt8 := Lib.trimSuffix l [42]
def starL (l : List UInt8) : Bool := Lib.hasSuffix l [42]
def patL (l : List UInt8) : Bool := isNameL (headL l) || (starL l && (headL l).isEmpty)
def fitsL (p l : List UInt8) : Bool := if starL p then Lib.hasPrefix l (headL p) else p == l

theorem notName_p (s : ByteArray) (w : World) (hn : s.size ≤ 140737488355328) :
    Calls Tryz.prog 114 #[.string s] w fun e w' => e = .returned (.bool (!isNameL s.data.toList)) ∧ w = w' := by
  have hc := hid (fun w' => isName_c s w' hn)
  generalize isNameL s.data.toList = b at *
  clear hn
  go_enter Tryz.func114, Tryz.ntmps114
  go_wp2_with fail
  refine (hc.out w).mono ?_
  rintro e w1 ⟨rfl, rfl⟩
  go_wp2_with fail
  go_ret
  exact ⟨rfl, rfl⟩

set_option maxRecDepth 100000 in
set_option maxHeartbeats 1000000 in
theorem fits_p (p s : ByteArray) (w : World) (hp : p.size ≤ 140737488355328) :
    Calls Tryz.prog 109 #[.string p, .string s] w fun e w' => e = .returned (.bool (fitsL p.data.toList s.data.toList)) ∧ w = w' := by
  have hcut := hid (fun w' => cutSuffix_c p ⟨#[42]⟩ w' (by omega))
  have hpre := hid (fun w' => hasPrefix_c s ⟨(headL p.data.toList).toArray⟩ w')
  obtain ⟨H, hH⟩ : ∃ H : ByteArray, (⟨(headL p.data.toList).toArray⟩ : ByteArray) = H := ⟨_, rfl⟩
  rw [hH] at hpre
  have hH2 : H = ⟨(Lib.trimSuffix p.data.toList [42]).toArray⟩ := hH.symm
  have hcut2 : Hid (∀ w', Calls Tryz.prog 27 #[.string p, .string ⟨#[42]⟩] w' fun e w'' => e = .returned (.tuple #[.string H, .bool (starL p.data.toList)]) ∧ w'' = w') := by
    rw [hH2]; exact hcut
  clear hcut
  unfold fitsL
  cases hst : starL p.data.toList with
  | true =>
    rw [hst] at hcut2
    have hh : headL p.data.toList = H.data.toList := by rw [← hH]
    rw [if_pos rfl, hh]
    clear hH hH2 hh hst hp
    generalize Lib.hasPrefix s.data.toList H.data.toList = b at *
    go_enter Tryz.func109, Tryz.ntmps109
    go_wp2_with fail
    refine (hcut2.out w).mono ?_
    rintro e w1 ⟨rfl, rfl⟩
    go_wp2_with fail
    refine (hpre.out _).mono ?_
    rintro e w1 ⟨rfl, rfl⟩
    go_wp2_with fail
    go_ret
    exact ⟨rfl, rfl⟩
  | false =>
    rw [hst] at hcut2
    rw [if_neg (by simp)]
    clear hH hH2 hst hp hpre
    go_enter Tryz.func109, Tryz.ntmps109
    go_wp2_with fail
    refine (hcut2.out w).mono ?_
    rintro e w1 ⟨rfl, rfl⟩
    go_wp2_with fail
    go_ret
    exact ⟨by rw [Lib.toList_data, Lib.toList_data]; rfl, rfl⟩

set_option maxRecDepth 100000 in
set_option maxHeartbeats 1000000 in
theorem rfits_c (p s : ByteArray) (w : World) (hp : p.size ≤ 140737488355328) :
    Calls Tryz.prog 73 #[.string p, .string s] w fun e w' => e = .returned (.bool (fitsL p.data.toList s.data.toList)) ∧ w = w' := by
  have hcut := hid (fun w' => cutSuffix_c p ⟨#[42]⟩ w' (by omega))
  have hpre := hid (fun w' => hasPrefix_c s ⟨(headL p.data.toList).toArray⟩ w')
  obtain ⟨H, hH⟩ : ∃ H : ByteArray, (⟨(headL p.data.toList).toArray⟩ : ByteArray) = H := ⟨_, rfl⟩
  rw [hH] at hpre
  have hH2 : H = ⟨(Lib.trimSuffix p.data.toList [42]).toArray⟩ := hH.symm
  have hcut2 : Hid (∀ w', Calls Tryz.prog 27 #[.string p, .string ⟨#[42]⟩] w' fun e w'' => e = .returned (.tuple #[.string H, .bool (starL p.data.toList)]) ∧ w'' = w') := by
    rw [hH2]; exact hcut
  clear hcut
  unfold fitsL
  cases hst : starL p.data.toList with
  | true =>
    rw [hst] at hcut2
    have hh : headL p.data.toList = H.data.toList := by rw [← hH]
    rw [if_pos rfl, hh]
    clear hH hH2 hh hst hp
    generalize Lib.hasPrefix s.data.toList H.data.toList = b at *
    go_enter Tryz.func73, Tryz.ntmps73
    go_wp2_with fail
    refine (hcut2.out w).mono ?_
    rintro e w1 ⟨rfl, rfl⟩
    go_wp2_with fail
    refine (hpre.out _).mono ?_
    rintro e w1 ⟨rfl, rfl⟩
    go_wp2_with fail
    go_ret
    exact ⟨rfl, rfl⟩
  | false =>
    rw [hst] at hcut2
    rw [if_neg (by simp)]
    clear hH hH2 hst hp hpre
    go_enter Tryz.func73, Tryz.ntmps73
    go_wp2_with fail
    refine (hcut2.out w).mono ?_
    rintro e w1 ⟨rfl, rfl⟩
    go_wp2_with fail
    go_ret
    exact ⟨by rw [Lib.toList_data, Lib.toList_data]; rfl, rfl⟩

theorem trim_size (s : ByteArray) : (⟨(headL s.data.toList).toArray⟩ : ByteArray).size ≤ s.size := by
  show (headL s.data.toList).toArray.size ≤ s.size
  rw [List.size_toArray, Lib.size_eq]
  unfold headL Lib.trimSuffix
  split
  · rw [List.length_take]; omega
  · exact Nat.le_refl _
theorem empty_toList (H : ByteArray) : H.toList.isEmpty = H.data.toList.isEmpty := by rw [Lib.toList_data]

set_option maxRecDepth 100000 in
set_option maxHeartbeats 1000000 in
theorem isPattern_c (s : ByteArray) (w : World) (hn : s.size ≤ 140737488355328) :
    Calls Tryz.prog 118 #[.string s] w fun e w' => e = .returned (.bool (patL s.data.toList)) ∧ w = w' := by
  have hcut := hid (fun w' => cutSuffix_c s ⟨#[42]⟩ w' (by omega))
  have hts := trim_size s
  obtain ⟨H, hH⟩ : ∃ H : ByteArray, (⟨(headL s.data.toList).toArray⟩ : ByteArray) = H := ⟨_, rfl⟩
  have hH2 : H = ⟨(Lib.trimSuffix s.data.toList [42]).toArray⟩ := hH.symm
  have hcut2 : Hid (∀ w', Calls Tryz.prog 27 #[.string s, .string ⟨#[42]⟩] w' fun e w'' => e = .returned (.tuple #[.string H, .bool (starL s.data.toList)]) ∧ w'' = w') := by
    rw [hH2]; exact hcut
  rw [hH] at hts
  have hnm := hid (fun w' => isName_c H w' (by omega))
  have hh : headL s.data.toList = H.data.toList := by rw [← hH]
  unfold patL
  rw [hh]
  have HEM := hid (empty_toList H)
  clear hcut hH hH2 hh hts hn
  generalize starL s.data.toList = st at *
  generalize isNameL H.data.toList = nm at *
  cases nm with
  | true =>
    go_enter Tryz.func118, Tryz.ntmps118
    go_wp2_with fail
    refine (hcut2.out w).mono ?_
    rintro e w1 ⟨rfl, rfl⟩
    go_wp2_with fail
    refine (hnm.out _).mono ?_
    rintro e w2 ⟨rfl, rfl⟩
    go_wp2_with fail
    go_ret
    exact ⟨rfl, rfl⟩
  | false =>
    cases st with
    | false =>
      go_enter Tryz.func118, Tryz.ntmps118
      go_wp2_with fail
      refine (hcut2.out w).mono ?_
      rintro e w1 ⟨rfl, rfl⟩
      go_wp2_with fail
      refine (hnm.out _).mono ?_
      rintro e w2 ⟨rfl, rfl⟩
      go_wp2_with fail
      go_ret
      exact ⟨rfl, rfl⟩
    | true =>
      go_enter Tryz.func118, Tryz.ntmps118
      go_wp2_with fail
      refine (hcut2.out w).mono ?_
      rintro e w1 ⟨rfl, rfl⟩
      go_wp2_with fail
      refine (hnm.out _).mono ?_
      rintro e w2 ⟨rfl, rfl⟩
      go_wp2_with fail
      go_ret
      exact ⟨by show Ending.returned (Value.bool H.toList.isEmpty) = Ending.returned (Value.bool H.data.toList.isEmpty); rw [HEM.out], rfl⟩

/-- the law's own test of a pattern -/
def pat2L (l : List UInt8) : Bool := l == [42] || (isNameL (headL l) && decide (Lib.countByte l 42 ≤ 1))

theorem mem_name {l : List UInt8} (h : isNameL l = true) : ∀ c ∈ l, nameOct c = true := by
  unfold isNameL at h
  simp only [Bool.and_eq_true] at h
  exact List.all_eq_true.1 h.1.1
theorem count_name {l : List UInt8} (h : isNameL l = true) : l.count 42 = 0 := by
  rw [List.count_eq_zero]
  intro hm
  have := mem_name h 42 hm
  revert this
  decide

/-- the two tests of a pattern are one -/
theorem pat_eq (l : List UInt8) : pat2L l = patL l := by
  cases hs : Lib.hasSuffix l [42] with
  | false =>
    have hh : headL l = l := by unfold headL Lib.trimSuffix; rw [if_neg (by rw [hs]; simp)]
    have h0 : (l == [42]) = false := by
      cases h : l == [42] with
      | false => rfl
      | true => rw [beq_iff_eq.1 h] at hs; revert hs; decide
    unfold pat2L patL starL Lib.countByte
    rw [hh, h0, hs]
    cases hn : isNameL l with
    | false => rfl
    | true => rw [count_name hn]; rfl
  | true =>
    obtain ⟨t, ht⟩ : ∃ t, t ++ [42] = l := List.isSuffixOf_iff_suffix.1 hs
    have hh : headL l = t := by unfold headL Lib.trimSuffix; rw [if_pos hs, ← ht]; simp
    unfold pat2L patL starL Lib.countByte
    rw [hh, hs, ← ht]
    cases htn : t.isEmpty with
    | true =>
      rw [List.isEmpty_iff] at htn
      subst htn
      decide
    | false =>
      have h0 : (t ++ [42] == [42]) = false := by
        cases t with
        | nil => simp at htn
        | cons a t => cases t <;> simp
      rw [h0]
      cases hn : isNameL t with
      | false => rfl
      | true => rw [List.count_append, count_name hn]; rfl
end

section
open Go Go.RowKit

theorem enters_ofU {P : Program} {f : FuncId} {fn : Func} {c : Code} (hf : P.funcs[f]? = some fn) (hname : (fn.name == "runtime.NumGoroutine") = false) (hb : fn.body = some c) : ∀ args w, (callFunc f args).run P w = .ok (.enter f args) w := by
  intro args w
  have h1 : fn.name ≠ "runtime.NumGoroutine" := by simpa using hname
  simp [callFunc, hf, h1, hb, mark]

theorem outsideP_c (n a b : Int) (w : World) :
    Calls Tryz.prog 121 #[.int .i64 n, .int .i64 a, .int .i64 b] w fun e w' => e = .returned (.bool (decide (n < a) || decide (b < n))) ∧ w = w' := by
  by_cases h : n < a
  · have d1 : decide (n < a) = true := decide_eq_true h
    go_enter Tryz.func121, Tryz.ntmps121
    go_wp2
    go_ret
    exact ⟨by first | rfl | (rw [d1]; rfl), rfl⟩
  · have d1 : decide (n < a) = false := decide_eq_false h
    go_enter Tryz.func121, Tryz.ntmps121
    go_wp2
    go_ret
    exact ⟨by first | rfl | (rw [d1]; rfl), rfl⟩
def actB (n : Int) : Bool := decide (1 ≤ n) && decide (n ≤ 12)
theorem isAct_c (n : Int) (w : World) :
    Calls Tryz.prog 116 #[.int .i64 n] w fun e w' => e = .returned (.bool (actB n)) ∧ w = w' := by
  unfold actB
  by_cases h : 1 ≤ n
  · have d1 : decide (1 ≤ n) = true := decide_eq_true h
    go_enter Tryz.func116, Tryz.ntmps116
    go_wp2
    go_ret
    exact ⟨by first | rfl | (rw [d1]; rfl), rfl⟩
  · have d1 : decide (1 ≤ n) = false := decide_eq_false h
    go_enter Tryz.func116, Tryz.ntmps116
    go_wp2
    go_ret
    exact ⟨by first | rfl | (rw [d1]; rfl), rfl⟩
theorem fault1_c (n : Int) (w : World) :
    Calls Tryz.prog 115 #[.int .i64 n] w fun e w' => e = .returned (.bool (!actB n)) ∧ w = w' := by
  have h := hid (isAct_c n w)
  generalize actB n = b at *
  go_enter Tryz.func115, Tryz.ntmps115
  go_wp2_with fail
  refine h.out.mono ?_
  rintro e w1 ⟨rfl, rfl⟩
  go_wp2_with fail
  go_ret
  exact ⟨rfl, rfl⟩
theorem fault2_c (s : ByteArray) (w : World) (hn : s.size ≤ 140737488355328) :
    Calls Tryz.prog 117 #[.string s] w fun e w' => e = .returned (.bool (!patL s.data.toList)) ∧ w = w' := by
  have h := hid (isPattern_c s w hn)
  generalize patL s.data.toList = b at *
  go_enter Tryz.func117, Tryz.ntmps117
  go_wp2_with fail
  refine h.out.mono ?_
  rintro e w1 ⟨rfl, rfl⟩
  go_wp2_with fail
  go_ret
  exact ⟨rfl, rfl⟩

theorem rule1_c (s : ByteArray) (w : World) (hn : s.size ≤ 140737488355328) :
    Calls Tryz.prog 54 #[.string s] w fun e w' => e = .returned (.bool (!isNameL s.data.toList)) ∧ Ext w w' := by
  have h := hid (risName_c s w (by omega))
  generalize isNameL s.data.toList = b at *
  go_enter Tryz.func54, Tryz.ntmps54
  go_wp2_with fail
  refine h.out.mono ?_
  rintro e w1 ⟨rfl, e1⟩
  have E1 := hid e1
  clear e1 h
  go_wp2_with fail
  go_ret
  exact ⟨rfl, E1.out⟩
theorem rule2_c (n : Int) (w : World) :
    Calls Tryz.prog 56 #[.int .i64 n] w fun e w' => e = .returned (.bool (!actB n)) ∧ w = w' := by
  by_cases h : n < 1
  · have d1 : decide (n < 1) = true := decide_eq_true h
    have hr : (!actB n) = true := by unfold actB; rw [decide_eq_false (show ¬ 1 ≤ n by omega)]; rfl
    rw [hr]
    clear hr
    go_enter Tryz.func56, Tryz.ntmps56
    go_wp2
    go_ret
    exact ⟨by first | rfl | (rw [d1]; rfl), rfl⟩
  · have d1 : decide (n < 1) = false := decide_eq_false h
    have hr : (!actB n) = decide (12 < n) := by
      unfold actB; rw [decide_eq_true (show 1 ≤ n by omega), Bool.true_and, ← decide_not]; congr 1; simp only [Int.not_le]
    rw [hr]
    clear hr
    go_enter Tryz.func56, Tryz.ntmps56
    go_wp2
    go_ret
    exact ⟨by first | rfl | (rw [d1]; rfl), rfl⟩

set_option maxRecDepth 100000 in
set_option maxHeartbeats 1000000 in
theorem rpattern_c (s : ByteArray) (w : World) (hn : s.size ≤ 140737488355328) :
    Calls Tryz.prog 58 #[.string s] w fun e w' => e = .returned (.bool (patL s.data.toList)) ∧ Ext w w' := by
  have hcut := hid (fun w' => cutSuffix_c s ⟨#[42]⟩ w' (by omega))
  have hts := trim_size s
  obtain ⟨H, hH⟩ : ∃ H : ByteArray, (⟨(headL s.data.toList).toArray⟩ : ByteArray) = H := ⟨_, rfl⟩
  have hH2 : H = ⟨(Lib.trimSuffix s.data.toList [42]).toArray⟩ := hH.symm
  have hcut2 : Hid (∀ w', Calls Tryz.prog 27 #[.string s, .string ⟨#[42]⟩] w' fun e w'' => e = .returned (.tuple #[.string H, .bool (starL s.data.toList)]) ∧ w'' = w') := by
    rw [hH2]; exact hcut
  rw [hH] at hts
  have hnm := hid (fun w' => risName_c H w' (by omega))
  have hh : headL s.data.toList = H.data.toList := by rw [← hH]
  unfold patL
  rw [hh]
  have HEM := hid (empty_toList H)
  clear hcut hH hH2 hh hts hn
  generalize starL s.data.toList = st at *
  generalize isNameL H.data.toList = nm at *
  cases nm with
  | true =>
    go_enter Tryz.func58, Tryz.ntmps58
    go_wp2_with fail
    refine (hcut2.out w).mono ?_
    rintro e w1 ⟨rfl, rfl⟩
    go_wp2_with fail
    refine (hnm.out _).mono ?_
    rintro e w2 ⟨rfl, e2⟩
    have E2 := hid e2
    clear e2
    go_wp2_with fail
    go_ret
    exact ⟨rfl, E2.out⟩
  | false =>
    cases st with
    | false =>
      go_enter Tryz.func58, Tryz.ntmps58
      go_wp2_with fail
      refine (hcut2.out w).mono ?_
      rintro e w1 ⟨rfl, rfl⟩
      go_wp2_with fail
      refine (hnm.out _).mono ?_
      rintro e w2 ⟨rfl, e2⟩
      have E2 := hid e2
      clear e2
      go_wp2_with fail
      go_ret
      exact ⟨rfl, E2.out⟩
    | true =>
      go_enter Tryz.func58, Tryz.ntmps58
      go_wp2_with fail
      refine (hcut2.out w).mono ?_
      rintro e w1 ⟨rfl, rfl⟩
      go_wp2_with fail
      refine (hnm.out _).mono ?_
      rintro e w2 ⟨rfl, e2⟩
      have E2 := hid e2
      clear e2
      go_wp2_with fail
      go_ret
      exact ⟨by show Ending.returned (Value.bool H.toList.isEmpty) = Ending.returned (Value.bool H.data.toList.isEmpty); rw [HEM.out], E2.out⟩
theorem rule3_c (s : ByteArray) (w : World) (hn : s.size ≤ 140737488355328) :
    Calls Tryz.prog 57 #[.string s] w fun e w' => e = .returned (.bool (!patL s.data.toList)) ∧ Ext w w' := by
  have h := hid (rpattern_c s w hn)
  generalize patL s.data.toList = b at *
  go_enter Tryz.func57, Tryz.ntmps57
  go_wp2_with fail
  refine h.out.mono ?_
  rintro e w1 ⟨rfl, e1⟩
  have E1 := hid e1
  clear e1 h
  go_wp2_with fail
  go_ret
  exact ⟨rfl, E1.out⟩
end

section
open Go Go.RowKit Go.Maps Go.MapKept Go.WideShapes

structure RuleR where
  deny : Bool
  ra : Option Addr
  rn : Nat
  rc : Nat
  roles : List ByteArray
  aa : Option Addr
  an : Nat
  ac : Nat
  acts : List Int
  la : Option Addr
  ln : Nat
  lc : Nat
  labels : List ByteArray
  fr : Int
  tt : Int
  nd : Int
  ow : ByteArray
def RuleR.v (r : RuleR) : List Value := [.bool r.deny, .slice r.ra r.rn r.rc, .slice r.aa r.an r.ac, .slice r.la r.ln r.lc, .int .i64 r.fr, .int .i64 r.tt, .int .i64 r.nd, .string r.ow]
structure RuleR.Ok (w : World) (r : RuleR) : Prop where
  rl : r.roles.length = r.rn
  rnc : r.rn ≤ r.rc
  rm : r.rn ≤ 140737488355328
  rcell : Cells w r.ra (r.roles.map encStr)
  rs : ∀ s ∈ r.roles, s.size ≤ 140737488355328
  al : r.acts.length = r.an
  anc : r.an ≤ r.ac
  am : r.an ≤ 140737488355328
  acell : Cells w r.aa (r.acts.map encI)
  awf : ∀ z ∈ r.acts, (Lit.int .i64 z).wf = true
  ll : r.labels.length = r.ln
  lnc : r.ln ≤ r.lc
  lm : r.ln ≤ 140737488355328
  lcell : Cells w r.la (r.labels.map encStr)
  ls : ∀ s ∈ r.labels, s.size ≤ 140737488355328
  os : r.ow.size ≤ 140737488355328
theorem RuleR.Ok.ext {w w' : World} {r : RuleR} (h : r.Ok w) (e : Ext w w') : r.Ok w' :=
  ⟨h.rl, h.rnc, h.rm, h.rcell.ext e, h.rs, h.al, h.anc, h.am, h.acell.ext e, h.awf, h.ll, h.lnc, h.lm, h.lcell.ext e, h.ls, h.os⟩
theorem RuleR.len (r : RuleR) : r.v.length = 8 := rfl
theorem keysS {ls : List ByteArray} (h : ∀ s ∈ ls, s.size ≤ 140737488355328) : Keys Tryz.prog 9 (ls.map encStr) := fun v hv => by
  obtain ⟨s, hs, rfl⟩ := List.mem_map.1 hv
  exact ⟨_, WideMaps.keyOf_string_mk Tryz.underlying9 (by have := h s hs; unfold maxLen; omega)⟩
theorem keysI {ls : List Int} (h : ∀ z ∈ ls, (Lit.int .i64 z).wf = true) : Keys Tryz.prog 3 (ls.map encI) := fun v hv => by
  obtain ⟨s, hs, rfl⟩ := List.mem_map.1 hv
  exact ⟨_, keyOf_int_mk Tryz.underlying3 (h s hs)⟩

noncomputable def dupB {α : Type} (l : List α) : Bool := @decide (¬ l.Nodup) (Classical.propDecidable _)
theorem dupB_iff {α : Type} {l : List α} : dupB l = true ↔ ¬ l.Nodup := by unfold dupB; exact @decide_eq_true_iff _ (Classical.propDecidable _)
theorem dupB_of {α : Type} {l : List α} {b : Bool} (h : b = true ↔ ¬ l.Nodup) : b = dupB l := by
  cases b with
  | true => exact (dupB_iff.2 (h.1 rfl)).symm
  | false =>
    cases hd : dupB l with
    | true => have := h.2 (dupB_iff.1 hd); cases this
    | false => rfl
def badS (s : ByteArray) : Bool := !isNameL s.data.toList
def badP (s : ByteArray) : Bool := !patL s.data.toList
def badA (z : Int) : Bool := !actB z
def emptyB (s : ByteArray) : Bool := s.toList.isEmpty
def k1 (r : RuleR) : Bool := decide ((16 : Int) < (r.rn : Int)) || decide ((16 : Int) < (r.an : Int)) || decide ((16 : Int) < (r.ln : Int))
def k2 (r : RuleR) : Bool := r.roles.any badS || (!emptyB r.ow && badS r.ow)
def k3 (r : RuleR) : Bool := r.acts.any badA
def k4 (r : RuleR) : Bool := r.labels.any badP
noncomputable def k5 (r : RuleR) : Bool := dupB r.roles || dupB r.acts || dupB r.labels
def k6 (r : RuleR) : Bool := (decide (r.fr < 0) || decide (24 < r.fr)) || (decide (r.tt < 0) || decide (24 < r.tt)) || (decide (r.fr = r.tt) && decide (r.fr ≠ 0)) || (decide (r.nd < 0) || decide (16 < r.nd))
def k7 (r : RuleR) : Bool := (decide (r.nd = 0) != emptyB r.ow) || (r.deny && decide (0 < r.nd))
noncomputable def ruleE (r : RuleR) : Int := if k1 r then 5 else if k2 r then 6 else if k3 r then 3 else if k4 r then 6 else if k5 r then 8 else if k6 r then 4 else if k7 r then 17 else 0
end

section
open Go Go.RowKit

set_option maxRecDepth 100000 in
set_option maxHeartbeats 2000000 in
theorem ruleError_c (r : RuleR) (w : World) (hr : r.Ok w) :
    Calls Tryz.prog 26 #[.agg r.v.toArray] w fun e w' => e = .returned (.int .i64 (ruleE r)) ∧ Ext w w' := by
  have hf1 := hid (fun w' (h : r.Ok w') => containsFS_c badS 54 #[] r.roles r.ra r.rn r.rc w' (enters_ofU Tryz.func54 (by kernel_rfl) rfl) h.rl (by have := h.rnc; have := h.rm; omega) h.rcell (fun y hy w2 _ => rule1_c y w2 (h.rs y hy)))
  have hf2 := hid (fun w' => risName_c r.ow w' (by have := hr.os; omega))
  have hf3 := hid (fun w' (h : r.Ok w') => containsFI_c badA 56 #[] r.acts r.aa r.an r.ac w' (enters_ofU Tryz.func56 (by kernel_rfl) rfl) h.al (by have := h.anc; have := h.am; omega) h.acell (fun y hy w2 _ => (rule2_c y w2).mono fun e w3 ⟨he, hw⟩ => ⟨he, hw ▸ Ext.refl _⟩))
  have hf4 := hid (fun w' (h : r.Ok w') => containsFS_c badP 57 #[] r.labels r.la r.ln r.lc w' (enters_ofU Tryz.func57 (by kernel_rfl) rfl) h.ll (by have := h.lnc; have := h.lm; omega) h.lcell (fun y hy w2 _ => rule3_c y w2 (h.ls y hy)))
  have ht1 := hid (fun w' (h : r.Ok w') => rtwiceS_c r.roles r.ra r.rn r.rc w' h.rl (by have := h.rnc; have := h.rm; omega) h.rnc h.rcell)
  have ht2 := hid (fun w' (h : r.Ok w') => rtwiceI_c r.acts r.aa r.an r.ac w' h.al (by have := h.anc; have := h.am; omega) h.anc h.acell)
  have ht3 := hid (fun w' (h : r.Ok w') => rtwiceS_c r.labels r.la r.ln r.lc w' h.ll (by have := h.lnc; have := h.lm; omega) h.lnc h.lcell)
  have HR := hid hr
  clear hr
  go_enter Tryz.func26, Tryz.ntmps26
  go_upto_region 1 with (fail)
  generalize hwA : World.alloc w _ = wA
  have bA : Blk wA w.heap.size r.v 50 := by rw [← hwA]; exact Blk.mk_alloc rfl rfl
  have eA : Ext w wA := by rw [← hwA]; exact (Ext.refl w).alloc _
  have BA := hid bA
  have EA := hid eA
  clear hwA bA eA
  go_cut [13] (fun v wx => v = .bool (k1 r) ∧ Ext wA wx)
  case first =>
    have c1 := BA.out.cell' (i := 1) rfl
    have c2 := BA.out.cell' (i := 2) rfl
    have c3 := BA.out.cell' (i := 3) rfl
    go_wp2
    all_goals
      go_meet
      refine ⟨?_, Ext.refl _⟩
      refine congrArg Value.bool ?_
      unfold k1
      rw [Bool.eq_iff_iff]
      simp only [Bool.or_eq_true, decide_eq_true_eq]
      split at * <;> omega
  case rest =>
    obtain ⟨rfl, eB⟩ := hcut
    have BB := hid (BA.out.ext eB)
    have EB := hid (EA.out.ext eB)
    clear eB BA EA
    cases h1 : k1 r with
    | true =>
      go_wp2
      go_ret
      exact ⟨by simp [ruleE, h1], EB.out⟩
    | false =>
    have HRB := hid (HR.out.ext EB.out)
    go_upto_region 3 with (fail)
    go_cut [27] (fun v wx => v = .bool (k2 r) ∧ Ext wc wx)
    case first =>
      have c1 := BB.out.cell' (i := 1) rfl
      go_wp2_with fail
      refine (hf1.out wc HRB.out).mono ?_
      rintro e wD ⟨rfl, eD⟩
      generalize hb1 : r.roles.any badS = b1
      have HB1 := hid hb1
      clear hb1
      have c7 := (BB.out.ext eD).cell' (i := 7) rfl
      have ED := hid eD
      clear eD c1
      have hk2 := hid (show k2 r = (r.roles.any badS || (!emptyB r.ow && badS r.ow)) from rfl)
      rw [HB1.out] at hk2
      have hbs : badS r.ow = !isNameL r.ow.data.toList := rfl
      rw [hbs] at hk2
      generalize isNameL r.ow.data.toList = nm at *
      have hem := hid (show emptyB r.ow = r.ow.toList.isEmpty from rfl)
      generalize emptyB r.ow = em at *
      generalize hk : k2 r = kk at *
      clear hk hbs HB1
      cases b1 with
      | true =>
        have hv : kk = true := by rw [hk2.out]; rfl
        subst hv
        clear hk2 hem
        go_wp2
        go_meet
        exact ⟨by first | rfl | simp, ED.out⟩
      | false =>
      cases em with
      | true =>
        have e1 : r.ow.toList.isEmpty = true := hem.out.symm
        have e2 : r.ow.toList = [] := List.isEmpty_iff.1 e1
        have hv : kk = false := by rw [hk2.out]; rfl
        subst hv
        clear hk2 hem
        go_wp2
        go_meet
        exact ⟨by first | rfl | simp, ED.out⟩
      | false =>
        have e1 : r.ow.toList.isEmpty = false := hem.out.symm
        have e2 : r.ow.toList ≠ [] := fun h => by rw [h] at e1; cases e1
        have hv : kk = !nm := by rw [hk2.out]; simp
        subst hv
        clear hk2 hem
        go_wp2_with fail
        refine (hf2.out _).mono ?_
        rintro e w4 ⟨rfl, e4⟩
        have E4 := hid (ED.out.ext e4)
        clear e4
        go_wp2_with fail
        go_meet
        exact ⟨by first | rfl | simp, E4.out⟩
    case rest =>
      obtain ⟨rfl, eC⟩ := hcut
      have BC := hid (BB.out.ext eC)
      have EC := hid (EB.out.ext eC)
      have HRC := hid (HRB.out.ext eC)
      clear eC BB EB HRB hf1 hf2
      cases h2 : k2 r with
      | true =>
        go_wp2
        go_ret
        exact ⟨by simp [ruleE, h1, h2], EC.out⟩
      | false =>
      have c2 := BC.out.cell' (i := 2) rfl
      go_wp2_with fail
      refine (hf3.out wc HRC.out).mono ?_
      rintro e wD ⟨rfl, eD⟩
      have BD := hid (BC.out.ext eD)
      have ED := hid (EC.out.ext eD)
      have HRD := hid (HRC.out.ext eD)
      clear eD BC EC HRC
      clear c2 hf3
      cases h3 : k3 r with
      | true =>
        have h3' : r.acts.any badA = true := h3
        rw [h3']
        go_wp2
        go_ret
        exact ⟨by simp [ruleE, h1, h2, h3], ED.out⟩
      | false =>
      have h3' : r.acts.any badA = false := h3
      rw [h3']
      have c3 := BD.out.cell' (i := 3) rfl
      go_wp2_with fail
      refine (hf4.out wD HRD.out).mono ?_
      rintro e wE ⟨rfl, eE⟩
      have BE := hid (BD.out.ext eE)
      have EE := hid (ED.out.ext eE)
      have HRE := hid (HRD.out.ext eE)
      clear eE BD ED HRD
      clear c3 hf4
      cases h4 : k4 r with
      | true =>
        have h4' : r.labels.any badP = true := h4
        rw [h4']
        go_wp2
        go_ret
        exact ⟨by simp [ruleE, h1, h2, h3, h4], EE.out⟩
      | false =>
      have h4' : r.labels.any badP = false := h4
      rw [h4']
      clear h3' h4'
      go_upto_region 9 with (fail)
      go_cut [34] (fun v wx => v = .bool (k5 r) ∧ Ext wE wx)
      case first =>
        have c1 := BE.out.cell' (i := 1) rfl
        go_wp2_with fail
        refine (ht1.out wE HRE.out).mono ?_
        rintro e wF ⟨b1, rfl, hb1, eF⟩
        have HB1 := hid (dupB_of hb1)
        have BF := hid (BE.out.ext eF)
        have HRF := hid (HRE.out.ext eF)
        have EF := hid eF
        clear hb1 eF c1
        have c2 := BF.out.cell' (i := 2) rfl
        cases b1 with
        | true =>
          go_wp2
          go_meet
          exact ⟨by unfold k5; rw [← HB1.out]; rfl, EF.out⟩
        | false =>
          go_wp2_with fail
          refine (ht2.out wF HRF.out).mono ?_
          rintro e wG ⟨b2, rfl, hb2, eG⟩
          have HB2 := hid (dupB_of hb2)
          have BG := hid (BF.out.ext eG)
          have HRG := hid (HRF.out.ext eG)
          have EG := hid (EF.out.ext eG)
          clear hb2 eG c2
          have c3 := BG.out.cell' (i := 3) rfl
          cases b2 with
          | true =>
            go_wp2
            go_meet
            exact ⟨by unfold k5; rw [← HB1.out, ← HB2.out]; rfl, EG.out⟩
          | false =>
            go_wp2_with fail
            refine (ht3.out wG HRG.out).mono ?_
            rintro e wI ⟨b3, rfl, hb3, eI⟩
            have HB3 := hid (dupB_of hb3)
            have EI := hid (EG.out.ext eI)
            clear hb3 eI c3
            go_wp2_with fail
            go_meet
            exact ⟨by unfold k5; rw [← HB1.out, ← HB2.out, ← HB3.out]; first | rfl | simp, EI.out⟩
      case rest =>
        obtain ⟨rfl, eF⟩ := hcut
        have BF := hid (BE.out.ext eF)
        have EF := hid (EE.out.ext eF)
        clear eF BE EE HRE ht1 ht2 ht3
        cases h5 : k5 r with
        | true =>
          go_wp2
          go_ret
          exact ⟨by simp [ruleE, h1, h2, h3, h4, h5], EF.out⟩
        | false =>
        have c4 := BF.out.cell' (i := 4) rfl
        have c5 := BF.out.cell' (i := 5) rfl
        have c6 := BF.out.cell' (i := 6) rfl
        have c7 := BF.out.cell' (i := 7) rfl
        have c0 := BF.out.cell' (i := 0) rfl
        go_upto_region 11 with (fail)
        go_cut [48] (fun v wx => v = .bool (k6 r) ∧ wx = wc)
        case first =>
          have hk6 := hid (show k6 r = ((((decide (r.fr < 0) || decide (24 < r.fr)) || (decide (r.tt < 0) || decide (24 < r.tt))) || (decide (r.fr = r.tt) && decide (r.fr ≠ 0))) || (decide (r.nd < 0) || decide (16 < r.nd))) from rfl)
          generalize hk : k6 r = kk at *
          clear hk
          by_cases hc0 : r.fr < 0
          · have q0 : decide (r.fr < 0) = true := decide_eq_true hc0
            rw [q0] at hk6
            clear hc0
            have hv : kk = true := by rw [hk6.out]; simp
            subst hv
            clear hk6
            go_wp2
            go_meet
            exact ⟨by first | rfl | simp, rfl⟩
          have q0 : decide (r.fr < 0) = false := decide_eq_false hc0
          rw [q0] at hk6
          clear hc0
          by_cases hc1 : 24 < r.fr
          · have q1 : decide (24 < r.fr) = true := decide_eq_true hc1
            rw [q1] at hk6
            clear hc1
            have hv : kk = true := by rw [hk6.out]; simp
            subst hv
            clear hk6
            go_wp2
            go_meet
            exact ⟨by first | rfl | simp, rfl⟩
          have q1 : decide (24 < r.fr) = false := decide_eq_false hc1
          rw [q1] at hk6
          clear hc1
          by_cases hc2 : r.tt < 0
          · have q2 : decide (r.tt < 0) = true := decide_eq_true hc2
            rw [q2] at hk6
            clear hc2
            have hv : kk = true := by rw [hk6.out]; simp
            subst hv
            clear hk6
            go_wp2
            go_meet
            exact ⟨by first | rfl | simp, rfl⟩
          have q2 : decide (r.tt < 0) = false := decide_eq_false hc2
          rw [q2] at hk6
          clear hc2
          by_cases hc3 : 24 < r.tt
          · have q3 : decide (24 < r.tt) = true := decide_eq_true hc3
            rw [q3] at hk6
            clear hc3
            have hv : kk = true := by rw [hk6.out]; simp
            subst hv
            clear hk6
            go_wp2
            go_meet
            exact ⟨by first | rfl | simp, rfl⟩
          have q3 : decide (24 < r.tt) = false := decide_eq_false hc3
          rw [q3] at hk6
          clear hc3
          by_cases hft : r.fr = r.tt
          · have q4 : decide (r.fr = r.tt) = true := decide_eq_true hft
            have q5 : (r.fr == r.tt) = true := by simp [hft]
            rw [q4] at hk6
            by_cases hf0 : r.fr = 0
            · have q6 : decide (r.fr = 0) = true := decide_eq_true hf0
              have q7 : (r.fr != 0) = false := by simp [hf0]
              have q8 : decide (r.fr ≠ 0) = false := decide_eq_false (fun h => h hf0)
              rw [q8] at hk6
              clear hft hf0
              by_cases hn1 : r.nd < 0
              · have q9 : decide (r.nd < 0) = true := decide_eq_true hn1
                rw [q9] at hk6
                clear hn1
                have hv : kk = true := by rw [hk6.out]; simp
                subst hv
                clear hk6
                go_wp2
                go_meet
                exact ⟨by first | rfl | simp, rfl⟩
              have q9 : decide (r.nd < 0) = false := decide_eq_false hn1
              rw [q9] at hk6
              clear hn1
              have hv : kk = decide (16 < r.nd) := by rw [hk6.out]; simp
              subst hv
              clear hk6
              go_wp2
              go_meet
              exact ⟨by first | rfl | simp, rfl⟩
            · have q6 : decide (r.fr = 0) = false := decide_eq_false hf0
              have q7 : (r.fr != 0) = true := by simp [hf0]
              have q8 : decide (r.fr ≠ 0) = true := decide_eq_true hf0
              rw [q8] at hk6
              clear hft hf0
              have hv : kk = true := by rw [hk6.out]; simp
              subst hv
              clear hk6
              go_wp2
              go_meet
              exact ⟨by first | rfl | simp, rfl⟩
          · have q4 : decide (r.fr = r.tt) = false := decide_eq_false hft
            have q5 : (r.fr == r.tt) = false := by simp [hft]
            rw [q4] at hk6
            clear hft
            by_cases hn1 : r.nd < 0
            · have q9 : decide (r.nd < 0) = true := decide_eq_true hn1
              rw [q9] at hk6
              clear hn1
              have hv : kk = true := by rw [hk6.out]; simp
              subst hv
              clear hk6
              go_wp2
              go_meet
              exact ⟨by first | rfl | simp, rfl⟩
            have q9 : decide (r.nd < 0) = false := decide_eq_false hn1
            rw [q9] at hk6
            clear hn1
            have hv : kk = decide (16 < r.nd) := by rw [hk6.out]; simp
            subst hv
            clear hk6
            go_wp2
            go_meet
            exact ⟨by first | rfl | simp, rfl⟩
        case rest =>
          obtain ⟨rfl, rfl⟩ := hcut
          cases h6 : k6 r with
          | true =>
            go_wp2
            go_ret
            exact ⟨by simp [ruleE, h1, h2, h3, h4, h5, h6], EF.out⟩
          | false =>
          have hnd : 0 ≤ r.nd := by
            by_cases h : r.nd < 0
            · exfalso
              have : k6 r = true := by unfold k6; rw [decide_eq_true h]; simp
              rw [h6] at this; cases this
            · omega
          go_upto_region 13 with (fail)
          go_cut [89] (fun v wx => v = .bool (k7 r) ∧ wx = wc)
          case first =>
            have hk7 := hid (show k7 r = ((decide (r.nd = 0) != emptyB r.ow) || (r.deny && decide (0 < r.nd))) from rfl)
            generalize hk : k7 r = kk at *
            clear hk
            have hem := hid (show emptyB r.ow = r.ow.toList.isEmpty from rfl)
            generalize emptyB r.ow = em at *
            generalize r.deny = dn at *
            by_cases hn0 : r.nd = 0
            · have n1 : decide (r.nd = 0) = true := decide_eq_true hn0
              have n3 : decide (0 < r.nd) = false := decide_eq_false (by omega)
              rw [n1, n3] at hk7
              clear hn0 hnd
              cases em with
              | true =>
                have e1 : r.ow.toList.isEmpty = true := hem.out.symm
                have e2 : r.ow.toList = [] := List.isEmpty_iff.1 e1
                cases dn
                all_goals
                  have hv := hk7.out
                  simp at hv
                  subst hv
                  clear hk7 hem
                  go_wp2
                  go_meet
                  exact ⟨by first | rfl | simp, rfl⟩
              | false =>
                have e1 : r.ow.toList.isEmpty = false := hem.out.symm
                have e2 : r.ow.toList ≠ [] := fun h => by rw [h] at e1; cases e1
                cases dn
                all_goals
                  have hv := hk7.out
                  simp at hv
                  subst hv
                  clear hk7 hem
                  go_wp2
                  go_meet
                  exact ⟨by first | rfl | simp, rfl⟩
            · have n1 : decide (r.nd = 0) = false := decide_eq_false hn0
              have n3 : decide (0 < r.nd) = true := decide_eq_true (by omega)
              rw [n1, n3] at hk7
              clear hn0 hnd
              cases em with
              | true =>
                have e1 : r.ow.toList.isEmpty = true := hem.out.symm
                have e2 : r.ow.toList = [] := List.isEmpty_iff.1 e1
                cases dn
                all_goals
                  have hv := hk7.out
                  simp at hv
                  subst hv
                  clear hk7 hem
                  go_wp2
                  go_meet
                  exact ⟨by first | rfl | simp, rfl⟩
              | false =>
                have e1 : r.ow.toList.isEmpty = false := hem.out.symm
                have e2 : r.ow.toList ≠ [] := fun h => by rw [h] at e1; cases e1
                cases dn
                all_goals
                  have hv := hk7.out
                  simp at hv
                  subst hv
                  clear hk7 hem
                  go_wp2
                  go_meet
                  exact ⟨by first | rfl | simp, rfl⟩
          case rest =>
            obtain ⟨rfl, rfl⟩ := hcut
            cases h7 : k7 r with
            | true =>
              go_wp2
              go_ret
              exact ⟨by simp [ruleE, h1, h2, h3, h4, h5, h6, h7], EF.out⟩
            | false =>
              go_wp2
              go_ret
              exact ⟨by simp [ruleE, h1, h2, h3, h4, h5, h6, h7], EF.out⟩
end

section
open Go Go.RowKit
end

section
open Go Go.RowKit

structure AskR where
  actor : List UInt8
  sa : Option Addr
  sn : Nat
  sc : Nat
  roles : List ByteArray
  act : Int
  label : ByteArray
  key : List UInt8
  time : Int
  detail : List UInt8
def AskR.v (a : AskR) : List Value := a.actor.map u8v ++ (.slice a.sa a.sn a.sc :: .int .i64 a.act :: .string a.label :: (a.key.map u8v ++ (.int .i64 a.time :: a.detail.map u8v)))
structure AskR.Ok (w : World) (a : AskR) : Prop where
  ha : a.actor.length = 16
  hk : a.key.length = 16
  hd : a.detail.length = 32
  sl : a.roles.length = a.sn
  snc : a.sn ≤ a.sc
  sm : a.sn ≤ 140737488355328
  scell : Cells w a.sa (a.roles.map encStr)
  ss : ∀ s ∈ a.roles, s.size ≤ 140737488355328
  ls : a.label.size ≤ 140737488355328
theorem AskR.Ok.ext {w w' : World} {a : AskR} (h : a.Ok w) (e : Ext w w') : a.Ok w' := ⟨h.ha, h.hk, h.hd, h.sl, h.snc, h.sm, h.scell.ext e, h.ss, h.ls⟩
theorem AskR.len {w : World} {a : AskR} (h : a.Ok w) : a.v.length = 68 := by unfold AskR.v; simp [h.ha, h.hk, h.hd]
theorem AskR.at16 {w : World} {a : AskR} (h : a.Ok w) : a.v[16]? = some (.slice a.sa a.sn a.sc) := by
  unfold AskR.v; rw [List.getElem?_append_right (by simp [h.ha])]; simp [h.ha]
theorem AskR.at17 {w : World} {a : AskR} (h : a.Ok w) : a.v[17]? = some (.int .i64 a.act) := by
  unfold AskR.v; rw [List.getElem?_append_right (by simp [h.ha])]; simp [h.ha]
theorem AskR.at18 {w : World} {a : AskR} (h : a.Ok w) : a.v[18]? = some (.string a.label) := by
  unfold AskR.v; rw [List.getElem?_append_right (by simp [h.ha])]; simp [h.ha]
theorem AskR.at35 {w : World} {a : AskR} (h : a.Ok w) : a.v[35]? = some (.int .i64 a.time) := by
  unfold AskR.v; rw [List.getElem?_append_right (by simp [h.ha])]
  simp only [List.length_map, h.ha]
  show (Value.slice a.sa a.sn a.sc :: .int .i64 a.act :: .string a.label :: (a.key.map u8v ++ (.int .i64 a.time :: a.detail.map u8v)))[19]? = _
  rw [List.getElem?_cons_succ, List.getElem?_cons_succ, List.getElem?_cons_succ, List.getElem?_append_right (by simp [h.hk])]
  simp [h.hk]
def j5 (a : AskR) : Bool := !emptyB a.label && badS a.label
def j6 (a : AskR) : Bool := decide (a.time < 0) || decide (1099511627776 < a.time)
noncomputable def askE (a : AskR) : Int := if badA a.act then 3 else if decide ((16 : Int) < (a.sn : Int)) then 5 else if a.roles.any badS then 6 else if !risB a.roles then 9 else if j5 a then 6 else if j6 a then 4 else 0
end

section
open Go Go.RowKit
end

section
open Go Go.RowKit

noncomputable def memT {α : Type} (l : List α) (x : α) : Bool := @decide (x ∈ l) (Classical.propDecidable _)
theorem memT_iff {α : Type} {l : List α} {x : α} : memT l x = true ↔ x ∈ l := by unfold memT; exact @decide_eq_true_iff _ (Classical.propDecidable _)
theorem memT_of {α : Type} {l : List α} {x : α} {b : Bool} (h : b = true ↔ x ∈ l) : b = memT l x := by
  rw [Bool.eq_iff_iff, memT_iff]; exact h
def fitB (l p : ByteArray) : Bool := fitsL p.data.toList l.data.toList
def hoursB (fr tt h : Int) : Bool := if fr = tt then true else if fr < tt then decide (fr ≤ h) && decide (h < tt) else decide (fr ≤ h) || decide (h < tt)
def hourN (T : Nat) : Nat := T % 86400 / 3600
noncomputable def meetsB (r : RuleR) (a : AskR) : Bool := (decide (r.rn = 0) || r.roles.any (memT a.roles)) && (decide (r.an = 0) || memT r.acts a.act) && (decide (r.ln = 0) || r.labels.any (fitB a.label)) && hoursB r.fr r.tt (hourN a.time.toNat)

theorem meets1_c (a : AskR) (g : Nat) (s : ByteArray) (w : World) (hr : a.Ok w) (hb : Blk w g a.v 40) :
    Calls Tryz.prog 107 #[.string s, .pointer (some ⟨g, 0, none⟩)] w fun e w' => e = .returned (.bool (memT a.roles s)) ∧ Ext w w' := by
  have c16 := hb.cell' (AskR.at16 hr)
  have hc := hid (containsS_c s a.roles a.sa a.sn a.sc w hr.sl (by have := hr.snc; have := hr.sm; omega) hr.scell)
  clear hr hb
  go_enter Tryz.func107, Tryz.ntmps107
  go_wp2_with fail
  refine hc.out.mono ?_
  rintro e w1 ⟨b, rfl, hb, rfl⟩
  have HB := hid (memT_of hb)
  clear hb hc
  go_wp2_with fail
  go_ret
  exact ⟨by rw [← HB.out]; rfl, Ext.refl _⟩
theorem rmeets1_c (a : AskR) (g : Nat) (s : ByteArray) (w : World) (hr : a.Ok w) (hb : Blk w g a.v 40) :
    Calls Tryz.prog 69 #[.string s, .pointer (some ⟨g, 0, none⟩)] w fun e w' => e = .returned (.bool (memT a.roles s)) ∧ Ext w w' := by
  have c16 := hb.cell' (AskR.at16 hr)
  have hc := hid (containsS_c s a.roles a.sa a.sn a.sc w hr.sl (by have := hr.snc; have := hr.sm; omega) hr.scell)
  clear hr hb
  go_enter Tryz.func69, Tryz.ntmps69
  go_wp2_with fail
  refine hc.out.mono ?_
  rintro e w1 ⟨b, rfl, hb, rfl⟩
  have HB := hid (memT_of hb)
  clear hb hc
  go_wp2_with fail
  go_ret
  exact ⟨by rw [← HB.out]; rfl, Ext.refl _⟩
theorem meets2_c (a : AskR) (g : Nat) (s : ByteArray) (w : World) (hr : a.Ok w) (hs : s.size ≤ 140737488355328) (hb : Blk w g a.v 40) :
    Calls Tryz.prog 108 #[.string s, .pointer (some ⟨g, 0, none⟩)] w fun e w' => e = .returned (.bool (fitB a.label s)) ∧ Ext w w' := by
  have c18 := hb.cell' (AskR.at18 hr)
  have hc := hid (fits_p s a.label w hs)
  unfold fitB
  generalize fitsL s.data.toList a.label.data.toList = b at *
  clear hr hb hs
  go_enter Tryz.func108, Tryz.ntmps108
  go_wp2_with fail
  refine hc.out.mono ?_
  rintro e w1 ⟨rfl, rfl⟩
  go_wp2_with fail
  go_ret
  exact ⟨rfl, Ext.refl _⟩

/-- a pattern other than the star fits no empty label -/
theorem fits_empty {p : List UInt8} (h : patL p = true) (hs : p ≠ [42]) : fitsL p [] = false := by
  unfold fitsL
  unfold patL at h
  cases hst : starL p with
  | true =>
    rw [if_pos rfl]
    rw [hst] at h
    unfold starL at hst
    obtain ⟨t, ht⟩ : ∃ t, t ++ [42] = p := List.isSuffixOf_iff_suffix.1 hst
    have hh : headL p = t := by unfold headL Lib.trimSuffix; rw [if_pos hst, ← ht]; simp
    rw [hh]
    cases t with
    | nil => exact absurd ht.symm hs
    | cons x t => rfl
  | false =>
    rw [if_neg (by simp)]
    rw [hst] at h
    cases p with
    | nil => revert h; decide
    | cons x t => rfl

theorem rmeets2_c (a : AskR) (g : Nat) (s : ByteArray) (w : World) (hr : a.Ok w) (hs : s.size ≤ 140737488355328) (hp : patL s.data.toList = true) (hb : Blk w g a.v 40) :
    Calls Tryz.prog 72 #[.string s, .pointer (some ⟨g, 0, none⟩)] w fun e w' => e = .returned (.bool (fitB a.label s)) ∧ Ext w w' := by
  have c18 := hb.cell' (AskR.at18 hr)
  have hc := hid (rfits_c s a.label w hs)
  have hem : a.label.toList = [] → s.toList ≠ [42] → fitsL s.data.toList a.label.data.toList = false := fun h1 h2 => by
    rw [Lib.toList_data] at h1 h2
    rw [h1]; exact fits_empty hp h2
  have HEM := hid hem
  unfold fitB
  generalize fitsL s.data.toList a.label.data.toList = b at *
  clear hr hb hs hp hem
  cases he : a.label.toList.isEmpty with
  | false =>
    have e2 : a.label.toList ≠ [] := fun h => by rw [h] at he; cases he
    clear HEM
    go_enter Tryz.func72, Tryz.ntmps72
    go_wp2_with fail
    refine hc.out.mono ?_
    rintro e w1 ⟨rfl, rfl⟩
    go_wp2_with fail
    go_ret
    exact ⟨by first | rfl | simp, Ext.refl _⟩
  | true =>
    have e2 : a.label.toList = [] := List.isEmpty_iff.1 he
    by_cases hs : s.toList = [42]
    · have q1 : (s.toList == [42]) = true := by simp [hs]
      have q2 : decide (s.toList = [42]) = true := decide_eq_true hs
      clear HEM
      go_enter Tryz.func72, Tryz.ntmps72
      go_wp2_with fail
      refine hc.out.mono ?_
      rintro e w1 ⟨rfl, rfl⟩
      go_wp2_with fail
      go_ret
      exact ⟨by first | rfl | simp, Ext.refl _⟩
    · have q1 : (s.toList == [42]) = false := by simp [hs]
      have q2 : decide (s.toList = [42]) = false := decide_eq_false hs
      have hb := HEM.out e2 hs
      subst hb
      clear HEM hc
      go_enter Tryz.func72, Tryz.ntmps72
      go_wp2_with fail
      go_ret
      exact ⟨by first | rfl | simp, Ext.refl _⟩

set_option maxHeartbeats 1000000 in
theorem inHours_c (r : RuleR) (h : Int) (w : World) :
    Calls Tryz.prog 110 #[.agg r.v.toArray, .int .i64 h] w fun e w' => e = .returned (.bool (hoursB r.fr r.tt h)) ∧ Ext w w' := by
  obtain ⟨X, hX⟩ : ∃ X, hoursB r.fr r.tt h = X := ⟨_, rfl⟩
  have HX := hid hX
  rw [hX]
  clear hX
  go_enter Tryz.func110, Tryz.ntmps110
  go_upto_region 1 with (fail)
  generalize hwA : World.alloc w _ = wA
  have bA : Blk wA w.heap.size r.v 50 := by rw [← hwA]; exact Blk.mk_alloc rfl rfl
  have eA : Ext w wA := by rw [← hwA]; exact (Ext.refl w).alloc _
  have EA := hid eA
  have c4 := bA.cell' (i := 4) rfl
  have c5 := bA.cell' (i := 5) rfl
  clear hwA bA eA
  by_cases hft : r.fr = r.tt
  · have q1 : decide (r.fr = r.tt) = true := decide_eq_true hft
    have q2 : (r.fr == r.tt) = true := by simp [hft]
    have HR := hid (show X = true by rw [← HX.out]; unfold hoursB; rw [if_pos hft])
    clear hft
    go_wp2
    go_ret
    exact ⟨by rw [HR.out]; rfl, EA.out⟩
  · have q1 : decide (r.fr = r.tt) = false := decide_eq_false hft
    have q2 : (r.fr == r.tt) = false := by simp [hft]
    by_cases hlt : r.fr < r.tt
    · have q3 : decide (r.fr < r.tt) = true := decide_eq_true hlt
      have HR := hid (show X = (decide (r.fr ≤ h) && decide (h < r.tt)) by rw [← HX.out]; unfold hoursB; rw [if_neg hft, if_pos hlt])
      clear hft hlt
      by_cases h1 : r.fr ≤ h
      · have q4 : decide (r.fr ≤ h) = true := decide_eq_true h1
        go_wp2
        go_ret
        exact ⟨by rw [HR.out]; first | rfl | (rw [q4]; rfl) | simp [h1], EA.out⟩
      · have q4 : decide (r.fr ≤ h) = false := decide_eq_false h1
        go_wp2
        go_ret
        exact ⟨by rw [HR.out]; first | rfl | (rw [q4]; rfl) | simp [h1], EA.out⟩
    · have q3 : decide (r.fr < r.tt) = false := decide_eq_false hlt
      have HR := hid (show X = (decide (r.fr ≤ h) || decide (h < r.tt)) by rw [← HX.out]; unfold hoursB; rw [if_neg hft, if_neg hlt])
      clear hft hlt
      by_cases h1 : r.fr ≤ h
      · have q4 : decide (r.fr ≤ h) = true := decide_eq_true h1
        go_wp2
        go_ret
        exact ⟨by rw [HR.out]; first | rfl | (rw [q4]; rfl) | simp [h1], EA.out⟩
      · have q4 : decide (r.fr ≤ h) = false := decide_eq_false h1
        go_wp2
        go_ret
        exact ⟨by rw [HR.out]; first | rfl | (rw [q4]; rfl) | simp [h1], EA.out⟩
end

section
open Go Go.RowKit

theorem agg_rule : AggT Tryz.prog 50 8 := ⟨⟨_, Tryz.underlying50, rfl⟩, by kernel_rfl⟩
theorem agg_ask : AggT Tryz.prog 40 68 := ⟨⟨_, Tryz.underlying40, rfl⟩, by kernel_rfl⟩

set_option maxRecDepth 100000 in
set_option maxHeartbeats 2000000 in
theorem meets_c (r : RuleR) (a : AskR) (T : Nat) (w : World) (hr : r.Ok w) (ha : a.Ok w) (hT : a.time = (T : Int)) (hTb : T ≤ 1099511627776) :
    Calls Tryz.prog 68 #[.agg r.v.toArray, .agg a.v.toArray] w fun e w' => e = .returned (.bool (meetsB r a)) ∧ Ext w w' := by
  have hrem : IntKind.i64.wrap ((T : Int).tmod 86400) = ((T % 86400 : Nat) : Int) := by rw [show (T : Int).tmod 86400 = ((T % 86400 : Nat) : Int) by rw [Int.tmod_eq_emod_of_nonneg (by omega)]; omega, IntWalk.i64_in _ (by omega)]
  have hquo : IntKind.i64.wrap (((T % 86400 : Nat) : Int).tdiv 3600) = ((T % 86400 / 3600 : Nat) : Int) := by rw [show ((T % 86400 : Nat) : Int).tdiv 3600 = ((T % 86400 / 3600 : Nat) : Int) by rw [Int.tdiv_eq_ediv_of_nonneg (by omega)]; omega, IntWalk.i64_in _ (by omega)]
  have hhn : hourN a.time.toNat = T % 86400 / 3600 := by rw [hT]; rfl
  have HHN := hid hhn
  have HREM := hid hrem
  have HQUO := hid hquo
  have HR := hid hr
  have HA := hid ha
  have H16 := hid (AskR.at16 ha)
  have H17 := hid (AskR.at17 ha)
  have H18 := hid (AskR.at18 ha)
  have H35 := hid (AskR.at35 ha)
  rw [hT] at H35
  have HLEN := hid (AskR.len ha)
  obtain ⟨x1, hx1⟩ : ∃ x1, (decide (r.rn = 0) || r.roles.any (memT a.roles)) = x1 := ⟨_, rfl⟩
  obtain ⟨x2, hx2⟩ : ∃ x2, (decide (r.an = 0) || memT r.acts a.act) = x2 := ⟨_, rfl⟩
  obtain ⟨x3, hx3⟩ : ∃ x3, (decide (r.ln = 0) || r.labels.any (fitB a.label)) = x3 := ⟨_, rfl⟩
  obtain ⟨x4, hx4⟩ : ∃ x4, hoursB r.fr r.tt (hourN a.time.toNat) = x4 := ⟨_, rfl⟩
  have HM := hid (show meetsB r a = (x1 && x2 && x3 && x4) by unfold meetsB; rw [hx1, hx2, hx3, hx4])
  have hih := hid (fun w' => inHours_c r ((T % 86400 / 3600 : Nat) : Int) w')
  rw [hhn] at hx4
  rw [hx4] at hih
  have HX1 := hid hx1
  have HX2 := hid hx2
  have HX3 := hid hx3
  clear hr ha hT hTb hrem hquo hhn hx1 hx2 hx3 hx4
  obtain ⟨M, hM⟩ : ∃ M, meetsB r a = M := ⟨_, rfl⟩
  rw [hM] at HM
  rw [hM]
  clear hM
  go_enter Tryz.func68, Tryz.ntmps68
  go_upto_region 1 with (fail)
  generalize hwA : World.alloc (World.alloc w _) _ = wA
  have bA : Blk wA w.heap.size r.v 50 := by rw [← hwA]; exact (Blk.mk_alloc rfl rfl).alloc _
  have gA : Blk wA (w.heap.size + 1) a.v 40 := by rw [← hwA]; exact Blk.mk_alloc (by simp) rfl
  have eA : Ext w wA := by rw [← hwA]; exact ((Ext.refl w).alloc _).alloc _
  have BA := hid bA
  have GA := hid gA
  have EA := hid eA
  have RA := hid (HR.out.ext eA)
  have QA := hid (HA.out.ext eA)
  clear hwA bA gA eA HR HA
  go_cut [5] (fun v wx => v = .bool x1 ∧ Ext wA wx)
  case first =>
    have c1 := BA.out.cell' (i := 1) rfl
    by_cases h0 : r.rn = 0
    · have q1 : decide (r.rn = 0) = true := decide_eq_true h0
      have q2 : (r.rn == 0) = true := by simp [h0]
      have q3 : decide ((r.rn : Int) = 0) = true := decide_eq_true (by omega)
      have hx := HX1.out
      rw [q1, Bool.true_or] at hx
      subst hx
      go_wp2
      go_meet
      exact ⟨by first | rfl | simp, Ext.refl _⟩
    · have q1 : decide (r.rn = 0) = false := decide_eq_false h0
      have q2 : (r.rn == 0) = false := by simp [h0]
      have q3 : decide ((r.rn : Int) = 0) = false := decide_eq_false (by omega)
      have hx := HX1.out
      rw [q1, Bool.false_or] at hx
      have hcf := hid (containsFS_c (memT a.roles) 107 #[.pointer (some ⟨w.heap.size + 1, 0, none⟩)] r.roles r.ra r.rn r.rc wA (enters_ofU Tryz.func107 (by kernel_rfl) rfl) RA.out.rl (by have := RA.out.rnc; have := RA.out.rm; omega) RA.out.rcell (fun y hy w2 e2 => meets1_c a (w.heap.size + 1) y w2 (QA.out.ext e2) (GA.out.ext e2)))
      rw [hx] at hcf
      clear hx
      go_wp2_with fail
      refine hcf.out.mono ?_
      rintro e wB ⟨rfl, eB⟩
      have EB := hid eB
      clear eB hcf
      go_wp2_with fail
      go_meet
      exact ⟨by first | rfl | (simp; done) | (simp; intro h; exact absurd h h0), EB.out⟩
  case rest =>
    obtain ⟨rfl, eB⟩ := hcut
    have BB := hid (BA.out.ext eB)
    have GB := hid (GA.out.ext eB)
    have EB := hid (EA.out.ext eB)
    have RB := hid (RA.out.ext eB)
    have QB := hid (QA.out.ext eB)
    clear eB BA GA EA RA QA
    go_upto_region 2 with (fail)
    go_cut [6] (fun v wx => v = .bool x2 ∧ wx = wc)
    case first =>
      have c2 := BB.out.cell' (i := 2) rfl
      have c17 := GB.out.cell' H17.out
      by_cases h0 : r.an = 0
      · have q1 : decide (r.an = 0) = true := decide_eq_true h0
        have q2 : (r.an == 0) = true := by simp [h0]
        have q3 : decide ((r.an : Int) = 0) = true := decide_eq_true (by omega)
        have hx := HX2.out
        rw [q1, Bool.true_or] at hx
        subst hx
        go_wp2
        go_meet
        exact ⟨by first | rfl | (simp; done) | (simp; intro h; exact absurd h h0), rfl⟩
      · have q1 : decide (r.an = 0) = false := decide_eq_false h0
        have q2 : (r.an == 0) = false := by simp [h0]
        have q3 : decide ((r.an : Int) = 0) = false := decide_eq_false (by omega)
        have hx := HX2.out
        rw [q1, Bool.false_or] at hx
        have HXX := hid hx
        have hcf := hid (containsI_c a.act r.acts r.aa r.an r.ac wc RB.out.al (by have := RB.out.anc; have := RB.out.am; omega) RB.out.acell)
        clear hx
        go_wp2_with fail
        refine hcf.out.mono ?_
        rintro e wD ⟨b, rfl, hb, rfl⟩
        have hbx : b = x2 := (memT_of hb).trans HXX.out
        subst hbx
        clear hb hcf
        go_wp2_with fail
        go_meet
        exact ⟨by first | rfl | (simp; done) | (simp; intro h; exact absurd h h0), rfl⟩
    case rest =>
      obtain ⟨rfl, rfl⟩ := hcut
      obtain ⟨wP, hwP⟩ : ∃ wP, wP = wc := ⟨_, rfl⟩
      go_upto_region 3 with (fail)
      go_cut [7] (fun v wx => v = .bool x3 ∧ Ext wc wx)
      case first =>
        clear hwP
        have c3 := BB.out.cell' (i := 3) rfl
        by_cases h0 : r.ln = 0
        · have q1 : decide (r.ln = 0) = true := decide_eq_true h0
          have q2 : (r.ln == 0) = true := by simp [h0]
          have q3 : decide ((r.ln : Int) = 0) = true := decide_eq_true (by omega)
          have hx := HX3.out
          rw [q1, Bool.true_or] at hx
          subst hx
          go_wp2
          go_meet
          exact ⟨by first | rfl | simp, Ext.refl _⟩
        · have q1 : decide (r.ln = 0) = false := decide_eq_false h0
          have q2 : (r.ln == 0) = false := by simp [h0]
          have q3 : decide ((r.ln : Int) = 0) = false := decide_eq_false (by omega)
          have hx := HX3.out
          rw [q1, Bool.false_or] at hx
          have hcf := hid (containsFS_c (fitB a.label) 108 #[.pointer (some ⟨w.heap.size + 1, 0, none⟩)] r.labels r.la r.ln r.lc wc (enters_ofU Tryz.func108 (by kernel_rfl) rfl) RB.out.ll (by have := RB.out.lnc; have := RB.out.lm; omega) RB.out.lcell (fun y hy w2 e2 => meets2_c a (w.heap.size + 1) y w2 (QB.out.ext e2) (RB.out.ls y hy) (GB.out.ext e2)))
          rw [hx] at hcf
          clear hx
          go_wp2_with fail
          refine hcf.out.mono ?_
          rintro e wD ⟨rfl, eD⟩
          have ED := hid eD
          clear eD hcf
          go_wp2_with fail
          go_meet
          exact ⟨by first | rfl | (simp; done) | (simp; intro h; exact absurd h h0), ED.out⟩
      case rest =>
        obtain ⟨rfl, eC⟩ := hcut
        subst hwP
        have BC := hid (BB.out.ext eC)
        have GC := hid (GB.out.ext eC)
        have EC := hid (EB.out.ext eC)
        have HRV := hid (RuleR.len r)
        clear eC BB GB EB RB QB HX1 HX2 HX3
        have c35 := GC.out.cell' H35.out
        have hrem := HREM.out
        have hquo := HQUO.out
        have hm := HM.out
        clear HM
        cases x1 with
        | false =>
          simp at hm
          subst hm
          go_wp2
          go_ret
          exact ⟨rfl, EC.out⟩
        | true =>
        cases x2 with
        | false =>
          simp at hm
          subst hm
          go_wp2
          go_ret
          exact ⟨rfl, EC.out⟩
        | true =>
        cases x3 with
        | false =>
          simp at hm
          subst hm
          go_wp2
          go_ret
          exact ⟨rfl, EC.out⟩
        | true =>
          simp at hm
          subst hm
          have c0 := BC.out.cell' (i := 0) rfl
          have c1 := BC.out.cell' (i := 1) rfl
          have c2 := BC.out.cell' (i := 2) rfl
          have c3 := BC.out.cell' (i := 3) rfl
          have c4 := BC.out.cell' (i := 4) rfl
          have c5 := BC.out.cell' (i := 5) rfl
          have c6 := BC.out.cell' (i := 6) rfl
          have c7 := BC.out.cell' (i := 7) rfl
          go_wp2_with fail
          refine (hih.out _).mono ?_
          rintro e wD ⟨rfl, eD⟩
          have ED := hid (EC.out.ext eD)
          clear eD
          go_wp2_with fail
          go_ret
          exact ⟨by first | rfl | simp, ED.out⟩
end

section
open Go Go.RowKit

set_option maxRecDepth 100000 in
set_option maxHeartbeats 2000000 in
theorem rmeets_c (r : RuleR) (a : AskR) (T : Nat) (w : World) (hr : r.Ok w) (ha : a.Ok w) (hT : a.time = (T : Int)) (hTb : T ≤ 1099511627776) (hlab : ∀ s ∈ r.labels, patL s.data.toList = true) (hfz : r.fr = r.tt → r.fr = 0) :
    Calls Tryz.prog 39 #[.agg r.v.toArray, .agg a.v.toArray] w fun e w' => e = .returned (.bool (meetsB r a)) ∧ Ext w w' := by
  have hrem : IntKind.i64.wrap ((T : Int).tmod 86400) = ((T % 86400 : Nat) : Int) := by rw [show (T : Int).tmod 86400 = ((T % 86400 : Nat) : Int) by rw [Int.tmod_eq_emod_of_nonneg (by omega)]; omega, IntWalk.i64_in _ (by omega)]
  have hquo : IntKind.i64.wrap (((T % 86400 : Nat) : Int).tdiv 3600) = ((T % 86400 / 3600 : Nat) : Int) := by rw [show ((T % 86400 : Nat) : Int).tdiv 3600 = ((T % 86400 / 3600 : Nat) : Int) by rw [Int.tdiv_eq_ediv_of_nonneg (by omega)]; omega, IntWalk.i64_in _ (by omega)]
  have hhn : hourN a.time.toNat = T % 86400 / 3600 := by rw [hT]; rfl
  have HHN := hid hhn
  have HREM := hid hrem
  have HQUO := hid hquo
  have HR := hid hr
  have HA := hid ha
  have H16 := hid (AskR.at16 ha)
  have H17 := hid (AskR.at17 ha)
  have H18 := hid (AskR.at18 ha)
  have H35 := hid (AskR.at35 ha)
  rw [hT] at H35
  have HLEN := hid (AskR.len ha)
  obtain ⟨x1, hx1⟩ : ∃ x1, (decide (r.rn = 0) || r.roles.any (memT a.roles)) = x1 := ⟨_, rfl⟩
  obtain ⟨x2, hx2⟩ : ∃ x2, (decide (r.an = 0) || memT r.acts a.act) = x2 := ⟨_, rfl⟩
  obtain ⟨x3, hx3⟩ : ∃ x3, (decide (r.ln = 0) || r.labels.any (fitB a.label)) = x3 := ⟨_, rfl⟩
  obtain ⟨x4, hx4⟩ : ∃ x4, hoursB r.fr r.tt (hourN a.time.toNat) = x4 := ⟨_, rfl⟩
  have HM := hid (show meetsB r a = (x1 && x2 && x3 && x4) by unfold meetsB; rw [hx1, hx2, hx3, hx4])
  have HX4 := hid hx4
  rw [hhn] at HX4
  have HX1 := hid hx1
  have HX2 := hid hx2
  have HX3 := hid hx3
  have HLAB := hid hlab
  have HFZ := hid hfz
  clear hlab hfz
  clear hr ha hT hTb hrem hquo hhn hx1 hx2 hx3 hx4
  obtain ⟨M, hM⟩ : ∃ M, meetsB r a = M := ⟨_, rfl⟩
  rw [hM] at HM
  rw [hM]
  clear hM
  go_enter Tryz.func39, Tryz.ntmps39
  go_upto_region 1 with (fail)
  generalize hwA : World.alloc (World.alloc w _) _ = wA
  have bA : Blk wA w.heap.size r.v 50 := by rw [← hwA]; exact (Blk.mk_alloc rfl rfl).alloc _
  have gA : Blk wA (w.heap.size + 1) a.v 40 := by rw [← hwA]; exact Blk.mk_alloc (by simp) rfl
  have eA : Ext w wA := by rw [← hwA]; exact ((Ext.refl w).alloc _).alloc _
  have BA := hid bA
  have GA := hid gA
  have EA := hid eA
  have RA := hid (HR.out.ext eA)
  have QA := hid (HA.out.ext eA)
  clear hwA bA gA eA HR HA
  go_cut [16] (fun v wx => v = .bool (!x1) ∧ Ext wA wx)
  case first =>
    have c1 := BA.out.cell' (i := 1) rfl
    by_cases h0 : r.rn = 0
    · have q1 : decide (r.rn = 0) = true := decide_eq_true h0
      have q4 : decide (0 < r.rn) = false := decide_eq_false (by omega)
      have q2 : (r.rn == 0) = true := by simp [h0]
      have q3 : decide ((r.rn : Int) = 0) = true := decide_eq_true (by omega)
      have hx := HX1.out
      rw [q1, Bool.true_or] at hx
      subst hx
      go_wp2
      go_meet
      exact ⟨by first | rfl | simp, Ext.refl _⟩
    · have q1 : decide (r.rn = 0) = false := decide_eq_false h0
      have q4 : decide (0 < r.rn) = true := decide_eq_true (by omega)
      have q2 : (r.rn == 0) = false := by simp [h0]
      have q3 : decide ((r.rn : Int) = 0) = false := decide_eq_false (by omega)
      have hx := HX1.out
      rw [q1, Bool.false_or] at hx
      have hcf := hid (containsFS_c (memT a.roles) 69 #[.pointer (some ⟨w.heap.size + 1, 0, none⟩)] r.roles r.ra r.rn r.rc wA (enters_ofU Tryz.func69 (by kernel_rfl) rfl) RA.out.rl (by have := RA.out.rnc; have := RA.out.rm; omega) RA.out.rcell (fun y hy w2 e2 => rmeets1_c a (w.heap.size + 1) y w2 (QA.out.ext e2) (GA.out.ext e2)))
      rw [hx] at hcf
      clear hx
      go_wp2_with fail
      refine hcf.out.mono ?_
      rintro e wB ⟨rfl, eB⟩
      have EB := hid eB
      clear eB hcf
      go_wp2_with fail
      go_meet
      exact ⟨by first | rfl | (simp; done) | (simp; intro h; exact absurd h h0), EB.out⟩
  case rest =>
    obtain ⟨rfl, eB⟩ := hcut
    have BB := hid (BA.out.ext eB)
    have GB := hid (GA.out.ext eB)
    have EB := hid (EA.out.ext eB)
    have RB := hid (RA.out.ext eB)
    have QB := hid (QA.out.ext eB)
    clear eB BA GA EA RA QA
    cases x1 with
    | false =>
      have hm1 := HM.out
      simp at hm1
      subst hm1
      go_wp2
      go_ret
      exact ⟨rfl, EB.out⟩
    | true =>
    go_upto_region 3 with (fail)
    go_cut [28] (fun v wx => v = .bool (!x2) ∧ wx = wc)
    case first =>
      have c2 := BB.out.cell' (i := 2) rfl
      have c17 := GB.out.cell' H17.out
      by_cases h0 : r.an = 0
      · have q1 : decide (r.an = 0) = true := decide_eq_true h0
        have q4 : decide (0 < r.an) = false := decide_eq_false (by omega)
        have q2 : (r.an == 0) = true := by simp [h0]
        have q3 : decide ((r.an : Int) = 0) = true := decide_eq_true (by omega)
        have hx := HX2.out
        rw [q1, Bool.true_or] at hx
        subst hx
        go_wp2
        go_meet
        exact ⟨by first | rfl | (simp; done) | (simp; intro h; exact absurd h h0), rfl⟩
      · have q1 : decide (r.an = 0) = false := decide_eq_false h0
        have q4 : decide (0 < r.an) = true := decide_eq_true (by omega)
        have q2 : (r.an == 0) = false := by simp [h0]
        have q3 : decide ((r.an : Int) = 0) = false := decide_eq_false (by omega)
        have hx := HX2.out
        rw [q1, Bool.false_or] at hx
        have HXX := hid hx
        have hcf := hid (containsI_c a.act r.acts r.aa r.an r.ac wc RB.out.al (by have := RB.out.anc; have := RB.out.am; omega) RB.out.acell)
        clear hx
        go_wp2_with fail
        refine hcf.out.mono ?_
        rintro e wD ⟨b, rfl, hb, rfl⟩
        have hbx : b = x2 := (memT_of hb).trans HXX.out
        subst hbx
        clear hb hcf
        go_wp2_with fail
        go_meet
        exact ⟨by first | rfl | (simp; done) | (simp; intro h; exact absurd h h0), rfl⟩
    case rest =>
      obtain ⟨rfl, rfl⟩ := hcut
      obtain ⟨wP, hwP⟩ : ∃ wP, wP = wc := ⟨_, rfl⟩
      cases x2 with
      | false =>
        have hm1 := HM.out
        simp at hm1
        subst hm1
        go_wp2
        go_ret
        exact ⟨rfl, EB.out⟩
      | true =>
      go_upto_region 5 with (fail)
      go_cut [39] (fun v wx => v = .bool (!x3) ∧ Ext wc wx)
      case first =>
        clear hwP
        have c3 := BB.out.cell' (i := 3) rfl
        by_cases h0 : r.ln = 0
        · have q1 : decide (r.ln = 0) = true := decide_eq_true h0
          have q4 : decide (0 < r.ln) = false := decide_eq_false (by omega)
          have q2 : (r.ln == 0) = true := by simp [h0]
          have q3 : decide ((r.ln : Int) = 0) = true := decide_eq_true (by omega)
          have hx := HX3.out
          rw [q1, Bool.true_or] at hx
          subst hx
          go_wp2
          go_meet
          exact ⟨by first | rfl | simp, Ext.refl _⟩
        · have q1 : decide (r.ln = 0) = false := decide_eq_false h0
          have q4 : decide (0 < r.ln) = true := decide_eq_true (by omega)
          have q2 : (r.ln == 0) = false := by simp [h0]
          have q3 : decide ((r.ln : Int) = 0) = false := decide_eq_false (by omega)
          have hx := HX3.out
          rw [q1, Bool.false_or] at hx
          have hcf := hid (containsFS_c (fitB a.label) 72 #[.pointer (some ⟨w.heap.size + 1, 0, none⟩)] r.labels r.la r.ln r.lc wc (enters_ofU Tryz.func72 (by kernel_rfl) rfl) RB.out.ll (by have := RB.out.lnc; have := RB.out.lm; omega) RB.out.lcell (fun y hy w2 e2 => rmeets2_c a (w.heap.size + 1) y w2 (QB.out.ext e2) (RB.out.ls y hy) (HLAB.out y hy) (GB.out.ext e2)))
          rw [hx] at hcf
          clear hx
          go_wp2_with fail
          refine hcf.out.mono ?_
          rintro e wD ⟨rfl, eD⟩
          have ED := hid eD
          clear eD hcf
          go_wp2_with fail
          go_meet
          exact ⟨by first | rfl | (simp; done) | (simp; intro h; exact absurd h h0), ED.out⟩
      case rest =>
        obtain ⟨rfl, eC⟩ := hcut
        subst hwP
        have BC := hid (BB.out.ext eC)
        have GC := hid (GB.out.ext eC)
        have EC := hid (EB.out.ext eC)
        have HRV := hid (RuleR.len r)
        clear eC BB GB EB RB QB HX1 HX2 HX3
        cases x3 with
        | false =>
          have hm1 := HM.out
          simp at hm1
          subst hm1
          go_wp2
          go_ret
          exact ⟨rfl, EC.out⟩
        | true =>
        have hm := HM.out
        simp at hm
        subst hm
        have c35 := GC.out.cell' H35.out
        have hrem := HREM.out
        have hquo := HQUO.out
        go_upto_region 7 with (fail)
        go_cut [5] (fun v wx => v = .int .i64 ((T % 86400 / 3600 : Nat) : Int) ∧ wx = wc)
        case first =>
          go_wp2
          go_meet
          exact ⟨by first | rfl | (congr 1; omega) | (simp; done), rfl⟩
        case rest =>
        obtain ⟨rfl, rfl⟩ := hcut
        clear c35 hrem hquo
        have c4 := BC.out.cell' (i := 4) rfl
        have c5 := BC.out.cell' (i := 5) rfl
        have hmv := HX4.out
        have hfz2 := HFZ.out
        generalize hnat : ((T % 86400 / 3600 : Nat) : Int) = N at *
        clear HM HHN H16 H17 H18 H35 HLEN HRV BC GC HX4 HFZ HLAB HREM HQUO hnat
        generalize r.fr = fr at *
        generalize r.tt = tt at *
        by_cases hz : fr = 0 ∧ tt = 0
        · obtain ⟨rfl, rfl⟩ := hz
          have HV := hid (show M = true by rw [← hmv]; rfl)
          clear hmv hfz2
          go_wp2
          go_ret
          exact ⟨by rw [HV.out]; rfl, EC.out⟩
        · have hne : fr ≠ tt := fun h => hz ⟨hfz2 h, by rw [← h]; exact hfz2 h⟩
          have hmv2 : M = (if fr < tt then decide (fr ≤ N) && decide (N < tt) else decide (fr ≤ N) || decide (N < tt)) := by
            rw [← hmv]; unfold hoursB; rw [if_neg hne]
          have HMV := hid hmv2
          clear hmv hmv2 hne hfz2
          by_cases hf0 : fr = 0
          · have ht0 : tt ≠ 0 := fun h => hz ⟨hf0, h⟩
            have q1 : (fr == 0) = true := by simp [hf0]
            have q2 : decide (fr = 0) = true := decide_eq_true hf0
            have q3 : (tt == 0) = false := by simp [ht0]
            have q4 : decide (tt = 0) = false := decide_eq_false ht0
            clear hz hf0
            by_cases hlt : fr < tt
            · have q5 : decide (fr < tt) = true := decide_eq_true hlt
              have HV := hid (show M = (decide (fr ≤ N) && decide (N < tt)) by rw [HMV.out, if_pos hlt])
              clear HMV
              cases q6 : decide (fr ≤ N)
              all_goals
                go_wp2
                go_ret
                exact ⟨by rw [HV.out]; first | rfl | (rw [q6]; rfl) | (simp_all; done), EC.out⟩
            · have q5 : decide (fr < tt) = false := decide_eq_false hlt
              have HV := hid (show M = (decide (fr ≤ N) || decide (N < tt)) by rw [HMV.out, if_neg hlt])
              clear HMV
              cases q6 : decide (fr ≤ N)
              all_goals
                go_wp2
                go_ret
                exact ⟨by rw [HV.out]; first | rfl | (rw [q6]; rfl) | (simp_all; done), EC.out⟩
          · have q1 : (fr == 0) = false := by simp [hf0]
            have q2 : decide (fr = 0) = false := decide_eq_false hf0
            clear hz
            by_cases hlt : fr < tt
            · have q5 : decide (fr < tt) = true := decide_eq_true hlt
              have HV := hid (show M = (decide (fr ≤ N) && decide (N < tt)) by rw [HMV.out, if_pos hlt])
              clear HMV
              cases q6 : decide (fr ≤ N)
              all_goals
                go_wp2
                go_ret
                exact ⟨by rw [HV.out]; first | rfl | (rw [q6]; rfl) | (simp_all; done), EC.out⟩
            · have q5 : decide (fr < tt) = false := decide_eq_false hlt
              have HV := hid (show M = (decide (fr ≤ N) || decide (N < tt)) by rw [HMV.out, if_neg hlt])
              clear HMV
              cases q6 : decide (fr ≤ N)
              all_goals
                go_wp2
                go_ret
                exact ⟨by rw [HV.out]; first | rfl | (rw [q6]; rfl) | (simp_all; done), EC.out⟩
end

section
open Go Go.RowKit

set_option maxRecDepth 100000 in
set_option maxHeartbeats 2000000 in
theorem ruleFault_c (r : RuleR) (w : World) (hr : r.Ok w) :
    Calls Tryz.prog 78 #[.agg r.v.toArray] w fun e w' => e = .returned (.int .i64 (ruleE r)) ∧ Ext w w' := by
  have hf1 := hid (fun w' (h : r.Ok w') => containsFS_c badS 114 #[] r.roles r.ra r.rn r.rc w' (enters_ofU Tryz.func114 (by kernel_rfl) rfl) h.rl (by have := h.rnc; have := h.rm; omega) h.rcell (fun y hy w2 _ => (notName_p y w2 (h.rs y hy)).mono fun e w3 ⟨he, hw⟩ => ⟨he, hw ▸ Ext.refl _⟩))
  have hf2 := hid (fun w' => notName_p r.ow w' hr.os)
  have hf3 := hid (fun w' (h : r.Ok w') => containsFI_c badA 115 #[] r.acts r.aa r.an r.ac w' (enters_ofU Tryz.func115 (by kernel_rfl) rfl) h.al (by have := h.anc; have := h.am; omega) h.acell (fun y hy w2 _ => (fault1_c y w2).mono fun e w3 ⟨he, hw⟩ => ⟨he, hw ▸ Ext.refl _⟩))
  have hf4 := hid (fun w' (h : r.Ok w') => containsFS_c badP 117 #[] r.labels r.la r.ln r.lc w' (enters_ofU Tryz.func117 (by kernel_rfl) rfl) h.ll (by have := h.lnc; have := h.lm; omega) h.lcell (fun y hy w2 _ => (fault2_c y w2 (h.ls y hy)).mono fun e w3 ⟨he, hw⟩ => ⟨he, hw ▸ Ext.refl _⟩))
  have ht1 := hid (fun w' (h : r.Ok w') => twiceS_c r.roles r.ra r.rn r.rc w' h.rl (by have := h.rnc; have := h.rm; omega) h.rcell (keysS h.rs))
  have ht2 := hid (fun w' (h : r.Ok w') => twiceI_c r.acts r.aa r.an r.ac w' h.al (by have := h.anc; have := h.am; omega) h.acell (keysI h.awf))
  have ht3 := hid (fun w' (h : r.Ok w') => twiceS_c r.labels r.la r.ln r.lc w' h.ll (by have := h.lnc; have := h.lm; omega) h.lcell (keysS h.ls))
  have HR := hid hr
  clear hr
  go_enter Tryz.func78, Tryz.ntmps78
  go_upto_region 1 with (fail)
  generalize hwA : World.alloc w _ = wA
  have bA : Blk wA w.heap.size r.v 50 := by rw [← hwA]; exact Blk.mk_alloc rfl rfl
  have eA : Ext w wA := by rw [← hwA]; exact (Ext.refl w).alloc _
  have BA := hid bA
  have EA := hid eA
  clear hwA bA eA
  go_cut [3] (fun v wx => v = .bool (k1 r) ∧ Ext wA wx)
  case first =>
    have c1 := BA.out.cell' (i := 1) rfl
    have c2 := BA.out.cell' (i := 2) rfl
    have c3 := BA.out.cell' (i := 3) rfl
    go_wp2
    all_goals
      go_meet
      refine ⟨?_, Ext.refl _⟩
      unfold k1
      first | rfl | (congr 1; simp_all; done) | (congr 1; simp_all; omega)
  case rest =>
    obtain ⟨rfl, eB⟩ := hcut
    have BB := hid (BA.out.ext eB)
    have EB := hid (EA.out.ext eB)
    clear eB BA EA
    cases h1 : k1 r with
    | true =>
      go_wp2
      go_ret
      exact ⟨by simp [ruleE, h1], EB.out⟩
    | false =>
    have HRB := hid (HR.out.ext EB.out)
    go_upto_region 3 with (fail)
    go_cut [20] (fun v wx => v = .bool (k2 r) ∧ Ext wc wx)
    case first =>
      have c1 := BB.out.cell' (i := 1) rfl
      go_wp2_with fail
      refine (hf1.out wc HRB.out).mono ?_
      rintro e wD ⟨rfl, eD⟩
      generalize hb1 : r.roles.any badS = b1
      have HB1 := hid hb1
      clear hb1
      have c7 := (BB.out.ext eD).cell' (i := 7) rfl
      have ED := hid eD
      clear eD c1
      go_wp2_with (refine (hf2.out _).mono ?_; rintro e w4 ⟨rfl, rfl⟩)
      all_goals
        go_meet
        refine ⟨?_, ED.out⟩
        unfold k2
        rw [HB1.out]
        unfold emptyB badS
        first | rfl | (congr 1; simp_all; done)
    case rest =>
      obtain ⟨rfl, eC⟩ := hcut
      have BC := hid (BB.out.ext eC)
      have EC := hid (EB.out.ext eC)
      have HRC := hid (HRB.out.ext eC)
      clear eC BB EB HRB hf1 hf2
      cases h2 : k2 r with
      | true =>
        go_wp2
        go_ret
        exact ⟨by simp [ruleE, h1, h2], EC.out⟩
      | false =>
      have c2 := BC.out.cell' (i := 2) rfl
      go_wp2_with fail
      refine (hf3.out wc HRC.out).mono ?_
      rintro e wD ⟨rfl, eD⟩
      have BD := hid (BC.out.ext eD)
      have ED := hid (EC.out.ext eD)
      have HRD := hid (HRC.out.ext eD)
      clear eD BC EC HRC
      clear c2 hf3
      cases h3 : k3 r with
      | true =>
        have h3' : r.acts.any badA = true := h3
        rw [h3']
        go_wp2
        go_ret
        exact ⟨by simp [ruleE, h1, h2, h3], ED.out⟩
      | false =>
      have h3' : r.acts.any badA = false := h3
      rw [h3']
      have c3 := BD.out.cell' (i := 3) rfl
      go_wp2_with fail
      refine (hf4.out wD HRD.out).mono ?_
      rintro e wE ⟨rfl, eE⟩
      have BE := hid (BD.out.ext eE)
      have EE := hid (ED.out.ext eE)
      have HRE := hid (HRD.out.ext eE)
      clear eE BD ED HRD
      clear c3 hf4
      cases h4 : k4 r with
      | true =>
        have h4' : r.labels.any badP = true := h4
        rw [h4']
        go_wp2
        go_ret
        exact ⟨by simp [ruleE, h1, h2, h3, h4], EE.out⟩
      | false =>
      have h4' : r.labels.any badP = false := h4
      rw [h4']
      clear h3' h4'
      go_upto_region 9 with (fail)
      go_cut [42] (fun v wx => v = .bool (k5 r) ∧ Ext wE wx)
      case first =>
        have c1 := BE.out.cell' (i := 1) rfl
        go_wp2_with fail
        refine (ht1.out wE HRE.out).mono ?_
        rintro e wF ⟨b1, rfl, hb1, eF⟩
        have HB1 := hid (dupB_of hb1)
        have BF := hid (BE.out.ext eF)
        have HRF := hid (HRE.out.ext eF)
        have EF := hid eF
        clear hb1 eF c1
        have c2 := BF.out.cell' (i := 2) rfl
        cases b1 with
        | true =>
          go_wp2
          go_meet
          exact ⟨by unfold k5; rw [← HB1.out]; rfl, EF.out⟩
        | false =>
          go_wp2_with fail
          refine (ht2.out wF HRF.out).mono ?_
          rintro e wG ⟨b2, rfl, hb2, eG⟩
          have HB2 := hid (dupB_of hb2)
          have BG := hid (BF.out.ext eG)
          have HRG := hid (HRF.out.ext eG)
          have EG := hid (EF.out.ext eG)
          clear hb2 eG c2
          have c3 := BG.out.cell' (i := 3) rfl
          cases b2 with
          | true =>
            go_wp2
            go_meet
            exact ⟨by unfold k5; rw [← HB1.out, ← HB2.out]; rfl, EG.out⟩
          | false =>
            go_wp2_with fail
            refine (ht3.out wG HRG.out).mono ?_
            rintro e wI ⟨b3, rfl, hb3, eI⟩
            have HB3 := hid (dupB_of hb3)
            have EI := hid (EG.out.ext eI)
            clear hb3 eI c3
            go_wp2_with fail
            go_meet
            exact ⟨by unfold k5; rw [← HB1.out, ← HB2.out, ← HB3.out]; first | rfl | simp, EI.out⟩
      case rest =>
        obtain ⟨rfl, eF⟩ := hcut
        have BF := hid (BE.out.ext eF)
        have EF := hid (EE.out.ext eF)
        clear eF BE EE HRE ht1 ht2 ht3
        cases h5 : k5 r with
        | true =>
          go_wp2
          go_ret
          exact ⟨by simp [ruleE, h1, h2, h3, h4, h5], EF.out⟩
        | false =>
        have c4 := BF.out.cell' (i := 4) rfl
        have c5 := BF.out.cell' (i := 5) rfl
        have c6 := BF.out.cell' (i := 6) rfl
        have c7 := BF.out.cell' (i := 7) rfl
        have c0 := BF.out.cell' (i := 0) rfl
        go_upto_region 11 with (fail)
        go_cut [56] (fun v wx => v = .bool (k6 r) ∧ wx = wc)
        case first =>
          have ho1 := hid (fun w' => outsideP_c r.fr 0 24 w')
          have ho2 := hid (fun w' => outsideP_c r.tt 0 24 w')
          have ho3 := hid (fun w' => outsideP_c r.nd 0 16 w')
          have hk6 := hid (show k6 r = (((decide (r.fr < 0) || decide (24 < r.fr)) || (decide (r.tt < 0) || decide (24 < r.tt)) || (decide (r.fr = r.tt) && decide (r.fr ≠ 0))) || (decide (r.nd < 0) || decide (16 < r.nd))) from rfl)
          generalize hk : k6 r = kk at *
          clear hk
          generalize (decide (r.fr < 0) || decide (24 < r.fr)) = b1 at *
          generalize (decide (r.tt < 0) || decide (24 < r.tt)) = b2 at *
          generalize (decide (r.nd < 0) || decide (16 < r.nd)) = b3 at *
          cases b1 with
          | true =>
            have hv : kk = true := by rw [hk6.out]; rfl
            subst hv
            clear hk6 ho2 ho3
            go_wp2_with fail
            refine (ho1.out _).mono ?_
            rintro e w4 ⟨rfl, rfl⟩
            go_wp2_with fail
            go_meet
            exact ⟨rfl, rfl⟩
          | false =>
          cases b2 with
          | true =>
            have hv : kk = true := by rw [hk6.out]; rfl
            subst hv
            clear hk6 ho3
            go_wp2_with fail
            refine (ho1.out _).mono ?_
            rintro e w4 ⟨rfl, rfl⟩
            go_wp2_with fail
            refine (ho2.out _).mono ?_
            rintro e w4 ⟨rfl, rfl⟩
            go_wp2_with fail
            go_meet
            exact ⟨rfl, rfl⟩
          | false =>
          by_cases hft : r.fr = r.tt
          · by_cases hf0 : r.fr = 0
            · have hv : kk = b3 := by rw [hk6.out, decide_eq_true hft, decide_eq_false (show ¬ r.fr ≠ 0 from fun h => h hf0)]; rfl
              subst hv
              have q1 : decide (r.fr = r.tt) = true := decide_eq_true hft
              have q2 : (r.fr == r.tt) = true := by simp [hft]
              have q3 : decide (r.fr = 0) = true := decide_eq_true hf0
              have q4 : (r.fr != 0) = false := by simp [hf0]
              clear hk6 hft hf0
              go_wp2_with fail
              refine (ho1.out _).mono ?_
              rintro e w4 ⟨rfl, rfl⟩
              go_wp2_with fail
              refine (ho2.out _).mono ?_
              rintro e w4 ⟨rfl, rfl⟩
              go_wp2_with fail
              refine (ho3.out _).mono ?_
              rintro e w4 ⟨rfl, rfl⟩
              go_wp2_with fail
              go_meet
              exact ⟨by first | rfl | simp, rfl⟩
            · have hv : kk = true := by rw [hk6.out, decide_eq_true hft, decide_eq_true (show r.fr ≠ 0 from hf0)]; rfl
              subst hv
              have q1 : decide (r.fr = r.tt) = true := decide_eq_true hft
              have q2 : (r.fr == r.tt) = true := by simp [hft]
              have q3 : decide (r.fr = 0) = false := decide_eq_false hf0
              have q4 : (r.fr != 0) = true := by simp [hf0]
              clear hk6 hft hf0 ho3
              go_wp2_with fail
              refine (ho1.out _).mono ?_
              rintro e w4 ⟨rfl, rfl⟩
              go_wp2_with fail
              refine (ho2.out _).mono ?_
              rintro e w4 ⟨rfl, rfl⟩
              go_wp2_with fail
              go_meet
              exact ⟨by first | rfl | simp, rfl⟩
          · have hv : kk = b3 := by rw [hk6.out, decide_eq_false hft]; rfl
            subst hv
            have q1 : decide (r.fr = r.tt) = false := decide_eq_false hft
            have q2 : (r.fr == r.tt) = false := by simp [hft]
            clear hk6 hft
            go_wp2_with fail
            refine (ho1.out _).mono ?_
            rintro e w4 ⟨rfl, rfl⟩
            go_wp2_with fail
            refine (ho2.out _).mono ?_
            rintro e w4 ⟨rfl, rfl⟩
            go_wp2_with fail
            refine (ho3.out _).mono ?_
            rintro e w4 ⟨rfl, rfl⟩
            go_wp2_with fail
            go_meet
            exact ⟨by first | rfl | simp, rfl⟩
        case rest =>
          obtain ⟨rfl, rfl⟩ := hcut
          cases h6 : k6 r with
          | true =>
            go_wp2
            go_ret
            exact ⟨by simp [ruleE, h1, h2, h3, h4, h5, h6], EF.out⟩
          | false =>
          go_upto_region 13 with (fail)
          go_cut [82] (fun v wx => v = .bool (k7 r) ∧ wx = wc)
          case first =>
            have hk7 := hid (show k7 r = ((decide (r.nd = 0) != emptyB r.ow) || (r.deny && decide (0 < r.nd))) from rfl)
            generalize hk : k7 r = kk at *
            clear hk
            have hem := hid (show emptyB r.ow = r.ow.toList.isEmpty from rfl)
            generalize emptyB r.ow = em at *
            generalize r.deny = dn at *
            by_cases hn0 : r.nd = 0
            · have n1 : decide (r.nd = 0) = true := decide_eq_true hn0
              have n2 : (r.nd == 0) = true := by simp [hn0]
              have n3 : decide (0 < r.nd) = false := decide_eq_false (by omega)
              rw [n1, n3] at hk7
              clear hn0
              cases em with
              | true =>
                have e1 : r.ow.toList.isEmpty = true := hem.out.symm
                have e2 : r.ow.toList = [] := List.isEmpty_iff.1 e1
                have hv : kk = false := by rw [hk7.out]; cases dn <;> rfl
                subst hv
                clear hk7 hem
                cases dn
                all_goals
                  go_wp2
                  go_meet
                  exact ⟨by first | rfl | simp, rfl⟩
              | false =>
                have e1 : r.ow.toList.isEmpty = false := hem.out.symm
                have e2 : r.ow.toList ≠ [] := fun h => by rw [h] at e1; cases e1
                have hv : kk = true := by rw [hk7.out]; cases dn <;> rfl
                subst hv
                clear hk7 hem
                go_wp2
                go_meet
                exact ⟨by first | rfl | simp, rfl⟩
            · have n1 : decide (r.nd = 0) = false := decide_eq_false hn0
              have n2 : (r.nd == 0) = false := by simp [hn0]
              rw [n1] at hk7
              clear hn0
              cases em with
              | true =>
                have e1 : r.ow.toList.isEmpty = true := hem.out.symm
                have e2 : r.ow.toList = [] := List.isEmpty_iff.1 e1
                have hv : kk = true := by rw [hk7.out]; cases dn <;> rfl
                subst hv
                clear hk7 hem
                go_wp2
                go_meet
                exact ⟨by first | rfl | simp, rfl⟩
              | false =>
                have e1 : r.ow.toList.isEmpty = false := hem.out.symm
                have e2 : r.ow.toList ≠ [] := fun h => by rw [h] at e1; cases e1
                cases dn with
                | true =>
                  have hv : kk = decide (0 < r.nd) := by rw [hk7.out]; simp
                  subst hv
                  clear hk7 hem
                  go_wp2
                  go_meet
                  exact ⟨by first | rfl | simp, rfl⟩
                | false =>
                  have hv : kk = false := by rw [hk7.out]; rfl
                  subst hv
                  clear hk7 hem
                  go_wp2
                  go_meet
                  exact ⟨by first | rfl | simp, rfl⟩
          case rest =>
            obtain ⟨rfl, rfl⟩ := hcut
            cases h7 : k7 r with
            | true =>
              go_wp2
              go_ret
              exact ⟨by simp [ruleE, h1, h2, h3, h4, h5, h6, h7], EF.out⟩
            | false =>
              go_wp2
              go_ret
              exact ⟨by simp [ruleE, h1, h2, h3, h4, h5, h6, h7], EF.out⟩
end

section
open Go Go.RowKit

def rulesV (rs : List RuleR) : List Value := rs.flatMap RuleR.v
theorem rulesV_length (rs : List RuleR) : (rulesV rs).length = 8 * rs.length := by
  induction rs with
  | nil => rfl
  | cons r rs ih => unfold rulesV at ih ⊢; rw [List.flatMap_cons, List.length_append, ih, RuleR.len, List.length_cons]; omega
theorem rulesV_at {rs : List RuleR} {k : Nat} {r : RuleR} (h : rs[k]? = some r) : ((rulesV rs).drop (k * 8)).take 8 = r.v := by
  induction rs generalizing k with
  | nil => simp at h
  | cons x rs ih =>
    unfold rulesV at ih ⊢
    rw [List.flatMap_cons]
    cases k with
    | zero =>
      simp only [List.getElem?_cons_zero, Option.some.injEq] at h
      subst h
      rw [Nat.zero_mul, List.drop_zero, List.take_append_of_le_length (by rw [RuleR.len]; exact Nat.le_refl _), List.take_of_length_le (by rw [RuleR.len]; exact Nat.le_refl _)]
    | succ k =>
      rw [List.getElem?_cons_succ] at h
      rw [List.drop_append, RuleR.len, List.drop_of_length_le (by rw [RuleR.len]; omega), List.nil_append, show (k + 1) * 8 - 8 = k * 8 by omega]
      exact ih h
structure PolOk (w : World) (pa : Option Addr) (pn pc : Nat) (rs : List RuleR) : Prop where
  hl : rs.length = pn
  hnc : pn ≤ pc
  hm : pn ≤ 140737488355328
  cell : Cells w pa (rulesV rs)
  ok : ∀ r ∈ rs, r.Ok w
theorem PolOk.ext {w w' : World} {pa : Option Addr} {pn pc : Nat} {rs : List RuleR} (h : PolOk w pa pn pc rs) (e : Ext w w') : PolOk w' pa pn pc rs := ⟨h.hl, h.hnc, h.hm, h.cell.ext e, fun r hr => (h.ok r hr).ext e⟩
theorem PolOk.at {w : World} {pa : Option Addr} {pn pc : Nat} {rs : List RuleR} (h : PolOk w pa pn pc rs) {k : Nat} {r : RuleR} (hk : rs[k]? = some r) : ∃ A, pa = some A ∧ CellsAt w (A.add (k * 8)) r.v := by
  have hk2 := (List.getElem?_eq_some_iff.1 hk).1
  obtain ⟨b, o, rfl, hc⟩ := h.cell.some_of (by rw [rulesV_length]; omega)
  refine ⟨_, rfl, fun j u hu => ?_⟩
  rw [addr_add, addr_add, Nat.add_assoc]
  refine hc _ _ ?_
  rw [← rulesV_at hk] at hu
  have hj : j < 8 := by
    have := (List.getElem?_eq_some_iff.1 hu).1
    rw [List.length_take] at this; omega
  rw [List.getElem?_take_of_lt hj, List.getElem?_drop] at hu
  exact hu
noncomputable def firstE : List RuleR → Int
  | [] => 0
  | r :: rs => if ruleE r = 0 then firstE rs else ruleE r
theorem firstE_hit {rs : List RuleR} {k : Nat} {r : RuleR} (h : rs[k]? = some r) (hp : ∀ x ∈ rs.take k, ruleE x = 0) (hr : ruleE r ≠ 0) : firstE rs = ruleE r := by
  induction rs generalizing k with
  | nil => simp at h
  | cons x rs ih =>
    cases k with
    | zero =>
      simp only [List.getElem?_cons_zero, Option.some.injEq] at h
      subst h
      unfold firstE; rw [if_neg hr]
    | succ k =>
      rw [List.getElem?_cons_succ] at h
      unfold firstE
      rw [if_pos (hp x (by simp))]
      exact ih h (fun y hy => hp y (by rw [List.take_succ_cons]; exact List.mem_cons_of_mem _ hy))
theorem firstE_zero {rs : List RuleR} (h : ∀ x ∈ rs, ruleE x = 0) : firstE rs = 0 := by
  induction rs with
  | nil => rfl
  | cons x rs ih => unfold firstE; rw [if_pos (h x (by simp))]; exact ih fun y hy => h y (List.mem_cons_of_mem _ hy)
theorem firstE_all {rs : List RuleR} (h : firstE rs = 0) : ∀ x ∈ rs, ruleE x = 0 := by
  induction rs with
  | nil => simp
  | cons x rs ih =>
    unfold firstE at h
    by_cases h0 : ruleE x = 0
    · rw [if_pos h0] at h
      intro y hy
      rcases List.mem_cons.1 hy with rfl | hy
      · exact h0
      · exact ih h y hy
    · rw [if_neg h0] at h; exact absurd h h0
noncomputable def polE (rs : List RuleR) (pn : Nat) : Int := if (100 : Int) < (pn : Int) then 5 else firstE rs
theorem size_rule : (Tryz.prog.info? 50).map (·.size) = some 8 := by kernel_rfl
theorem ruleV_one (r : RuleR) : ∀ v ∈ r.v, v.oneCell' = true := by
  intro v hv
  unfold RuleR.v at hv
  simp at hv
  rcases hv with rfl | rfl | rfl | rfl | rfl | rfl | rfl | rfl <;> rfl
def zeroRule : List Value := [.bool false, .slice none 0 0, .slice none 0 0, .slice none 0 0, .int .i64 0, .int .i64 0, .int .i64 0, .string ⟨#[]⟩]

set_option maxRecDepth 100000 in
set_option maxHeartbeats 2000000 in
theorem check_c (pa : Option Addr) (pn pc : Nat) (rs : List RuleR) (w : World) (hp : PolOk w pa pn pc rs) :
    Calls Tryz.prog 51 #[.agg #[.slice pa pn pc]] w fun e w' => e = .returned (.int .i64 (polE rs pn)) ∧ Ext w w' := by
  have HPO := hid hp
  have hn63 : pn ≤ 140737488355328 := by have := hp.hnc; have := hp.hm; omega
  have hrf := hid (fun r w' h => ruleFault_c r w' h)
  clear hp
  obtain ⟨E, hE⟩ : ∃ E, polE rs pn = E := ⟨_, rfl⟩
  have HE := hid hE
  rw [hE]
  clear hE
  go_enter Tryz.func51, Tryz.ntmps51
  go_upto_region 1 with (fail)
  generalize hwA : World.alloc w _ = wA
  have bA : Blk wA w.heap.size [.slice pa pn pc] 24 := by rw [← hwA]; exact Blk.mk_alloc rfl rfl
  have eA : Ext w wA := by rw [← hwA]; exact (Ext.refl w).alloc _
  have EA := hid eA
  have c0 := bA.cell' (i := 0) rfl
  clear hwA bA eA
  by_cases hbig : (100 : Int) < (pn : Int)
  · have d1 : decide ((100 : Int) < (pn : Int)) = true := decide_eq_true hbig
    have d2 : decide (100 < pn) = true := decide_eq_true (by omega)
    have HV := hid (show E = 5 by rw [← HE.out]; unfold polE; rw [if_pos hbig])
    clear hbig HE
    go_wp2
    go_ret
    exact ⟨by rw [HV.out]; rfl, EA.out⟩
  have d1 : decide ((100 : Int) < (pn : Int)) = false := decide_eq_false hbig
  have d2 : decide (100 < pn) = false := decide_eq_false (by omega)
  have HV := hid (show E = firstE rs by rw [← HE.out]; unfold polE; rw [if_neg hbig])
  clear HE
  go_wp2
  go_loopw [13] (fun i wr => ∃ k : Nat, k ≤ pn ∧ i = .int .i64 (k : Int) ∧ (∀ x ∈ rs.take k, ruleE x = 0) ∧ Ext w wr) (fun i _ => pn - (intOf i).toNat)
  case atStart => exact ⟨0, by omega, rfl, by simp, EA.out⟩
  case round =>
    obtain ⟨k, hk, rfl, hpre, e1⟩ := hrel
    have E1 := hid e1
    have HPR := hid hpre
    clear e1 hpre
    by_cases hlt : k < pn
    · obtain ⟨r, hrk⟩ : ∃ r, rs[k]? = some r := ⟨rs[k]'(by rw [HPO.out.hl]; exact hlt), by simp⟩
      obtain ⟨A, rfl, hca⟩ := (HPO.out.ext E1.out).at hrk
      have HCA := hid hca
      have HOK := hid ((HPO.out.ok r (List.mem_of_getElem? hrk)).ext E1.out)
      have HRL := hid (RuleR.len r)
      have HRK := hid hrk
      clear hca hrk
      have hro := ruleV_one r
      go_wp2_with (first | (refine wpl_run rfl (exec_index (i := k) rfl rfl rfl Tryz.underlying22 size_rule hlt _) ?_) | (refine wpl_run rfl (exec_load_at rfl rfl HCA.out agg_rule HRL.out) ?_) | (refine wpl_storew rfl _ (.tmp 4) _ rfl rfl rfl (Blk.mk_alloc (vs := zeroRule) rfl rfl) agg_rule rfl HRL.out hro ?_))
      intro wB bB uB
      have eB : Ext wr wB := uB.ext ((Ext.refl wr).alloc _) (Nat.le_refl _)
      have BB := hid bB
      have EB := hid (E1.out.ext eB)
      have HOB := hid (HOK.out.ext eB)
      clear bB uB eB HOK HCA
      generalize wr.heap.size = gr at *
      go_wp2_with (refine wpl_loadw rfl 50 (.tmp 4) rfl rfl BB.out agg_rule HRL.out ?_)
      refine (hrf.out r wB HOB.out).mono ?_
      rintro e wC ⟨rfl, eC⟩
      have EC := hid (EB.out.ext eC)
      clear eC BB EB HOB
      by_cases h0 : ruleE r = 0
      · have q1 : (ruleE r != 0) = false := by simp [h0]
        have q2 : decide (ruleE r = 0) = true := decide_eq_true h0
        have HN := hid (show ∀ x ∈ rs.take (k + 1), ruleE x = 0 from fun x hx => by
          rw [List.take_add_one, HRK.out, List.mem_append] at hx
          rcases hx with hx | hx
          · exact HPR.out x hx
          · simp at hx; rw [hx]; exact h0)
        generalize ruleE r = er at *
        subst h0
        clear HPR HRK
        go_wp2
        go_roundw
        case rel => exact ⟨k + 1, by omega, by go_num, HN.out, EC.out⟩
        case measure => simp [intOf]; omega
      · have q1 : (ruleE r != 0) = true := by simp [h0]
        have q2 : decide (ruleE r = 0) = false := decide_eq_false h0
        have HN := hid (HV.out.trans (firstE_hit HRK.out HPR.out h0))
        generalize ruleE r = er at *
        clear HPR HRK
        go_wp2
        go_ret
        exact ⟨by rw [HN.out]; rfl, EC.out⟩
    · obtain rfl : k = pn := by omega
      have hres := HPR.out
      rw [List.take_of_length_le (by rw [HPO.out.hl]; exact Nat.le_refl _)] at hres
      have HR := hid (HV.out.trans (firstE_zero hres))
      clear hres
      go_wp2
      go_ret
      exact ⟨by rw [HR.out]; rfl, E1.out⟩
end

section
open Go Go.RowKit

set_option maxRecDepth 100000 in
set_option maxHeartbeats 2000000 in
theorem checkPolicy_c (pa : Option Addr) (pn pc : Nat) (rs : List RuleR) (w : World) (hp : PolOk w pa pn pc rs) :
    Calls Tryz.prog 8 #[.agg #[.slice pa pn pc]] w fun e w' => e = .returned (.int .i64 (polE rs pn)) ∧ Ext w w' := by
  have HPO := hid hp
  have hn63 : pn ≤ 140737488355328 := by have := hp.hnc; have := hp.hm; omega
  have hrf := hid (fun r w' h => ruleError_c r w' h)
  clear hp
  obtain ⟨E, hE⟩ : ∃ E, polE rs pn = E := ⟨_, rfl⟩
  have HE := hid hE
  rw [hE]
  clear hE
  go_enter Tryz.func8, Tryz.ntmps8
  go_upto_region 1 with (fail)
  generalize hwA : World.alloc w _ = wA
  have bA : Blk wA w.heap.size [.slice pa pn pc] 24 := by rw [← hwA]; exact Blk.mk_alloc rfl rfl
  have eA : Ext w wA := by rw [← hwA]; exact (Ext.refl w).alloc _
  have EA := hid eA
  have c0 := bA.cell' (i := 0) rfl
  clear hwA bA eA
  by_cases hbig : (100 : Int) < (pn : Int)
  · have d1 : decide ((100 : Int) < (pn : Int)) = true := decide_eq_true hbig
    have d2 : decide (100 < pn) = true := decide_eq_true (by omega)
    have HV := hid (show E = 5 by rw [← HE.out]; unfold polE; rw [if_pos hbig])
    clear hbig HE
    go_wp2
    go_ret
    exact ⟨by rw [HV.out]; rfl, EA.out⟩
  have d1 : decide ((100 : Int) < (pn : Int)) = false := decide_eq_false hbig
  have d2 : decide (100 < pn) = false := decide_eq_false (by omega)
  have HV := hid (show E = firstE rs by rw [← HE.out]; unfold polE; rw [if_neg hbig])
  clear HE
  go_wp2
  go_loopw [13] (fun i wr => ∃ k : Nat, k ≤ pn ∧ i = .int .i64 (k : Int) ∧ (∀ x ∈ rs.take k, ruleE x = 0) ∧ Ext w wr) (fun i _ => pn - (intOf i).toNat)
  case atStart => exact ⟨0, by omega, rfl, by simp, EA.out⟩
  case round =>
    obtain ⟨k, hk, rfl, hpre, e1⟩ := hrel
    have E1 := hid e1
    have HPR := hid hpre
    clear e1 hpre
    by_cases hlt : k < pn
    · obtain ⟨r, hrk⟩ : ∃ r, rs[k]? = some r := ⟨rs[k]'(by rw [HPO.out.hl]; exact hlt), by simp⟩
      obtain ⟨A, rfl, hca⟩ := (HPO.out.ext E1.out).at hrk
      have HCA := hid hca
      have HOK := hid ((HPO.out.ok r (List.mem_of_getElem? hrk)).ext E1.out)
      have HRL := hid (RuleR.len r)
      have HRK := hid hrk
      clear hca hrk
      have hro := ruleV_one r
      go_wp2_with (first | (refine wpl_run rfl (exec_index (i := k) rfl rfl rfl Tryz.underlying22 size_rule hlt _) ?_) | (refine wpl_run rfl (exec_load_at rfl rfl HCA.out agg_rule HRL.out) ?_) | (refine wpl_storew rfl _ (.tmp 4) _ rfl rfl rfl (Blk.mk_alloc (vs := zeroRule) rfl rfl) agg_rule rfl HRL.out hro ?_))
      intro wB bB uB
      have eB : Ext wr wB := uB.ext ((Ext.refl wr).alloc _) (Nat.le_refl _)
      have BB := hid bB
      have EB := hid (E1.out.ext eB)
      have HOB := hid (HOK.out.ext eB)
      clear bB uB eB HOK HCA
      generalize wr.heap.size = gr at *
      go_wp2_with (refine wpl_loadw rfl 50 (.tmp 4) rfl rfl BB.out agg_rule HRL.out ?_)
      refine (hrf.out r wB HOB.out).mono ?_
      rintro e wC ⟨rfl, eC⟩
      have EC := hid (EB.out.ext eC)
      clear eC BB EB HOB
      by_cases h0 : ruleE r = 0
      · have q1 : (ruleE r != 0) = false := by simp [h0]
        have q2 : decide (ruleE r = 0) = true := decide_eq_true h0
        have HN := hid (show ∀ x ∈ rs.take (k + 1), ruleE x = 0 from fun x hx => by
          rw [List.take_add_one, HRK.out, List.mem_append] at hx
          rcases hx with hx | hx
          · exact HPR.out x hx
          · simp at hx; rw [hx]; exact h0)
        generalize ruleE r = er at *
        subst h0
        clear HPR HRK
        go_wp2
        go_roundw
        case rel => exact ⟨k + 1, by omega, by go_num, HN.out, EC.out⟩
        case measure => simp [intOf]; omega
      · have q1 : (ruleE r != 0) = true := by simp [h0]
        have q2 : decide (ruleE r = 0) = false := decide_eq_false h0
        have HN := hid (HV.out.trans (firstE_hit HRK.out HPR.out h0))
        generalize ruleE r = er at *
        clear HPR HRK
        go_wp2
        go_ret
        exact ⟨by rw [HN.out]; rfl, EC.out⟩
    · obtain rfl : k = pn := by omega
      have hres := HPR.out
      rw [List.take_of_length_le (by rw [HPO.out.hl]; exact Nat.le_refl _)] at hres
      have HR := hid (HV.out.trans (firstE_zero hres))
      clear hres
      go_wp2
      go_ret
      exact ⟨by rw [HR.out]; rfl, E1.out⟩
end

section
open Go Go.RowKit

structure DecR where
  al : Bool
  ru : Int
  nd : Int
  ow : ByteArray
def DecR.v (d : DecR) : List Value := [.bool d.al, .int .i64 d.ru, .int .i64 d.nd, .string d.ow]
theorem DecR.len (d : DecR) : d.v.length = 4 := rfl
theorem decV_one (d : DecR) : ∀ v ∈ d.v, v.oneCell' = true := by
  intro v hv
  unfold DecR.v at hv
  simp at hv
  rcases hv with rfl | rfl | rfl | rfl <;> rfl
def zeroDec : DecR := ⟨false, 0, 0, ⟨#[]⟩⟩
def noneDec : DecR := ⟨false, -1, 0, ⟨#[]⟩⟩
def denyDec (i : Nat) : DecR := ⟨false, i, 0, ⟨#[]⟩⟩
def bestDec : Option (Nat × RuleR) → DecR
  | none => noneDec
  | some (b, r) => ⟨true, b, r.nd, r.ow⟩
def betterB (r : RuleR) : Option (Nat × RuleR) → Bool
  | none => true
  | some (_, q) => decide (r.nd < q.nd)
noncomputable def decF (a : AskR) : List RuleR → Nat → Option (Nat × RuleR) → DecR
  | [], _, best => bestDec best
  | r :: rs, i, best => if meetsB r a then (if r.deny then denyDec i else decF a rs (i + 1) (if betterB r best then some (i, r) else best)) else decF a rs (i + 1) best

theorem drop_at {rs : List RuleR} {k : Nat} {r : RuleR} (h : rs[k]? = some r) : rs.drop k = r :: rs.drop (k + 1) := by
  obtain ⟨hk, rfl⟩ := List.getElem?_eq_some_iff.1 h
  exact List.drop_eq_getElem_cons hk
theorem decF_no {a : AskR} {rs : List RuleR} {k : Nat} {r : RuleR} {best : Option (Nat × RuleR)} (h : rs[k]? = some r) (hm : meetsB r a = false) : decF a (rs.drop k) k best = decF a (rs.drop (k + 1)) (k + 1) best := by
  rw [drop_at h]; conv => lhs; unfold decF
  rw [hm]; simp
theorem decF_deny {a : AskR} {rs : List RuleR} {k : Nat} {r : RuleR} {best : Option (Nat × RuleR)} (h : rs[k]? = some r) (hm : meetsB r a = true) (hd : r.deny = true) : decF a (rs.drop k) k best = denyDec k := by
  rw [drop_at h]; unfold decF
  rw [hm, hd]; simp
theorem decF_yes {a : AskR} {rs : List RuleR} {k : Nat} {r : RuleR} {best : Option (Nat × RuleR)} (h : rs[k]? = some r) (hm : meetsB r a = true) (hd : r.deny = false) : decF a (rs.drop k) k best = decF a (rs.drop (k + 1)) (k + 1) (if betterB r best then some (k, r) else best) := by
  rw [drop_at h]; conv => lhs; unfold decF
  rw [hm, hd]; simp
theorem decF_end {a : AskR} {rs : List RuleR} {k : Nat} {best : Option (Nat × RuleR)} (h : rs.length ≤ k) : decF a (rs.drop k) k best = bestDec best := by
  rw [List.drop_of_length_le h]; rfl
/-- a refusal that is met is the answer, whatever was best before -/
theorem decF_first {a : AskR} : ∀ (rs : List RuleR) (i k : Nat) (r : RuleR) (best : Option (Nat × RuleR)), rs[k]? = some r → (∀ x ∈ rs.take k, ¬ (meetsB x a = true ∧ x.deny = true)) → meetsB r a = true → r.deny = true → decF a rs i best = denyDec (i + k)
  | [], i, k, r, best, h, _, _, _ => by simp at h
  | x :: rs, i, 0, r, best, h, _, hm, hd => by
    simp only [List.getElem?_cons_zero, Option.some.injEq] at h
    subst h
    unfold decF
    rw [hm, hd]; simp
  | x :: rs, i, k + 1, r, best, h, hp, hm, hd => by
    rw [List.getElem?_cons_succ] at h
    have hx := hp x (by simp)
    have hrest : ∀ y ∈ rs.take k, ¬ (meetsB y a = true ∧ y.deny = true) := fun y hy => hp y (by rw [List.take_succ_cons]; exact List.mem_cons_of_mem _ hy)
    unfold decF
    cases hmx : meetsB x a with
    | false =>
      simp only [Bool.false_eq_true, if_false]
      rw [decF_first rs (i + 1) k r best h hrest hm hd]; congr 1; omega
    | true =>
      cases hdx : x.deny with
      | true => exact absurd ⟨hmx, hdx⟩ hx
      | false =>
        simp only [Bool.false_eq_true, if_false, if_true]
        rw [decF_first rs (i + 1) k r _ h hrest hm hd]; congr 1; omega
noncomputable def decideD (a : AskR) (rs : List RuleR) : DecR := decF a rs 0 none
end

section
open Go Go.RowKit

def bs (s : ByteArray) : List UInt8 := s.data.toList
theorem bs_str (s : ByteArray) : sv (bs s) = .string s := by unfold sv bs strOf; rfl
theorem bs_strOf (l : List UInt8) : bs (strOf l) = l := by unfold bs strOf; simp
theorem strOf_bs (s : ByteArray) : strOf (bs s) = s := by unfold bs strOf; rfl
theorem bs_len (s : ByteArray) : (bs s).length = s.size := by unfold bs; rw [Array.length_toList]; rfl
/-- roles of a world -/
def roleWords (r : RuleR) : List (List UInt8) := r.roles.map bs ++ (if emptyB r.ow then [] else [bs r.ow])
def rolesW (rs : List RuleR) : List (List UInt8) := rs.flatMap roleWords
/-- labels of a world, as the reference gathers them -/
def refLab (s : List UInt8) : List (List UInt8) := if starL s then [headL s, headL s ++ [120]].filter isNameL else [s]
/-- and as the program does -/
def ownLab (s : List UInt8) : List (List UInt8) := headL s :: (if starL s && isNameL (headL s ++ [120]) then [headL s ++ [120]] else [])
def labWords (f : List UInt8 → List (List UInt8)) (r : RuleR) : List (List UInt8) := r.labels.flatMap fun s => f (bs s)
def labW (f : List UInt8 → List (List UInt8)) (rs : List RuleR) : List (List UInt8) := [[], [120]] ++ rs.flatMap (labWords f)
theorem headL_nostar {s : List UInt8} (h : starL s = false) : headL s = s := by
  unfold headL Lib.trimSuffix
  unfold starL at h
  simp [h]
theorem lab_mem {s : List UInt8} (hp : patL s = true) (x : List UInt8) : x ∈ [] :: refLab s ↔ x ∈ [] :: ownLab s := by
  unfold refLab ownLab
  unfold patL at hp
  cases hs : starL s with
  | false =>
    rw [headL_nostar hs]
    simp
  | true =>
    rw [hs] at hp
    simp only [Bool.true_and, Bool.or_eq_true, if_true, List.isEmpty_iff] at hp ⊢
    rcases hp with hp | hp
    · cases hx : isNameL (headL s ++ [120]) <;> simp [hp, hx]
    · rw [hp]
      have h0 : isNameL ([] : List UInt8) = false := by decide
      cases hx : isNameL (([] : List UInt8) ++ [120]) <;> (try rw [List.nil_append] at hx) <;> simp [h0, hx]
theorem labW_mem {rs : List RuleR} (hp : ∀ r ∈ rs, ∀ s ∈ r.labels, patL (bs s) = true) (x : List UInt8) : x ∈ labW refLab rs ↔ x ∈ labW ownLab rs := by
  unfold labW labWords
  simp only [List.mem_append, List.mem_flatMap]
  have key : ∀ r ∈ rs, ∀ s ∈ r.labels, (x ∈ refLab (bs s) → x = [] ∨ x ∈ ownLab (bs s)) ∧ (x ∈ ownLab (bs s) → x = [] ∨ x ∈ refLab (bs s)) := by
    intro r hr s hs
    have := lab_mem (hp r hr s hs) x
    simp only [List.mem_cons] at this
    exact ⟨fun h => this.1 (.inr h), fun h => this.2 (.inr h)⟩
  constructor
  · rintro (h | ⟨r, hr, s, hs, h⟩)
    · exact .inl h
    · rcases (key r hr s hs).1 h with rfl | h2
      · exact .inl (by simp)
      · exact .inr ⟨r, hr, s, hs, h2⟩
  · rintro (h | ⟨r, hr, s, hs, h⟩)
    · exact .inl h
    · rcases (key r hr s hs).2 h with rfl | h2
      · exact .inl (by simp)
      · exact .inr ⟨r, hr, s, hs, h2⟩
/-- hours of a world -/
def houWords (r : RuleR) : List Int := [r.fr, r.tt].filter fun h => decide (h < 24)
def houW (rs : List RuleR) : List Int := 0 :: rs.flatMap houWords
/-- sets of roles -/
def pairsW : List (List UInt8) → List (List (List UInt8))
  | [] => []
  | r :: rs => rs.map (fun t => [r, t]) ++ pairsW rs
def setsW (ro : List (List UInt8)) : List (List (List UInt8)) := [] :: (ro.map fun r => [r]) ++ pairsW ro ++ (if 3 ≤ ro.length then [ro] else [])
theorem pairsW_len : ∀ ro : List (List UInt8), 2 * (pairsW ro).length + ro.length = ro.length * ro.length
  | [] => rfl
  | r :: rs => by
    have := pairsW_len rs
    unfold pairsW
    rw [List.length_append, List.length_map, List.length_cons]
    have h2 : (rs.length + 1) * (rs.length + 1) = rs.length * rs.length + 2 * rs.length + 1 := by rw [Nat.add_mul, Nat.mul_add]; omega
    omega
theorem setsW_pos (ro : List (List UInt8)) : 0 < (setsW ro).length := by unfold setsW; simp
theorem setsW_le (ro : List (List UInt8)) (h : ro.length ≤ 1700) : (setsW ro).length ≤ 1500000 := by
  have h1 := pairsW_len ro
  have h2 : ro.length * ro.length ≤ 1700 * ro.length := Nat.mul_le_mul h (Nat.le_refl _)
  unfold setsW
  rw [List.length_append, List.length_append, List.length_cons, List.length_map]
  split <;> simp <;> omega
/-- a set of roles with its memory -/
structure SetR where
  a : Option Addr
  n : Nat
  c : Nat
  roles : List (List UInt8)
def SetR.v (s : SetR) : Value := .slice s.a s.n s.c
structure SetR.Ok (w : World) (s : SetR) : Prop where
  l : s.roles.length = s.n
  nc : s.n ≤ s.c
  cm : s.n ≤ 140737488355328
  cell : Cells w s.a (s.roles.map sv)
  sz : ∀ x ∈ s.roles, x.length ≤ 140737488355328
theorem SetR.Ok.ext {w w' : World} {s : SetR} (h : s.Ok w) (e : Ext w w') : s.Ok w' := ⟨h.l, h.nc, h.cm, h.cell.ext e, h.sz⟩
def zer (n : Nat) : List UInt8 := List.replicate n 0
def askW (s : SetR) (act : Int) (l : List UInt8) (h : Int) : AskR := ⟨zer 16, s.a, s.n, s.c, s.roles.map strOf, act, strOf l, zer 16, 3600 * h, zer 32⟩
def hoursA (s : SetR) (act : Int) (l : List UInt8) (hs : List Int) : List AskR := hs.map (askW s act l)
def labsA (s : SetR) (act : Int) (ls : List (List UInt8)) (hs : List Int) : List AskR := ls.flatMap fun l => hoursA s act l hs
def actsA (s : SetR) (zs : List Int) (ls : List (List UInt8)) (hs : List Int) : List AskR := zs.flatMap fun a => labsA s a ls hs
def asksA (ss : List SetR) (ls : List (List UInt8)) (hs : List Int) : List AskR := ss.flatMap fun s => actsA s ((List.range 12).map fun (i : Nat) => ((i + 1 : Nat) : Int)) ls hs
theorem asksA_len (ss : List SetR) (ls : List (List UInt8)) (hs : List Int) : (asksA ss ls hs).length = ss.length * 12 * ls.length * hs.length := by
  unfold asksA actsA labsA hoursA
  simp only [List.length_flatMap, List.length_map, List.map_const', List.sum_replicate_nat, List.length_range]
  rw [Nat.mul_assoc, Nat.mul_assoc]
end

section
open Go Go.RowKit

/-- the state behind the first n blocks -/
def absN (s t : List UInt8) : Nat → List UInt8
  | 0 => s
  | n + 1 => absorb (absN s t n) ((t.drop (32 * n)).take 32)
theorem absN_length {s t : List UInt8} (hs : s.length = 64) (n : Nat) : (absN s t n).length = 64 := by
  cases n with
  | zero => exact hs
  | succ n => exact absorb_length _ _
theorem absN_append {s t b : List UInt8} (n : Nat) (h : 32 * n ≤ t.length) : absN s (t ++ b) n = absN s t n := by
  induction n with
  | zero => rfl
  | succ n ih =>
    rw [absN, absN, ih (by omega), List.drop_append_of_le_length (by omega), List.take_append_of_le_length (by rw [List.length_drop]; omega)]

/-- block g is a Summer that began with s0 and took t -/
def Holds (w : World) (g : Nat) (T : TypeId) (s0 t : List UInt8) (tot : Int) : Prop :=
  ∃ r : List UInt8, r.length = 32 ∧ r.take (t.length % 32) = t.drop (32 * (t.length / 32)) ∧ Blk w g (sm (absN s0 t (t.length / 32)) r (t.length % 32 : Nat) tot) T

theorem field_have {w : World} {g : Nat} {T : TypeId} {s r : List UInt8} {h t : Int} (hb : Blk w g (sm s r h t) T) (hs : s.length = 64) (hr : r.length = 32) :
    w.cell? ⟨g, 96, none⟩ = some (.int .i64 h) := hb.cell' (sm_have h t hs hr)

theorem u8_at {l : List UInt8} {i : Nat} (h : i < l.length) : (l.map u8v)[i]? = some (.int .u8 ((l[i]?.getD 0).toNat : Int)) := by simp [h, u8v]
theorem drop_behind {t b : List UInt8} {m k : Nat} (h : t.length = 32 * m) : (t ++ b).drop (32 * (m + k)) = b.drop (32 * k) := by
  rw [List.drop_append, List.drop_of_length_le (by rw [h]; omega), List.nil_append, h, show 32 * (m + k) - 32 * m = 32 * k by omega]
def sliceLen : Value → Nat
  | .slice _ n _ => n
  | _ => 0

def takePost (w : World) (g : Nat) (T : TypeId) (s0 u : List UInt8) (tot : Int) (e : Ending) (w' : World) : Prop :=
  e = .returned (.tuple #[]) ∧ Holds w' g T s0 u tot ∧ w.grownBy w' (some g)
end

section
open Go Go.RowKit

def roomE (n : Nat) (at_ many : Int) : Int := if at_ < 0 then 4 else if (n : Int) < many ∨ (n : Int) - many < at_ then 1 else 0

/-- what a reference's cut gives -/
def CutPost (a : Option Addr) (n c : Nat) (at_ many : Int) (w : World) (e : Ending) (w' : World) : Prop :=
  w = w' ∧ e = .returned (if roomE n at_ many = 0 then .tuple #[.slice (shift a c at_.toNat) many.toNat (c - at_.toNat), .int .i64 0] else .tuple #[.slice none 0 0, .int .i64 (roomE n at_ many)])
end

section
open Go Go.RowKit

theorem roomE_zero {n : Nat} {at_ many : Int} (h : roomE n at_ many = 0) (hm : 0 ≤ many) : ∃ p : Nat, at_ = (p : Int) ∧ (p : Int) + many ≤ n := by
  unfold roomE at h
  split at h
  · cases h
  · split at h
    · cases h
    · exact ⟨at_.toNat, by omega, by omega⟩

def word4 (l : List UInt8) (p : Nat) : UInt32 := wordOf (l[p]?.getD 0) (l[p + 1]?.getD 0) (l[p + 2]?.getD 0) (l[p + 3]?.getD 0)
def numOf (l : List UInt8) (n : Nat) (at_ : Int) : Value := if roomE n at_ 4 = 0 then .tuple #[.int .u32 ((word4 l at_.toNat).toNat : Nat), .int .i64 0] else .tuple #[.int .u32 0, .int .i64 (roomE n at_ 4)]

theorem cells4 {w : World} {b off : Nat} {l : List UInt8} (h : ∀ (i : Nat) (u : Value), (l.map u8v)[i]? = some u → w.cell? ⟨b, off + i, none⟩ = some u) (i : Nat) (hi : i < l.length) :
    w.cell? ⟨b, off + i, none⟩ = some (.int .u8 ((l[i]?.getD 0).toNat : Nat)) := h i _ (by simp [hi, u8v])

theorem strOf_beq (x y : List UInt8) : ((strOf x).toList == (strOf y).toList) = (x == y) := by
  unfold strOf
  rw [ByteArray.toList_mk, ByteArray.toList_mk]

/-- the number of eight octets, as Go reads it -/
def long8 (l : List UInt8) (p : Nat) : Nat := (word4 l p).toNat * 4294967296 + (word4 l (p + 4)).toNat
def longOf (l : List UInt8) (n : Nat) (at_ : Int) : Value :=
  if roomE n at_ 8 = 0 then (if long8 l at_.toNat ≤ 4611686018427387904 then .tuple #[.int .i64 (long8 l at_.toNat : Nat), .int .i64 0] else .tuple #[.int .i64 0, .int .i64 4]) else .tuple #[.int .i64 0, .int .i64 (roomE n at_ 8)]

theorem or_u64 (x y : UInt32) : bits .or .u64 ((x.toNat : Int) * 4294967296) (y.toNat : Int) = ((x.toNat * 4294967296 + y.toNat : Nat) : Int) := by
  have hx := x.toNat_lt
  have hy := y.toNat_lt
  have ea : (BitVec.ofInt 64 ((x.toNat : Int) * 4294967296)).toNat = x.toNat * 4294967296 := by
    rw [show ((x.toNat : Int) * 4294967296) = ((x.toNat * 4294967296 : Nat) : Int) by omega]
    rw [BitVec.toNat_ofInt]; omega
  have eb : (BitVec.ofInt 64 (y.toNat : Int)).toNat = y.toNat := by rw [BitVec.toNat_ofInt]; omega
  change IntKind.u64.wrap ((BitVec.ofInt 64 ((x.toNat : Int) * 4294967296) ||| BitVec.ofInt 64 (y.toNat : Int)).toNat : Int) = _
  have := or_add x.toNat y.toNat 32 (by omega)
  rw [show (2 : Nat) ^ 32 = 4294967296 from rfl] at this
  rw [BitVec.toNat_or, ea, eb, this, IntKind.wrap_u64]; omega
end

section
open Go Go.RowKit

section
variable {P : Program} {C : World → Prop} {o : Oper} {a : Act} {K : Act → Prop}
theorem run_load_cells {b off n : Nat} {w : World} {vs : List Value} {ty : TypeId} (hb : ∀ j u, vs[j]? = some u → w.cell? ⟨b, off + j, none⟩ = some u) (ht : AggT P ty n) (hn : vs.length = n) :
    (loadVar ty ⟨b, off, none⟩).run P w = .ok (.agg vs.toArray) w := by
  obtain ⟨⟨d, hu, hd⟩, hi⟩ := ht
  have hl : (loadCells ⟨b, off, none⟩ vs.length).run P w = .ok vs.toArray w :=
    run_loadCells_list (P := P) w ⟨b, off, none⟩ _ (fun j v hv => by
      have hadd : (⟨b, off, none⟩ : Addr).add j = ⟨b, off + j, none⟩ := by unfold Addr.add; split <;> simp_all
      rw [hadd]
      exact hb j v hv)
  rw [hn] at hl
  cases hq : P.info? ty with
  | none => simp [hq] at hi
  | some i =>
    have hs : i.size = n := by simpa [hq] using hi
    have hagg : (isAgg ty).run P w = .ok true w := by
      unfold isAgg
      rw [Sem.run_bind, run_underlying hu w]
      cases d <;> simp_all
    simp [loadVar, hagg, sizeOf, typeInfo, hq, hs, hl]
theorem quiet_loadc (ty : TypeId) (x : Operand) (ho : o.op = .load ty x) {b off n : Nat} {vs : List Value}
    (hx : a.eval x = .pointer (some ⟨b, off, none⟩)) (hb : ∀ w, C w → ∀ j u, vs[j]? = some u → w.cell? ⟨b, off + j, none⟩ = some u) (ht : AggT P ty n) (hn : vs.length = n)
    (h : K (a.put o.dst (.agg vs.toArray))) : o.quiet P a C K :=
  ⟨_, fun w hw => by
    unfold Oper.quietAt execOp
    simp only [ho, hx, Instr.loadAt, Instr.sureAddr, Sem.run_bind, Sem.run_pure, Result.andThen_ok, run_load_cells (hb w hw) ht hn]
    exact ⟨rfl, rfl⟩, h⟩
theorem quiet_callw {f : FuncId} {xs : Array Operand} {ts : Array TypeId} {args : Array Value} {v : Value} (ho : o.op = .call { callee := .value (.func f), args := xs, argTypes := ts })
    (hf : ∀ args w, (callFunc f args).run P w = .ok (.enter f args) w) (ha : xs.map a.eval = args)
    (hc : ∀ w, C w → Calls P f args w (fun e w' => e = .returned v ∧ C w')) (h : K (a.put o.dst v)) : o.quiet P a C K :=
  ⟨v, fun w hw => by
    have hr : (execOp a.eval o).run P w = .ok (.enter f args) w := by
      unfold execOp
      simp only [ho, resolve, Act.eval, Deferred.ofValue, Sem.run_bind, Sem.run_pure, Result.andThen_ok, invoke]
      have : (#[] ++ xs.map a.eval ++ #[] : Array Value) = args := by simp [ha]
      simpa [ha] using hf args w
    unfold Oper.quietAt
    rw [hr]
    exact ⟨rfl, hc w hw⟩, h⟩
end
end

section
open Go Go.RowKit

/-- a list of slices of octets: address, capacity, octets -/
abbrev Item := Option Addr × Nat × List UInt8
def cat (its : List Item) : List UInt8 := (its.map (·.2.2)).flatten
def itemV (it : Item) : Value := .slice it.1 it.2.2.length it.2.1

theorem cat_succ {its : List Item} {k : Nat} {it : Item} (h : its[k]? = some it) : cat (its.take (k + 1)) = cat (its.take k) ++ it.2.2 := by
  unfold cat
  rw [List.take_add_one, h]; simp
theorem cat_le (its : List Item) (k : Nat) : (cat (its.take k)).length ≤ (cat its).length := by
  have h2 : cat its = cat (its.take k) ++ cat (its.drop k) := by
    unfold cat
    rw [← List.flatten_append, ← List.map_append, List.take_append_drop]
  rw [h2, List.length_append]
  omega
end

section
open Go Go.RowKit

theorem own_slice {w : World} {B : Nat} {v : Value} {n : Nat} {xs : List Value} (h : w.ownsRow B 5 1 v n xs) :
    ∃ a c, v = .slice a n c ∧ n ≤ c ∧ c ≤ maxLen ∧ (a = none → c = 0) ∧ Cells w a xs := by
  obtain ⟨hl, h⟩ := h
  rcases h with ⟨rfl, rfl⟩ | ⟨g, cap, cur, rfl, hb, hg, h1, h2, h3, h4⟩
  · refine ⟨none, 0, rfl, Nat.le_refl _, by unfold maxLen; omega, fun _ => rfl, .inl ?_⟩
    exact List.length_eq_zero_iff.1 (by omega)
  · refine ⟨_, cap, rfl, h1, h2, (fun h => by cases h), .inr ⟨g, 0, rfl, fun i u hu => ?_⟩⟩
    rw [← h4] at hu
    have hi : i < n * 1 := by
      have := (List.getElem?_eq_some_iff.1 hu).1
      simp at this; omega
    rw [List.getElem?_take_of_lt hi] at hu
    rw [Nat.zero_add]
    exact Blk.cell' (vs := cur.toList) (T := 5) (by simpa [Blk] using hg) hu

theorem own_lower {w : World} {B B' : Nat} {e : TypeId} {size : Nat} {v : Value} {n : Nat} {xs : List Value} (h : w.ownsRow B e size v n xs) (hb : B' ≤ B) : w.ownsRow B' e size v n xs := by
  refine ⟨h.1, ?_⟩
  rcases h.2 with h | ⟨g, cap, cur, h1, h2, h3⟩
  · exact .inl h
  · exact .inr ⟨g, cap, cur, h1, Nat.le_trans hb h2, h3⟩

/-- the number that PutLong puts -/
def longNat (k : Int) : Nat := if k < 0 ∨ 4611686018427387904 < k then 0 else k.toNat
theorem longNat_lt (k : Int) : longNat k ≤ 4611686018427387904 := by unfold longNat; split <;> omega

theorem longL_length (u : UInt64) : (longL u).length = 8 := rfl
end

section
open Go Go.RowKit

theorem word_octL (x : UInt32) : wordOf (UInt8.ofNat (x.toNat / 16777216)) (UInt8.ofNat (x.toNat / 65536)) (UInt8.ofNat (x.toNat / 256)) (UInt8.ofNat x.toNat) = x := by
  have hx := x.toNat_lt
  unfold wordOf
  apply UInt32.toNat_inj.1
  rw [UInt32.toNat_ofNat', UInt8.toNat_ofNat', UInt8.toNat_ofNat', UInt8.toNat_ofNat', UInt8.toNat_ofNat']
  omega

theorem octL_word (a b c d : UInt8) : octL (wordOf a b c d) = [a, b, c, d] := by
  have ha := a.toNat_lt
  have hb := b.toNat_lt
  have hc := c.toNat_lt
  have hd := d.toNat_lt
  have hw : (wordOf a b c d).toNat = a.toNat * 16777216 + b.toNat * 65536 + c.toNat * 256 + d.toNat := by
    unfold wordOf
    rw [UInt32.toNat_ofNat']; omega
  unfold octL
  rw [hw]
  congr 1
  · apply UInt8.toNat_inj.1; rw [UInt8.toNat_ofNat']; omega
  congr 1
  · apply UInt8.toNat_inj.1; rw [UInt8.toNat_ofNat']; omega
  congr 1
  · apply UInt8.toNat_inj.1; rw [UInt8.toNat_ofNat']; omega
  congr 1
  · apply UInt8.toNat_inj.1; rw [UInt8.toNat_ofNat']; omega

theorem word4_app (l m : List UInt8) (a b c d : UInt8) (r : List UInt8) (q : Nat) (h : l.length = q) (hm : m = a :: b :: c :: d :: r) : word4 (l ++ m) q = wordOf a b c d := by
  subst hm; subst h
  unfold word4
  rw [List.getElem?_append_right (by omega), List.getElem?_append_right (by omega), List.getElem?_append_right (by omega), List.getElem?_append_right (by omega)]
  rw [show l.length - l.length = 0 by omega, show l.length + 1 - l.length = 1 by omega, show l.length + 2 - l.length = 2 by omega, show l.length + 3 - l.length = 3 by omega]
  rfl
theorem word4_octL (l : List UInt8) (x : UInt32) (q : Nat) (h : l.length = q) : word4 (l ++ octL x) q = x := by
  rw [word4_app l (octL x) _ _ _ _ [] q h rfl, word_octL]

theorem long8_longL (l : List UInt8) (u : UInt64) (q : Nat) (h : l.length = q) : long8 (l ++ longL u) q = u.toNat := by
  have hu := u.toNat_lt
  unfold long8 longL
  rw [← List.append_assoc, word4_octL (l ++ octL _) _ (q + 4) (by rw [List.length_append, h]; rfl)]
  rw [List.append_assoc, word4_app l (octL _ ++ octL _) _ _ _ _ _ q h rfl, word_octL, UInt32.toNat_ofNat', UInt32.toNat_ofNat']
  omega

theorem longL_long8 (l : List UInt8) (p : Nat) (h : p + 8 ≤ l.length) : longL (UInt64.ofNat (long8 l p)) = (l.drop p).take 8 := by
  have hx := (word4 l p).toNat_lt
  have hy := (word4 l (p + 4)).toNat_lt
  have hl : (UInt64.ofNat (long8 l p)).toNat = long8 l p := by
    rw [UInt64.toNat_ofNat']; unfold long8; omega
  unfold longL
  rw [hl]
  have h1 : UInt32.ofNat (long8 l p / 4294967296) = word4 l p := by
    apply UInt32.toNat_inj.1; rw [UInt32.toNat_ofNat']; unfold long8; omega
  have h2 : UInt32.ofNat (long8 l p) = word4 l (p + 4) := by
    apply UInt32.toNat_inj.1; rw [UInt32.toNat_ofNat']; unfold long8; omega
  rw [h1, h2]
  unfold word4
  rw [octL_word, octL_word]
  apply List.ext_getElem?
  intro i
  by_cases hi : i < 8
  · rw [List.getElem?_take_of_lt hi, List.getElem?_drop]
    have he : l[p + i]? = some (l[p + i]?.getD 0) := by
      rw [List.getElem?_eq_getElem (by omega)]; rfl
    rw [he]
    have : i = 0 ∨ i = 1 ∨ i = 2 ∨ i = 3 ∨ i = 4 ∨ i = 5 ∨ i = 6 ∨ i = 7 := by omega
    rcases this with rfl | rfl | rfl | rfl | rfl | rfl | rfl | rfl <;> rfl
  · rw [List.getElem?_eq_none (by simp; omega), List.getElem?_eq_none (by simp; omega)]
end

section
open Go Go.RowKit

theorem shift_some (b off c p : Nat) (h : ¬ c = p) : shift (some ⟨b, off, none⟩) c p = some ⟨b, off + p, none⟩ := by
  have hadd : (⟨b, off, none⟩ : Addr).add p = ⟨b, off + p, none⟩ := by unfold Addr.add; split <;> simp_all
  rw [shift, if_neg h, Option.map_some, hadd]

theorem wpQuiet_no {P : Program} {ops : Array Oper} {C : World → Prop} {Q : Act → Prop} {o : Oper} {rest : List Oper} {a : Act} (hw : Region.wanted o (yielded ops a.tmps) = false)
    (h : wpQuiet P ops C Q rest (a.put o.dst undef)) : wpQuiet P ops C Q (o :: rest) a := by
  unfold wpQuiet; rw [hw]; exact h

attribute [local irreducible] wpQuiet

theorem roomE_mono {n : Nat} {at_ : Int} (h : ¬ roomE n at_ 4 = 0) : ¬ roomE n at_ 8 = 0 := by
  intro h8
  obtain ⟨p, rfl, hp⟩ := roomE_zero h8 (by omega)
  apply h
  unfold roomE
  rw [if_neg (by omega), if_neg (by omega)]

theorem take_cells {w : World} {a : Option Addr} {l m : List UInt8} {n : Nat} (h : Cells w a ((l ++ m).map u8v)) (hn : l.length = n) : Cells w a (l.map u8v) := by
  have := h.take n
  rwa [← List.map_take, List.take_left' hn] at this
end

section
open Go Go.RowKit

theorem ret_none {P : Program} {fn : Func} {R : Ending → World → Prop} {a : Act} {w : World} (hr : fn.results = #[]) (hd : a.defers = []) (hR : R (.returned (.tuple #[])) w) : bodyPost P fn R .ret a w :=
  bodyPost_ret (results_none hr _ _ _) hd hR
end

section
open Go Go.RowKit

theorem run_mk8 (w : World) (n : Nat) (hn : n ≤ 140737488355328) : (Instr.makeSlice 66 (.int .i64 (n : Int)) (.int .i64 (n : Int))).run Tryz.prog w =
    .ok (.slice (some ⟨w.heap.size, 0, none⟩) n n) (w.alloc (.cells ((List.replicate n (0 : UInt8)).map u8v).toArray 5)) := by
  obtain ⟨i0, hi, hz, hs, hb⟩ := info_parts info_u8
  have h := run_make (P := Tryz.prog) w 66 5 i0 (.int .u8 0) Tryz.underlying66 hi hz .i64 .i64 n n (by omega) (by omega) (by rw [hb]; omega) (by omega)
  rw [h, hs]
  have : madeCells (Value.int .u8 0).cells ((n : Int).toNat * 1) = ((List.replicate n (0 : UInt8)).map u8v).toArray := by
    have e : (Value.int .u8 0).cells = #[.int .u8 0] := rfl
    apply Array.ext
    · simp [size_madeCells]
    · intro i h1 h2
      simp [madeCells, e, u8v, Nat.mod_one]
  rw [this]
  simp

theorem wpl_mk8 {ops : Array Oper} {rest : List Oper} {o : Oper} {a : Act} {w : World} {Q : Exit → Act → World → Prop} (hgd : o.guard = none) (x y : Operand) (ho : o.op = .makeSlice 66 x y) {n : Nat}
    (hx : a.eval x = .int .i64 (n : Int)) (hy : a.eval y = .int .i64 (n : Int)) (hn : n ≤ 140737488355328)
    (h : wpList Tryz.prog ops Q rest (a.put o.dst (.slice (some ⟨w.heap.size, 0, none⟩) n n)) (w.alloc (.cells ((List.replicate n (0 : UInt8)).map u8v).toArray 5))) : wpList Tryz.prog ops Q (o :: rest) a w :=
  wpList_plain hgd fun K hK => by
    unfold Oper.wp execOp
    simp only [ho, hx, hy, Result.andThen_ok, Sem.run_bind, Sem.run_pure, run_mk8 w n hn]
    exact hK _ _ h

theorem cells_grown0 {w w' : World} {a : Option Addr} {xs : List Value} {r : Option Nat} {n : Nat} (h : Cells w a xs) (hl : xs.length = n) (k : w.grownBy w' r) (hn : n = 0 ∨ ∀ x, a = some x → some x.block ≠ r) : Cells w' a xs := by
  rcases hn with rfl | hn
  · exact .inl (List.length_eq_zero_iff.1 hl)
  · exact h.grown k hn
theorem away_of {w0 : World} {a : Option Addr} {xs : List Value} {n g : Nat} (h : Cells w0 a xs) (hl : xs.length = n) (hg : w0.heap.size ≤ g) : n = 0 ∨ ∀ x, a = some x → some x.block ≠ some g := by
  by_cases h0 : n = 0
  · exact .inl h0
  · refine .inr ?_
    intro x hx
    obtain ⟨b, off, rfl, hc⟩ := h.some_of (by omega)
    cases hx
    have h1 : b < w0.heap.size := block_lt_of_cell (hc 0 _ (List.getElem?_eq_getElem (by omega)))
    intro e
    have h2 : b = g := by injection e
    omega

theorem Holds.blk {w : World} {g : Nat} {T : TypeId} {s0 t : List UInt8} {tot : Int} (h : Holds w g T s0 t tot) : ∃ vs, vs.length = vs.length ∧ Blk w g vs T := by
  obtain ⟨r, _, _, hb⟩ := h; exact ⟨_, rfl, hb⟩
theorem Holds.lt {w : World} {g : Nat} {T : TypeId} {s0 t : List UInt8} {tot : Int} (h : Holds w g T s0 t tot) : g < w.heap.size := by
  obtain ⟨r, _, _, hb⟩ := h; exact hb.lt
theorem Holds.ext {w w' : World} {g : Nat} {T : TypeId} {s0 t : List UInt8} {tot : Int} (h : Holds w g T s0 t tot) (k : Ext w w') : Holds w' g T s0 t tot := by
  obtain ⟨r, h1, h2, hb⟩ := h; exact ⟨r, h1, h2, hb.ext k⟩
theorem Holds.grown {w w' : World} {g : Nat} {T : TypeId} {s0 t : List UInt8} {tot : Int} {r : Option Nat} (h : Holds w g T s0 t tot) (k : w.grownBy w' r) (hn : some g ≠ r) : Holds w' g T s0 t tot := by
  obtain ⟨r, h1, h2, hb⟩ := h; exact ⟨r, h1, h2, hb.grown k hn⟩

def writePost (w : World) (g : Nat) (T : TypeId) (s0 t b : List UInt8) (tot : Int) (e : Ending) (w' : World) : Prop :=
  if (b.length : Int) ≤ 1048576 - tot then e = .returned (.int .i64 0) ∧ Holds w' g T s0 (t ++ b) (tot + b.length) ∧ w.grownBy w' (some g)
  else e = .returned (.int .i64 5) ∧ w = w'

def initS (d : Int) : List UInt8 := (List.replicate 64 0).set 63 (UInt8.ofNat d.toNat)
theorem initS_length (d : Int) : (initS d).length = 64 := by simp [initS]
end

section
open Go Go.RowKit

/-- the octets behind a text, up to whole blocks -/
def padT (t : List UInt8) : List UInt8 := t ++ 128 :: List.replicate (31 - t.length % 32) 0
theorem padT_length (t : List UInt8) : (padT t).length % 32 = 0 := by
  unfold padT
  rw [List.length_append, List.length_cons, List.length_replicate]
  omega
/-- the state at the end -/
def finL (s t : List UInt8) (n : Nat) : List UInt8 := absorb (absN s (padT t) ((padT t).length / 32)) (List.replicate 24 0 ++ longL (UInt64.ofNat n))
theorem finL_length (s t : List UInt8) (n : Nat) : (finL s t n).length = 64 := absorb_length _ _
theorem agg_sum : AggT Tryz.prog 37 32 := ⟨⟨_, Tryz.underlying37, rfl⟩, by kernel_rfl⟩
theorem grown_none {w w' : World} (h : Ext w w') (r : Option Nat) : w.grownBy w' r := ⟨h.os, h.tape, h.output, h.size, fun i hi _ => h.block i hi⟩

theorem wpl_loadp {P : Program} {ops : Array Oper} {rest : List Oper} {o : Oper} {a : Act} {w : World} {Q : Exit → Act → World → Prop} (hgd : o.guard = none) (ty : TypeId) (x : Operand) (ho : o.op = .load ty x) {g off n : Nat} {vs xs : List Value} {T : TypeId}
    (hx : a.eval x = .pointer (some ⟨g, off, none⟩)) (hb : Blk w g vs T) (ht : AggT P ty n) (hn : off + n ≤ vs.length) (hxs : (vs.drop off).take n = xs)
    (h : wpList P ops Q rest (a.put o.dst (.agg xs.toArray)) w) : wpList P ops Q (o :: rest) a w :=
  wpl_load hgd ty x ho hx hb ht hn (by rw [hxs]; exact h)
end

section
open Go Go.RowKit

theorem agg_apisum : AggT Tryz.prog 38 32 := ⟨⟨_, Tryz.underlying38, rfl⟩, by kernel_rfl⟩

/-- the sum of a text -/
def sumL (d : Int) (t : List UInt8) : List UInt8 := (finL (initS d) t t.length).take 32
theorem sumL_length (d : Int) (t : List UInt8) : (sumL d t).length = 32 := by rw [sumL, List.length_take, finL_length]; rfl
end

section
open Go Go.RowKit

theorem longL_at (N i : Nat) (hN : N < 18446744073709551616) (hi : i < 8) : ((((longL (UInt64.ofNat N))[i]?.getD 0).toNat : Nat) : Int) = (N : Int) / 2 ^ (56 - 8 * i) % 256 := by
  have hN' : (UInt64.ofNat N).toNat = N := by rw [UInt64.toNat_ofNat']; omega
  unfold longL
  rw [hN']
  have h1 : (UInt32.ofNat (N / 4294967296)).toNat = N / 4294967296 % 4294967296 := UInt32.toNat_ofNat' ..
  have h2 : (UInt32.ofNat N).toNat = N % 4294967296 := UInt32.toNat_ofNat' ..
  rcases (by omega : i = 0 ∨ i = 1 ∨ i = 2 ∨ i = 3 ∨ i = 4 ∨ i = 5 ∨ i = 6 ∨ i = 7) with rfl | rfl | rfl | rfl | rfl | rfl | rfl | rfl
  all_goals
    simp only [octL, h1, h2, List.cons_append, List.nil_append, List.getElem?_cons_zero, List.getElem?_cons_succ, Option.getD_some, u8_ofNat]
    simp
    try omega
end

section
open Go Go.RowKit

theorem zeroCells_u8 (k : Nat) : Builtin.zeroCells (Value.int .u8 0).cells k = (List.replicate k (Value.int .u8 0)).toArray := by
  have e : (Value.int .u8 0).cells = #[.int .u8 0] := rfl
  apply Array.ext
  · simp [Builtin.zeroCells, e]
  · intro i h1 h2
    simp [Builtin.zeroCells, e, Nat.mod_one]

theorem run_append_zeros_own (w : World) (base : Nat) (ty : TypeId) (v : Value) (n : Nat) (xs : List Value) (hown : w.ownsRow base 5 1 v n xs) (k : Nat) (hk : 0 < k)
    (hb : n + k ≤ 140737488355328) (hbase : base ≤ w.heap.size) :
    ∃ v' w', (Builtin.append_ #[66, 3] ty #[v, .int .i64 (k : Int)]).run Tryz.prog w = .ok v' w' ∧ w'.ownsRow base 5 1 v' (n + k) (xs ++ List.replicate k (.int .u8 0)) ∧ w.grownBy w' v.ownBlock := by
  obtain ⟨i0, hi, hz, hs, hb1⟩ := info_parts info_u8
  have hl1 := hown.1
  have hlen : (xs ++ List.replicate k (Value.int .u8 0)).length = (n + k) * 1 := by rw [List.length_append, List.length_replicate, hl1]; omega
  have grown : ∀ (old : Nat), old < n + k → ∀ (row : Option Nat),
      (w.drew.alloc (.cells (xs.toArray ++ Builtin.zeroCells (Value.int .u8 0).cells k ++ Builtin.zeroCells (Value.int .u8 0).cells (grownCap w (n + k) old 5 - (n + k))) 5)).ownsRow base 5 1
        (.slice (some ⟨w.heap.size, 0, none⟩) (n + k) (grownCap w (n + k) old 5)) (n + k) (xs ++ List.replicate k (.int .u8 0)) ∧
      w.grownBy (w.drew.alloc (.cells (xs.toArray ++ Builtin.zeroCells (Value.int .u8 0).cells k ++ Builtin.zeroCells (Value.int .u8 0).cells (grownCap w (n + k) old 5 - (n + k))) 5)) row := by
    intro old ho row
    have hge := grownCap_ge w (n + k) old 5
    have hcm : grownCap w (n + k) old 5 ≤ maxLen := grownCap_le_maxLen w (n + k) old 5 (by unfold maxLen; omega)
    refine ⟨⟨hlen, .inr ⟨w.heap.size, _, _, rfl, hbase, heap_alloc_new w.drew _, hge, hcm, ?_, ?_⟩⟩, ⟨rfl, rfl, rfl, by simp, fun j hj _ => heap_alloc_old w.drew _ hj⟩⟩
    · simp only [Array.size_append, List.size_toArray, zeroCells_u8, List.length_replicate, hl1]; omega
    · simp only [Array.toList_append, zeroCells_u8, List.append_assoc]
      rw [← List.append_assoc, ← hlen]
      exact List.take_left
  rcases hown.2 with ⟨rfl, rfl⟩ | ⟨g, cap, cur, rfl, hbg, hg, hnc, hcm, hcs, htake⟩
  · have hx : xs = [] := List.eq_nil_of_length_eq_zero (by simpa using hl1)
    subst hx
    have hr := Lib.run_append_nil_zeros (P := Tryz.prog) w 66 3 ty 5 i0 (.int .u8 0) .i64 .i64 Tryz.underlying66 Tryz.underlying3 hi hz k hk (by omega) (by omega) (by rw [hb1]; omega)
    have hgr := grown 0 (by omega) (Value.ownBlock (.slice none 0 0))
    simp only [Nat.zero_add, Array.empty_append] at hgr hr ⊢
    exact ⟨_, _, hr, by simpa using hgr.1, by simpa using hgr.2⟩
  · by_cases hroom : n + k ≤ cap
    · have hfit : n * 1 + (List.replicate k (Value.int .u8 0)).length ≤ cur.size := by rw [List.length_replicate, hcs]; omega
      have hst := run_storeCells_at Tryz.prog g (n * 1) 5 (List.replicate k (Value.int .u8 0)) 0 cur w hg (by simpa using hfit) (by intro u hu; simp at hu; rw [hu.2]; rfl)
      have hw : IntKind.i64.wrap (k : Int) = k := by rw [IntKind.wrap_i64]; omega
      have h48i : ¬ (281474976710656 < (k : Int) * (i0.bytes : Int)) := by rw [hb1]; omega
      have hns : ¬ (k * i0.size = 0) := by rw [hs]; omega
      have hneg : ¬ ((k : Int) < 0) := by omega
      have hk0 : k ≠ 0 := by omega
      simp only [Nat.add_zero] at hst
      have hr : (Builtin.append_ #[66, 3] ty #[.slice (some ⟨g, 0, none⟩) n cap, .int .i64 (k : Int)]).run Tryz.prog w =
          .ok (.slice (some ⟨g, 0, none⟩) (n + k) cap) (w.setRow g (cur.toList.take (n * 1) ++ List.replicate k (Value.int .u8 0) ++ cur.toList.drop (n * 1 + (List.replicate k (Value.int .u8 0)).length)).toArray) := by
        simp [Builtin.append_, run_underlying Tryz.underlying66, run_underlying Tryz.underlying3, sizeOf, typeInfo, zeroValue, hi, hz, asInt, asIntOf, hw, hneg, h48i, hns, hroom, zeroCells_u8, hk0, hs, Addr.add_lit]
        simp at hst
        simp [hst]
      refine ⟨_, _, hr, ⟨hlen, .inr ⟨g, cap, _, rfl, hbg, setRow_heap w g cur _ _ _ hg, hroom, hcm, ?_, ?_⟩⟩, ⟨rfl, rfl, rfl, by simp, fun j _ hj => setRow_other w g j _ (fun e => hj (by simp [Value.ownBlock, e]))⟩⟩
      · simp only [List.size_toArray, List.length_append, List.length_take, List.length_drop, Array.length_toList, List.length_replicate]
        omega
      · rw [htake, ← hlen]
        exact List.take_left
    · have holds : ∀ j u, xs[j]? = some u → w.cell? ((⟨g, 0, none⟩ : Addr).add j) = some u := hown.cells (g := g) rfl
      have hold : (Builtin.firstCells i0.size n (.slice (some ⟨g, 0, none⟩) n cap)).run Tryz.prog w.drew = .ok xs.toArray w.drew := run_firstCells_some (P := Tryz.prog) w.drew i0.size n ⟨g, 0, none⟩ n cap xs (by rw [hs]; exact hl1) holds
      have hr := Lib.run_append_grow_zeros (P := Tryz.prog) w 66 3 ty 5 i0 (.int .u8 0) .i64 .i64 Tryz.underlying66 Tryz.underlying3 hi hz (some ⟨g, 0, none⟩) n cap xs hold k hk (by omega) (by omega) (by omega) (by rw [hb1]; omega) (growslice_fits (by omega) (by rw [hb1]; omega))
      have hgr := grown cap (by omega) (Value.ownBlock (.slice (some ⟨g, 0, none⟩) n cap))
      exact ⟨_, _, hr, hgr.1, hgr.2⟩

theorem wpl_append_zeros {ops : Array Oper} {rest : List Oper} {o : Oper} {a : Act} {w : World} {Q : Exit → Act → World → Prop} (hgd : o.guard = none) (s x : Operand)
    (ho : o.op = .call { callee := .builtin .append, args := #[s, x], argTypes := #[66, 3] }) (base : Nat) {v : Value} {n : Nat} {xs : List Value} {k : Nat}
    (hs : a.eval s = v) (hx : a.eval x = .int .i64 (k : Int)) (hown : w.ownsRow base 5 1 v n xs) (hk : 0 < k) (hb : n + k ≤ 140737488355328) (hbase : base ≤ w.heap.size)
    (h : ∀ v' w', w'.ownsRow base 5 1 v' (n + k) (xs ++ List.replicate k (.int .u8 0)) → w.grownBy w' v.ownBlock → wpList Tryz.prog ops Q rest (a.put o.dst v') w') : wpList Tryz.prog ops Q (o :: rest) a w := by
  obtain ⟨v', w', hr, h1, h2⟩ := run_append_zeros_own w base o.type v n xs hown k hk hb hbase
  exact Lib.wpList_append_run w hgd s x _ _ ho v _ hs hx v' w' hr (h v' w' h1 h2)

/-- append onto a row of one's own: octets -/
theorem wpl_append8 {ops : Array Oper} {rest : List Oper} {o : Oper} {a : Act} {w : World} {Q : Exit → Act → World → Prop} (hgd : o.guard = none) (s x : Operand)
    (ho : o.op = .call { callee := .builtin .append, args := #[s, x], argTypes := #[66, 66] }) (base : Nat) {v : Value} {n m c : Nat} {xs ys : List UInt8} {ad : Option Addr}
    (hs : a.eval s = v) (hx : a.eval x = .slice ad m c) (hown : w.ownsRow base 5 1 v n (xs.map u8v)) (hm : ys.length = m) (had : ad = none → m = 0 ∧ c = 0) (hc : Cells w ad (ys.map u8v))
    (hb : n + m ≤ 140737488355328) (hbase : base ≤ w.heap.size)
    (h : ∀ v' w', w'.ownsRow base 5 1 v' (n + m) ((xs ++ ys).map u8v) → w.grownBy w' v.ownBlock → wpList Tryz.prog ops Q rest (a.put o.dst v') w') : wpList Tryz.prog ops Q (o :: rest) a w := by
  obtain ⟨i0, hi, hz, hsz, hb1⟩ := info_parts info_u8
  cases ad with
  | none =>
    obtain ⟨rfl, rfl⟩ := had rfl
    have hy : ys = [] := List.length_eq_zero_iff.1 hm
    subst hy
    have h' := h v w (by simpa using hown) (grown_refl w _)
    exact wpList_append_own_none hgd s x 66 ho base 5 i0 1 Tryz.underlying66 hi v n (xs.map u8v) hs hown hx h'
  | some y =>
    exact wpList_append_own w hgd s x 66 ho base 5 i0 (.int .u8 0) 1 1 Tryz.underlying66 hi hz hsz hb1 rfl (by decide) v n (xs.map u8v) hs hown y m c (ys.map u8v) hx
      (by rw [List.length_map, hm, Nat.mul_one]) (news_cells hc) (one_u8 _) (by unfold maxLen; omega) (by omega) hbase (fun v' w' h1 h2 _ => h v' w' (by rw [List.map_append]; exact h1) h2)

theorem own_block_ge {w : World} {B : Nat} {e : TypeId} {size n : Nat} {v : Value} {xs : List Value} (h : w.ownsRow B e size v n xs) : ∀ g, v.ownBlock = some g → B ≤ g := by
  intro g hg
  rcases h.2 with ⟨rfl, _⟩ | ⟨g', cap, cur, rfl, hb, _⟩
  · cases hg
  · simp [Value.ownBlock] at hg; omega
end

section
open Go Go.RowKit

theorem absN_more {s p q : List UInt8} {m : Nat} (hp : p.length = 32 * m) (hq : q.length = 32) : absN s (p ++ q) (m + 1) = absorb (absN s p m) q := by
  rw [absN, absN_append _ (by omega), ← hp, List.drop_left, List.take_of_length_le (by omega)]
theorem finL_blocks (s t : List UInt8) (n : Nat) : finL s t n = absN s (padT t ++ (List.replicate 24 0 ++ longL (UInt64.ofNat n))) ((padT t).length / 32 + 1) := by
  have h := padT_length t
  rw [absN_more (by omega) rfl]; rfl

theorem u8_wrap (d : Int) (h : 0 ≤ d) (h2 : d ≤ 255) : ((UInt8.ofNat d.toNat).toNat : Int) = d := by rw [UInt8.toNat_ofNat']; omega
theorem init_cells (d : Int) (h : 0 ≤ d) (h2 : d ≤ 255) : (List.replicate 64 (Value.int .u8 0)).set 63 (.int .u8 d) = (initS d).map u8v := by
  unfold initS
  rw [List.map_set]
  have : u8v (UInt8.ofNat d.toNat) = .int .u8 d := by
    unfold u8v
    rw [u8_wrap d h h2]
  rw [this]
  rfl

theorem own_away {w : World} {B n c : Nat} {e : TypeId} {size : Nat} {a : Option Addr} {xs : List Value} (h : w.ownsRow B e size (.slice a n c) n xs) : ∀ x, a = some x → B ≤ x.block := by
  intro x hx
  rcases h.2 with ⟨h1, _⟩ | ⟨g', cap, cur, h1, hb, _⟩
  · injection h1 with h1 _ _; rw [h1] at hx; cases hx
  · injection h1 with h1 _ _; rw [h1] at hx; cases hx; exact hb
end

section
open Go Go.RowKit
end

section
open Go Go.RowKit

theorem ret_row2 {P : Program} {fn : Func} {R : Ending → World → Prop} {a : Act} {w : World} {p u : Tmp} {ty : TypeId} {g : Nat} {vs : List Value} {T : TypeId}
    (hres : fn.results = #[.cell p ty, .tmp u]) (hp : a.tmps.getD p undef = .pointer (some ⟨g, 0, none⟩)) (hb : Blk w g vs T)
    {n : Nat} (ht : AggT P ty n) (hn : vs.length = n)
    (hdef : a.defers = []) (hR : R (.returned (.tuple #[.agg vs.toArray, a.tmps.getD u undef])) w) : bodyPost P fn R .ret a w := by
  have h1 := run_load_sub (P := P) (off := 0) hb ht (by omega)
  have h2 : (vs.drop 0).take n = vs := by simp [← hn]
  rw [h2] at h1
  refine bodyPost_ret ?_ hdef hR
  rw [results_cell_tmp hres, hp]
  simp [asAddr, h1]

theorem ret_row3 {P : Program} {fn : Func} {R : Ending → World → Prop} {a : Act} {w : World} {p u q : Tmp} {ty : TypeId} {g : Nat} {vs : List Value} {T : TypeId}
    (hres : fn.results = #[.cell p ty, .tmp u, .tmp q]) (hp : a.tmps.getD p undef = .pointer (some ⟨g, 0, none⟩)) (hb : Blk w g vs T)
    {n : Nat} (ht : AggT P ty n) (hn : vs.length = n)
    (hdef : a.defers = []) (hR : R (.returned (.tuple #[.agg vs.toArray, a.tmps.getD u undef, a.tmps.getD q undef])) w) : bodyPost P fn R .ret a w := by
  have h1 := run_load_sub (P := P) (off := 0) hb ht (by omega)
  have h2 : (vs.drop 0).take n = vs := by simp [← hn]
  rw [h2] at h1
  refine bodyPost_ret (v := .tuple #[.agg vs.toArray, a.tmps.getD u undef, a.tmps.getD q undef]) ?_ hdef hR
  simp only [Array.getD_eq_getD_getElem?] at hp
  simp [results, hres, hp, asAddr, h1]
end

section
open Go Go.RowKit

theorem agg_16 : AggT Tryz.prog 34 16 := ⟨⟨_, Tryz.underlying34, rfl⟩, by kernel_rfl⟩
/-- the end of a function whose first result lies in a block of its own, the second in a slot -/
theorem wpl_loadc {P : Program} {ops : Array Oper} {rest : List Oper} {o : Oper} {a : Act} {w : World} {Q : Exit → Act → World → Prop} (hgd : o.guard = none) (ty : TypeId) (x : Operand) (ho : o.op = .load ty x) {b off n : Nat} {vs : List Value}
    (hx : a.eval x = .pointer (some ⟨b, off, none⟩)) (hb : ∀ j u, vs[j]? = some u → w.cell? ⟨b, off + j, none⟩ = some u) (ht : AggT P ty n) (hn : vs.length = n)
    (h : wpList P ops Q rest (a.put o.dst (.agg vs.toArray)) w) : wpList P ops Q (o :: rest) a w :=
  wpList_plain hgd fun K hK => by
    unfold Oper.wp execOp
    simp only [ho, hx, Instr.loadAt, Instr.sureAddr, Sem.run_bind, Sem.run_pure, Result.andThen_ok, run_load_cells hb ht hn]
    exact hK _ _ h

def takeV (l : List UInt8) (n m : Nat) (at_ : Int) : Value :=
  if roomE n at_ m = 0 then .tuple #[.agg (((l.drop at_.toNat).take m).map u8v).toArray, .int .i64 0] else .tuple #[.agg (List.replicate m (.int .u8 0)).toArray, .int .i64 (roomE n at_ m)]
end

section
open Go Go.RowKit

/-- the tag of a text -/
def tagL (k t : List UInt8) : List UInt8 := (sumL 8 (k ++ t)).take 16
theorem tagL_length (k t : List UInt8) : (tagL k t).length = 16 := by rw [tagL, List.length_take, sumL_length]; rfl
def sealL (k t : List UInt8) : List UInt8 := stirL (finL (initS 9) (k ++ t) (k ++ t).length)
theorem sealL_length (k t : List UInt8) : (sealL k t).length = 64 := stirL_length _

theorem nil0 {w : World} {a : Option Addr} {t : List UInt8} {n c : Nat} (hcl : Cells w a (t.map u8v)) (ht : t.length = n) (h0 : a = none → c = 0) : a = none → n = 0 ∧ c = 0 := by
  intro e
  refine ⟨?_, h0 e⟩
  rcases hcl with h | ⟨b, o, h, _⟩
  · have h1 := congrArg List.length h
    rw [List.length_map, ht] at h1
    exact h1
  · rw [e] at h; cases h

def zeros (n : Nat) : Value := .agg (List.replicate n (.int .u8 0)).toArray
theorem one_zeros (n : Nat) : ∀ v ∈ List.replicate n (Value.int .u8 0), v.oneCell' = true := by intro v hv; rw [List.mem_replicate] at hv; rw [hv.2]; rfl
end

section
open Go Go.RowKit
end

section
open Go Go.RowKit

theorem eq_arr {t : TypeId} {n : Nat} (ht : Tryz.prog.underlying t = some (.array n 5)) (xs ys : List UInt8) (hx : xs.length = n) (hy : ys.length = n) (w : World) :
    (binOp .eql t (.agg (xs.map u8v).toArray) (.agg (ys.map u8v).toArray)).run Tryz.prog w = .ok (.bool (xs == ys)) w :=
  run_eql_bytes w t 5 n ht Tryz.underlying5 (fun w => by kernel_rfl) xs ys hx hy
theorem neq_arr {t : TypeId} {n : Nat} (ht : Tryz.prog.underlying t = some (.array n 5)) (xs ys : List UInt8) (hx : xs.length = n) (hy : ys.length = n) (w : World) :
    (binOp .neq t (.agg (xs.map u8v).toArray) (.agg (ys.map u8v).toArray)).run Tryz.prog w = .ok (.bool (!(xs == ys))) w := by
  have h := run_equalIn_bytes w 9998 t 5 n ht Tryz.underlying5 (fun w => by kernel_rfl) xs ys hx hy
  rw [run_neq_struct]
  have h2 : (Op.equalIn 10000 t (.agg (xs.map u8v).toArray) (.agg (ys.map u8v).toArray)).run Tryz.prog w = .ok (xs == ys) w := h
  rw [h2]; rfl
theorem eq_self {t : TypeId} {n : Nat} (ht : Tryz.prog.underlying t = some (.array n 5)) (xs : List UInt8) (hx : xs.length = n) (w : World) :
    (binOp .eql t (.agg (xs.map u8v).toArray) (.agg (xs.map u8v).toArray)).run Tryz.prog w = .ok (.bool true) w := by
  rw [eq_arr ht xs xs hx hx]; simp
end

section
open Go Go.RowKit

theorem guard_sum : Tryz.prog.eqGuardType Tryz.prog.depth 38 = false := by kernel_rfl
end

section
open Go Go.RowKit

section
variable {P : Program} {ops : Array Oper} {rest : List Oper} {o : Oper} {a : Act} {w : World} {Q : Exit → Act → World → Prop}
theorem wpList_want (hw : Region.wanted o (yielded ops a.tmps) = true) (h : ∀ K : Act → World → Prop, (∀ a w, wpList P ops Q rest a w → K a w) → o.wp P a w K Q) : wpList P ops Q (o :: rest) a w :=
  wpList_step fun K hK => by rw [if_pos hw]; exact h K hK
/-- a load that stands behind a guard -/
theorem wpg_loadw (hw : Region.wanted o (yielded ops a.tmps) = true) (ty : TypeId) (x : Operand) (ho : o.op = .load ty x) {g : Nat} {vs : List Value} {T : TypeId}
    (hx : a.eval x = .pointer (some ⟨g, 0, none⟩)) (hb : Blk w g vs T) {n : Nat} (ht : AggT P ty n) (hn : vs.length = n)
    (h : wpList P ops Q rest (a.put o.dst (.agg vs.toArray)) w) : wpList P ops Q (o :: rest) a w :=
  wpList_want hw fun K hK => by
    have h1 := run_load_sub (P := P) (off := 0) hb ht (by omega)
    have h2 : (vs.drop 0).take n = vs := by simp [← hn]
    rw [h2] at h1
    unfold Oper.wp execOp
    simp only [ho, hx, Instr.loadAt, Instr.sureAddr, Sem.run_bind, Sem.run_pure, Result.andThen_ok, h1]
    exact hK _ _ h
/-- a comparison of arrays, whether behind a guard or not -/
theorem wpg_cmp (hw : Region.wanted o (yielded ops a.tmps) = true) (op : BinOp) (t u : TypeId) (x y : Operand) (ho : o.op = .binOp op t x y u) {xs ys : Array Value} {b : Value} (hx : a.eval x = .agg xs) (hy : a.eval y = .agg ys)
    (hg : P.eqGuardType P.depth t = false) (hr : ∀ w, (binOp op t (.agg xs) (.agg ys)).run P w = .ok b w)
    (h : wpList P ops Q rest (a.put o.dst b) w) : wpList P ops Q (o :: rest) a w :=
  wpList_want hw fun K hK => by
    unfold Oper.wp execOp
    simp only [ho, hx, hy, Sem.run_bind, run_eqGuard_agg w op t x y xs ys hg, Result.andThen_ok, hr, Sem.run_pure]
    exact hK _ _ h
end

theorem run_eqFields_cons {P : Program} {d : Nat} {xs ys : Array Value} {f : Field} {fs : List Field} {a b : Value} {w : World} (hn : f.name ≠ "_") (h1 : (part f.type xs f.offset).run P w = .ok a w) (h2 : (part f.type ys f.offset).run P w = .ok b w) (h3 : (Op.equalIn d f.type a b).run P w = .ok true w) :
    (Op.eqFields d xs ys (f :: fs)).run P w = (Op.eqFields d xs ys fs).run P w := by
  simp [Op.eqFields, hn, h1, h2, h3]
theorem run_part_int {P : Program} {t : TypeId} {k : IntKind} {xs : Array Value} {off : Nat} {v : Value} {w : World} (ht : P.underlying t = some (.int k)) (hv : xs[off]? = some v) : (part t xs off).run P w = .ok v w := by
  simp [part, isAgg, run_underlying ht, hv]
theorem run_part_arr {P : Program} {t e : TypeId} {n m : Nat} {xs : Array Value} {off : Nat} {w : World} (ht : P.underlying t = some (.array n e)) (hs : P.cellsOf t = m) : (part t xs off).run P w = .ok (.agg (xs.extract off (off + m))) w := by
  obtain ⟨i, hi⟩ := info_of_underlying ht
  simp [part, isAgg, run_underlying ht, run_sizeOf w hi, hs]
end

section
open Go Go.RowKit

theorem zeros_u8 (n : Nat) : List.replicate n (Value.int .u8 0) = (List.replicate n (0 : UInt8)).map u8v := by simp [u8v]
end

section
open Go Go.RowKit

theorem field_at {w : World} {p : Addr} {xs : List Value} {j : Nat} {v : Value} (h : CellsAt w p xs) (hv : xs[j]? = some v) : w.cell? ⟨p.block, p.off + j, none⟩ = some v := by
  have h2 := h j v hv
  obtain ⟨b, o, s⟩ := p
  cases s with
  | none => rw [addr_add] at h2; exact h2
  | some s =>
    exfalso
    have hj := (List.getElem?_eq_some_iff.1 hv).1
    have h0 := h 0 (xs[0]'(by omega)) (by simp)
    have h3 := World.cell?_spot h0
    simp [Addr.add] at h3
theorem agg_dec : AggT Tryz.prog 52 4 := ⟨⟨_, Tryz.underlying52, rfl⟩, by kernel_rfl⟩
theorem always_c (n : Int) (w : World) : Calls Tryz.prog 37 #[.int .i64 n] w fun e w' => e = .returned (.bool true) ∧ w = w' := by
  go_enter Tryz.func37, Tryz.ntmps37
  go_wp2
  go_ret
  exact ⟨rfl, rfl⟩
def bestI : Option (Nat × RuleR) → Int
  | none => -1
  | some (b, _) => b
theorem built_dec1 (k : Int) : Tryz.prog.built 52 [(1, .int .i64 k)] = some (DecR.v ⟨false, k, 0, ⟨#[]⟩⟩).toArray := by kernel_rfl
theorem built_dec4 (b : Bool) (k n : Int) (s : ByteArray) : Tryz.prog.built 52 [(0, .bool b), (1, .int .i64 k), (2, .int .i64 n), (3, .string s)] = some (DecR.v ⟨b, k, n, s⟩).toArray := by kernel_rfl

set_option maxRecDepth 100000 in
set_option maxHeartbeats 2000000 in
theorem decide_c (pa : Option Addr) (pn pc : Nat) (rs : List RuleR) (a : AskR) (T : Nat) (w : World) (hp : PolOk w pa pn pc rs) (ha : a.Ok w) (hT : a.time = (T : Int)) (hTb : T ≤ 1099511627776) :
    Calls Tryz.prog 36 #[.agg #[.slice pa pn pc], .agg a.v.toArray, .func (.func 37) #[] #[]] w fun e w' => e = .returned (.agg (decideD a rs).v.toArray) ∧ Ext w w' := by
  have hme := hid (fun r w' h1 h2 => meets_c r a T w' h1 h2 hT hTb)
  have HPO := hid hp
  have hn63 : pn ≤ 140737488355328 := by have := hp.hnc; have := hp.hm; omega
  have HLEN := hid (AskR.len ha)
  have HAO := hid ha
  have HAG := hid agg_ask
  clear hp ha hT hTb
  obtain ⟨D, hD⟩ : ∃ D, decideD a rs = D := ⟨_, rfl⟩
  have HD := hid hD
  rw [hD]
  clear hD
  go_enter Tryz.func36, Tryz.ntmps36
  go_upto_region 1 with (fail)
  generalize hwA : World.alloc (World.alloc (World.alloc w _) _) _ = wA
  have bA : Blk wA w.heap.size [.slice pa pn pc] 24 := by rw [← hwA]; exact ((Blk.mk_alloc rfl rfl).alloc _).alloc _
  have gA : Blk wA (w.heap.size + 1) a.v 40 := by rw [← hwA]; exact (Blk.mk_alloc (by simp) rfl).alloc _
  have zA : Blk wA (w.heap.size + 2) zeroDec.v 52 := by rw [← hwA]; exact Blk.mk_alloc (by simp) rfl
  have eA : Ext w wA := by rw [← hwA]; exact (((Ext.refl w).alloc _).alloc _).alloc _
  have BA := hid bA
  have GA := hid gA
  have ZA := hid zA
  have EA := hid eA
  have PA := hid (HPO.out.ext eA)
  have QA := hid (HAO.out.ext eA)
  have c0 := bA.cell' (i := 0) rfl
  clear hwA bA gA zA eA HPO HAO
  go_wp2
  go_loopw [7, 14] (fun b i wr => ∃ (k : Nat) (best : Option (Nat × RuleR)), k ≤ pn ∧ i = .int .i64 (k : Int) ∧ b = .int .i64 (bestI best) ∧ (∀ b q, best = some (b, q) → b < pn ∧ rs[b]? = some q) ∧ decF a (rs.drop k) k best = D ∧ Ext wA wr) (fun _ i _ => pn - (intOf i).toNat)
  case atStart => exact ⟨0, none, by omega, rfl, rfl, fun b q h => (by cases h), by rw [List.drop_zero]; exact HD.out, Ext.refl _⟩
  case round =>
    obtain ⟨k, best, hk, rfl, rfl, hbest, hdec, e1⟩ := hrel
    have E1 := hid e1
    have HDC := hid hdec
    have HBE := hid hbest
    clear e1 hdec hbest
    by_cases hlt : k < pn
    · obtain ⟨r, hrk⟩ : ∃ r, rs[k]? = some r := ⟨rs[k]'(by rw [PA.out.hl]; exact hlt), by simp⟩
      obtain ⟨A, rfl, hca⟩ := (PA.out.ext E1.out).at hrk
      have HCA := hid hca
      have HOK := hid ((PA.out.ok r (List.mem_of_getElem? hrk)).ext E1.out)
      have HRL := hid (RuleR.len r)
      have HRK := hid hrk
      clear hca hrk
      have hro := ruleV_one r
      go_wp2_with (first | (refine wpl_run rfl (exec_index (i := k) rfl rfl rfl Tryz.underlying22 size_rule hlt _) ?_) | (refine wpl_run rfl (exec_load_at rfl rfl HCA.out agg_rule HRL.out) ?_) | (refine wpl_storew rfl _ (.tmp 9) _ rfl rfl rfl (Blk.mk_alloc (vs := zeroRule) rfl rfl) agg_rule rfl HRL.out hro ?_))
      intro wB bB uB
      have eB : Ext wr wB := uB.ext ((Ext.refl wr).alloc _) (Nat.le_refl _)
      have BB := hid bB
      have EB := hid (E1.out.ext eB)
      have HOB := hid (HOK.out.ext eB)
      have GB := hid (GA.out.ext EB.out)
      have QB := hid (QA.out.ext EB.out)
      clear bB uB eB HOK
      generalize wr.heap.size = gr at *
      go_wp2_with (first | (refine (always_c _ _).mono ?_; rintro e w4 ⟨rfl, rfl⟩) | (refine wpg_loadw rfl 50 (.tmp 9) rfl rfl BB.out agg_rule HRL.out ?_) | (refine wpg_loadw rfl 40 (.tmp 4) rfl rfl GB.out agg_ask HLEN.out ?_))
      refine (hme.out r wB HOB.out QB.out).mono ?_
      rintro e wC ⟨rfl, eC⟩
      have EC := hid (EB.out.ext eC)
      have BC := hid (BB.out.ext eC)
      clear eC BB EB HOB GB QB
      cases hm : meetsB r a with
      | false =>
        have HN := hid ((decF_no HRK.out hm).symm.trans HDC.out)
        clear hm HDC HRK
        go_wp2
        go_roundw
        case rel => exact ⟨k + 1, best, by omega, by go_num, rfl, HBE.out, HN.out, EC.out⟩
        case measure => simp [intOf]; omega
      | true =>
      have c9 := BC.out.cell' (i := 0) rfl
      cases hd : r.deny with
      | true =>
        have HN := hid ((decF_deny HRK.out hm hd).symm.trans HDC.out)
        have ZC := hid (ZA.out.ext EC.out)
        rw [hd] at c9
        have hbu := fun w => run_build (P := Tryz.prog) w 52 #[(1, .int .i64 (k : Int))] _ (built_dec1 (k : Int))
        clear hm HDC HRK
        clear hbu
        go_wp2_with (refine wpl_storew rfl _ (.tmp 6) _ rfl rfl rfl ZC.out agg_dec rfl (DecR.len (denyDec k)) (decV_one (denyDec k)) ?_)
        intro wD bD uD
        have ED := hid (uD.ext (EA.out.ext EC.out) (by omega))
        go_wp2_with fail
        exact ret_row rfl rfl bD agg_dec rfl rfl ⟨by rw [← HN.out]; rfl, ED.out⟩
      | false =>
        have HN := hid ((decF_yes HRK.out hm hd).symm.trans HDC.out)
        rw [hd] at c9
        clear hm HDC
        cases best with
        | none =>
          have hN := HN.out
          rw [show (if betterB r none then some (k, r) else none) = some (k, r) from rfl] at hN
          have HN2 := hid hN
          clear hN HN
          go_upto_region 8 with (fail)
          obtain ⟨C, hC⟩ : ∃ C : World → Prop, C = fun w' => Ext wC w' := ⟨_, rfl⟩
          have hC0 : ∀ w', C w' ↔ Ext wC w' := fun w' => by rw [hC]
          clear hC
          have HCC := hid hC0
          clear hC0
          have hCx : ∀ w w', C w → Ext w w' → C w' := fun w w' h1 h2 => (HCC.out w').2 (((HCC.out w).1 h1).ext h2)
          have hCA : C wC := (HCC.out _).2 (Ext.refl wC)
          have hneg : decide (bestI none < 0) = true := rfl
          refine wp_region_held_drew (S := C) (by kernel_rfl) (hCx _ _ hCA (Ext.refl _).drew) (fun hS0 => ?_)
          refine held_take 0 (v := ?tv24) rfl (by kernel_rfl) (by kernel_rfl) (by kernel_rfl) (fun _ _ _ h => h) (.inl ⟨rfl, ?ty24⟩) hS0 ?tr24
          case ty24 => (intro _ _; go_simp; try with_reducible rfl)
          case tr24 =>
          simp only [Act.put, List.setIfInBounds_toArray, List.set_cons_succ, List.set_cons_zero]
          refine held_take 1 (v := ?tv25) rfl (by kernel_rfl) (by kernel_rfl) (by kernel_rfl) (fun _ _ _ h => h) (.inl ⟨rfl, ?ty25⟩) hS0 ?tr25
          case ty25 => (intro _ _; go_simp; try with_reducible rfl)
          case tr25 =>
          simp only [Act.put, List.setIfInBounds_toArray, List.set_cons_succ, List.set_cons_zero]
          refine held_take 2 (v := ?tv26) rfl (by kernel_rfl) (by kernel_rfl) (by kernel_rfl) (fun _ _ _ h => h) (.inl ⟨rfl, ?ty26⟩) hS0 ?tr26
          case ty26 => (intro _ _; go_simp; try with_reducible rfl)
          case tr26 =>
          simp only [Act.put, List.setIfInBounds_toArray, List.set_cons_succ, List.set_cons_zero]
          refine held_take 3 (v := undef) rfl (by kernel_rfl) (by kernel_rfl) (by kernel_rfl) (fun _ _ _ h => h) (.inr ⟨rfl, rfl⟩) hS0 ?_
          simp only [Act.put, List.setIfInBounds_toArray, List.set_cons_succ, List.set_cons_zero]
          refine held_take 4 (v := undef) rfl (by kernel_rfl) (by kernel_rfl) (by kernel_rfl) (fun _ _ _ h => h) (.inr ⟨rfl, rfl⟩) hS0 ?_
          simp only [Act.put, List.setIfInBounds_toArray, List.set_cons_succ, List.set_cons_zero]
          refine held_take 5 (v := undef) rfl (by kernel_rfl) (by kernel_rfl) (by kernel_rfl) (fun _ _ _ h => h) (.inr ⟨rfl, rfl⟩) hS0 ?_
          simp only [Act.put, List.setIfInBounds_toArray, List.set_cons_succ, List.set_cons_zero]
          refine held_take 6 (v := undef) rfl (by kernel_rfl) (by kernel_rfl) (by kernel_rfl) (fun _ _ _ h => h) (.inr ⟨rfl, rfl⟩) hS0 ?_
          simp only [Act.put, List.setIfInBounds_toArray, List.set_cons_succ, List.set_cons_zero]
          refine held_take 7 (v := undef) rfl (by kernel_rfl) (by kernel_rfl) (by kernel_rfl) (fun _ _ _ h => h) (.inr ⟨rfl, rfl⟩) hS0 ?_
          simp only [Act.put, List.setIfInBounds_toArray, List.set_cons_succ, List.set_cons_zero]
          refine held_take 8 (v := undef) rfl (by kernel_rfl) (by kernel_rfl) (by kernel_rfl) (fun _ _ _ h => h) (.inr ⟨rfl, rfl⟩) hS0 ?_
          simp only [Act.put, List.setIfInBounds_toArray, List.set_cons_succ, List.set_cons_zero]
          refine held_take 9 (v := undef) rfl (by kernel_rfl) (by kernel_rfl) (by kernel_rfl) (fun _ _ _ h => h) (.inr ⟨rfl, rfl⟩) hS0 ?_
          simp only [Act.put, List.setIfInBounds_toArray, List.set_cons_succ, List.set_cons_zero]
          refine held_take 10 (v := undef) rfl (by kernel_rfl) (by kernel_rfl) (by kernel_rfl) (fun _ _ _ h => h) (.inr ⟨rfl, rfl⟩) hS0 ?_
          simp only [Act.put, List.setIfInBounds_toArray, List.set_cons_succ, List.set_cons_zero]
          refine held_take 11 (v := undef) rfl (by kernel_rfl) (by kernel_rfl) (by kernel_rfl) (fun _ _ _ h => h) (.inr ⟨rfl, rfl⟩) hS0 ?_
          simp only [Act.put, List.setIfInBounds_toArray, List.set_cons_succ, List.set_cons_zero]
          refine held_take 12 (v := ?tv27) rfl (by kernel_rfl) (by kernel_rfl) (by kernel_rfl) (fun _ _ _ h => h) (.inl ⟨rfl, ?ty27⟩) hS0 ?tr27
          case ty27 => (intro _ _; go_simp; try with_reducible rfl)
          case tr27 =>
          simp only [Act.put, List.setIfInBounds_toArray, List.set_cons_succ, List.set_cons_zero]
          refine wpAnyH_done (by kernel_rfl) ?_ _
          have E2 := hid (EC.out.ext ((HCC.out _).1 hS0))
          clear hS0 hCx hCA HCC
          go_wp2
          go_roundw
          case rel =>
            refine ⟨k + 1, some (k, r), by omega, by go_num, rfl, ?_, HN2.out, E2.out⟩
            intro b q hbq
            cases hbq
            exact ⟨hlt, HRK.out⟩
          case measure => simp [intOf]; omega
        | some bq =>
          obtain ⟨b, q⟩ := bq
          obtain ⟨hbn, hbq⟩ := HBE.out b q rfl
          obtain ⟨A2, hA2, hcq⟩ := PA.out.at hbq
          injection hA2 with hA2
          subst hA2
          have HCQ := hid hcq
          have HBQ := hid hbq
          have HPC := hid (BA.out.ext EC.out)
          clear hcq hbq
          go_upto_region 8 with (fail)
          obtain ⟨C, hC⟩ : ∃ C : World → Prop, C = fun w' => Ext wC w' := ⟨_, rfl⟩
          have hC0 : ∀ w', C w' ↔ Ext wC w' := fun w' => by rw [hC]
          clear hC
          have HCC := hid hC0
          clear hC0
          have hCx : ∀ w w', C w → Ext w w' → C w' := fun w w' h1 h2 => (HCC.out w').2 (((HCC.out w).1 h1).ext h2)
          have hCA : C wC := (HCC.out _).2 (Ext.refl wC)
          have hb0 : decide (((b : Nat) : Int) < 0) = false := decide_eq_false (by omega)
          have hbi : bestI (some (b, q)) = (b : Int) := rfl
          rw [hbi]
          have hc6 : ∀ w1, C w1 → w1.cell? ⟨gr, 6, none⟩ = some (.int .i64 r.nd) := fun w1 h1 => (BC.out.ext ((HCC.out w1).1 h1)).cell' (i := 6) rfl
          have hcp : ∀ w1, C w1 → w1.cell? ⟨w.heap.size, 0, none⟩ = some (.slice (some A) pn pc) := fun w1 h1 => (HPC.out.ext ((HCC.out w1).1 h1)).cell' (i := 0) rfl
          have hcz : ∀ w1, C w1 → w1.cell? ⟨(A.add (b * 8)).block, (A.add (b * 8)).off + 6, none⟩ = some (.int .i64 q.nd) := fun w1 h1 => field_at (HCQ.out.ext (EC.out.ext ((HCC.out w1).1 h1))) (j := 6) rfl
          refine wp_region_held_drew (S := C) (by kernel_rfl) (hCx _ _ hCA (Ext.refl _).drew) (fun hS0 => ?_)
          refine held_take 0 (v := ?tv28) rfl (by kernel_rfl) (by kernel_rfl) (by kernel_rfl) (fun _ _ _ h => h) (.inl ⟨rfl, ?ty28⟩) hS0 ?tr28
          case ty28 => (intro _ _; go_simp; try with_reducible rfl)
          case tr28 =>
          simp only [Act.put, List.setIfInBounds_toArray, List.set_cons_succ, List.set_cons_zero]
          refine held_take 1 (v := ?tv29) rfl (by kernel_rfl) (by kernel_rfl) (by kernel_rfl) (fun _ _ _ h => h) (.inl ⟨rfl, ?ty29⟩) hS0 ?tr29
          case ty29 => (intro _ _; go_simp; try with_reducible rfl)
          case tr29 =>
          simp only [Act.put, List.setIfInBounds_toArray, List.set_cons_succ, List.set_cons_zero]
          refine held_take 2 (v := ?tv30) rfl (by kernel_rfl) (by kernel_rfl) (by kernel_rfl) (fun _ _ _ h => h) (.inl ⟨rfl, ?ty30⟩) hS0 ?tr30
          case ty30 => (intro _ _; go_simp; try with_reducible rfl)
          case tr30 =>
          simp only [Act.put, List.setIfInBounds_toArray, List.set_cons_succ, List.set_cons_zero]
          refine held_take 3 (v := ?tv31) rfl (by kernel_rfl) (by kernel_rfl) (by kernel_rfl) (fun _ _ _ h => h) (.inl ⟨rfl, ?ty31⟩) hS0 ?tr31
          case ty31 => (intro _ _; go_simp; try with_reducible rfl)
          case tr31 =>
          simp only [Act.put, List.setIfInBounds_toArray, List.set_cons_succ, List.set_cons_zero]
          refine held_take 4 (v := ?tv32) rfl (by kernel_rfl) (by kernel_rfl) (by kernel_rfl) (fun _ _ _ h => h) (.inl ⟨rfl, ?ty32⟩) hS0 ?tr32
          case ty32 => (intro wq hwq; have hcq := (hc6) wq hwq; go_simp; try with_reducible rfl)
          case tr32 =>
          simp only [Act.put, List.setIfInBounds_toArray, List.set_cons_succ, List.set_cons_zero]
          refine held_take 5 (v := ?tv33) rfl (by kernel_rfl) (by kernel_rfl) (by kernel_rfl) (fun _ _ _ h => h) (.inl ⟨rfl, ?ty33⟩) hS0 ?tr33
          case ty33 => (intro _ _; go_simp; try with_reducible rfl)
          case tr33 =>
          simp only [Act.put, List.setIfInBounds_toArray, List.set_cons_succ, List.set_cons_zero]
          refine held_take 6 (v := ?tv34) rfl (by kernel_rfl) (by kernel_rfl) (by kernel_rfl) (fun _ _ _ h => h) (.inl ⟨rfl, ?ty34⟩) hS0 ?tr34
          case ty34 => (intro wq hwq; have hcq := (hcp) wq hwq; go_simp; try with_reducible rfl)
          case tr34 =>
          simp only [Act.put, List.setIfInBounds_toArray, List.set_cons_succ, List.set_cons_zero]
          refine held_take 7 (v := ?tv35) rfl (by kernel_rfl) (by kernel_rfl) (by kernel_rfl) (fun _ _ _ h => h) (.inl ⟨rfl, ?ty35⟩) hS0 ?tr35
          case ty35 => (intro _ _; go_simp; try with_reducible rfl)
          case tr35 =>
          simp only [Act.put, List.setIfInBounds_toArray, List.set_cons_succ, List.set_cons_zero]
          refine held_take 8 (v := _) rfl (by kernel_rfl) (by kernel_rfl) (by kernel_rfl) (fun _ _ _ h => h) (yieldsI_run rfl (fun w1 _ => exec_index (i := b) rfl rfl rfl Tryz.underlying22 size_rule hbn w1)) hS0 ?_
          simp only [Act.put, List.setIfInBounds_toArray, List.set_cons_succ, List.set_cons_zero]
          refine held_take 9 (v := ?tv36) rfl (by kernel_rfl) (by kernel_rfl) (by kernel_rfl) (fun _ _ _ h => h) (.inl ⟨rfl, ?ty36⟩) hS0 ?tr36
          case ty36 => (intro _ _; go_simp; try with_reducible rfl)
          case tr36 =>
          simp only [Act.put, List.setIfInBounds_toArray, List.set_cons_succ, List.set_cons_zero]
          refine held_take 10 (v := ?tv37) rfl (by kernel_rfl) (by kernel_rfl) (by kernel_rfl) (fun _ _ _ h => h) (.inl ⟨rfl, ?ty37⟩) hS0 ?tr37
          case ty37 => (intro wq hwq; have hcq := (hcz) wq hwq; go_simp; try with_reducible rfl)
          case tr37 =>
          simp only [Act.put, List.setIfInBounds_toArray, List.set_cons_succ, List.set_cons_zero]
          refine held_take 11 (v := ?tv38) rfl (by kernel_rfl) (by kernel_rfl) (by kernel_rfl) (fun _ _ _ h => h) (.inl ⟨rfl, ?ty38⟩) hS0 ?tr38
          case ty38 => (intro _ _; go_simp; try with_reducible rfl)
          case tr38 =>
          simp only [Act.put, List.setIfInBounds_toArray, List.set_cons_succ, List.set_cons_zero]
          refine held_take 12 (v := ?tv39) rfl (by kernel_rfl) (by kernel_rfl) (by kernel_rfl) (fun _ _ _ h => h) (.inl ⟨rfl, ?ty39⟩) hS0 ?tr39
          case ty39 => (intro _ _; go_simp; try with_reducible rfl)
          case tr39 =>
          simp only [Act.put, List.setIfInBounds_toArray, List.set_cons_succ, List.set_cons_zero]
          refine wpAnyH_done (by kernel_rfl) ?_ _
          have E2 := hid (EC.out.ext ((HCC.out _).1 hS0))
          clear hS0 hCx hCA HCC hc6 hcp hcz hb0
          have hN := HN.out
          by_cases hbt : r.nd < q.nd
          · have q1 : decide (r.nd < q.nd) = true := decide_eq_true hbt
            rw [show betterB r (some (b, q)) = true from q1, if_pos rfl] at hN
            have HN2 := hid hN
            have HRK2 := hid HRK.out
            clear hN HN
            go_wp2
            go_roundw
            case rel =>
              refine ⟨k + 1, some (k, r), by omega, by go_num, rfl, ?_, HN2.out, E2.out⟩
              intro b q hbq
              cases hbq
              exact ⟨hlt, HRK2.out⟩
            case measure => simp [intOf]; omega
          · have q1 : decide (r.nd < q.nd) = false := decide_eq_false hbt
            rw [show betterB r (some (b, q)) = false from q1] at hN
            simp only [Bool.false_eq_true, if_false] at hN
            have HN2 := hid hN
            clear hN HN
            go_wp2
            go_roundw
            case rel => exact ⟨k + 1, some (b, q), by omega, by go_num, by first | rfl | (simp [bestI]; done), HBE.out, HN2.out, E2.out⟩
            case measure => simp [intOf]; omega
    · obtain rfl : k = pn := by omega
      have HN := hid ((decF_end (by rw [PA.out.hl]; exact Nat.le_refl _)).symm.trans HDC.out)
      have ZC := hid (ZA.out.ext E1.out)
      cases best with
      | none =>
        have hneg : decide (bestI none < 0) = true := rfl
        go_wp2_with (refine wpl_storew rfl _ (.tmp 6) _ rfl rfl rfl ZC.out agg_dec rfl (DecR.len noneDec) (decV_one noneDec) ?_)
        intro wD bD uD
        have ED := hid (uD.ext (EA.out.ext E1.out) (by omega))
        go_wp2_with fail
        exact ret_row rfl rfl bD agg_dec rfl rfl ⟨by rw [← HN.out]; rfl, ED.out⟩
      | some bq =>
        obtain ⟨b, q⟩ := bq
        obtain ⟨hbn, hbq⟩ := HBE.out b q rfl
        obtain ⟨A, rfl, hcq⟩ := PA.out.at hbq
        have HCQ := hid (hcq.ext E1.out)
        have c0' := (BA.out.ext E1.out).cell' (i := 0) rfl
        have hbi : bestI (some (b, q)) = (b : Int) := rfl
        rw [hbi]
        have hb0 : decide (((b : Nat) : Int) < 0) = false := decide_eq_false (by omega)
        have HQL := hid (RuleR.len q)
        have hqo := ruleV_one q
        clear hcq hbq
        go_wp2_with (first | (refine wpl_run rfl (exec_index (i := b) rfl rfl rfl Tryz.underlying22 size_rule hbn _) ?_) | (refine wpl_run rfl (exec_load_at rfl rfl HCQ.out agg_rule HQL.out) ?_) | (refine wpl_storew rfl _ (.tmp 10) _ rfl rfl rfl (Blk.mk_alloc (vs := zeroRule) rfl rfl) agg_rule rfl HQL.out hqo ?_))
        intro wB bB uB
        have eB : Ext wr wB := uB.ext ((Ext.refl wr).alloc _) (Nat.le_refl _)
        have c6 := bB.cell' (i := 6) rfl
        have c7 := bB.cell' (i := 7) rfl
        have EB := hid (E1.out.ext eB)
        have ZB := hid (ZC.out.ext eB)
        clear bB uB eB c0'
        generalize wr.heap.size = gr at *
        go_wp2_with (refine wpl_storew rfl _ (.tmp 6) _ rfl rfl rfl ZB.out agg_dec rfl (DecR.len (bestDec (some (b, q)))) (decV_one (bestDec (some (b, q)))) ?_)
        intro wD bD uD
        have ED := hid (uD.ext (EA.out.ext EB.out) (by omega))
        go_wp2_with fail
        exact ret_row rfl rfl bD agg_dec rfl rfl ⟨by rw [← HN.out]; rfl, ED.out⟩
end

section
open Go Go.RowKit

theorem askE_time {a : AskR} (h : askE a = 0) : ∃ T : Nat, a.time = (T : Int) ∧ T ≤ 1099511627776 := by
  have h6 : j6 a = false := by
    cases hj : j6 a with
    | false => rfl
    | true =>
      exfalso
      unfold askE at h
      rw [hj] at h
      repeat' split at h
      all_goals (first | (revert h; decide) | contradiction)
  unfold j6 at h6
  simp only [Bool.or_eq_false_iff, decide_eq_false_iff_not] at h6
  obtain ⟨T, hT⟩ := Int.eq_ofNat_of_zero_le (show 0 ≤ a.time by omega)
  exact ⟨T, hT, by omega⟩
theorem ruleE_parts {r : RuleR} (h : ruleE r = 0) : k4 r = false ∧ k6 r = false := by
  constructor
  · cases hk : k4 r with
    | false => rfl
    | true =>
      exfalso
      unfold ruleE at h
      rw [hk] at h
      repeat' split at h
      all_goals (first | (revert h; decide) | contradiction)
  · cases hk : k6 r with
    | false => rfl
    | true =>
      exfalso
      unfold ruleE at h
      rw [hk] at h
      repeat' split at h
      all_goals (first | (revert h; decide) | contradiction)
theorem ruleE_labels {r : RuleR} (h : ruleE r = 0) : ∀ s ∈ r.labels, patL s.data.toList = true := by
  have h4 := (ruleE_parts h).1
  unfold k4 at h4
  rw [List.any_eq_false] at h4
  intro s hs
  have := h4 s hs
  unfold badP at this
  simpa using this
theorem ruleE_hours {r : RuleR} (h : ruleE r = 0) : r.fr = r.tt → r.fr = 0 := by
  have h6 := (ruleE_parts h).2
  unfold k6 at h6
  simp only [Bool.or_eq_false_iff, Bool.and_eq_false_iff, decide_eq_false_iff_not] at h6
  intro he
  rcases h6.1.2 with h | h
  · exact absurd he h
  · exact Decidable.not_not.1 h

noncomputable def pMeetsV (r : RuleR) (a : AskR) : Value := if ruleE r = 0 then (if askE a = 0 then .tuple #[.bool (meetsB r a), .int .i64 0] else .tuple #[.bool false, .int .i64 (askE a)]) else .tuple #[.bool false, .int .i64 (ruleE r)]

noncomputable def pDecD (rs : List RuleR) (pn : Nat) (a : AskR) : DecR := if polE rs pn = 0 then (if askE a = 0 then decideD a rs else zeroDec) else zeroDec
noncomputable def pDecE (rs : List RuleR) (pn : Nat) (a : AskR) : Int := if polE rs pn = 0 then askE a else polE rs pn
theorem built_dec0 : Tryz.prog.built 52 [] = some zeroDec.v.toArray := by kernel_rfl
end
end Go.Proofs.YthfddfgncolnbaaGreat
