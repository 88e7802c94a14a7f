/- For whatever proof and octets, ProofsArePrinted returns true and leaves its arguments as they were; no condition. -/
import Derived.Test.YtfiigjdiohmkmaaRows
import Derived.Test.YtfiigjdiohmkmaaJ5
import Derived.WalkKit
import Derived.ProofKit
import Derived.OpenShut
import Derived.ShutString
import Derived.ChangeOld
import Derived.Below
import Derived.SizedLaws
namespace Go.Proofs.Ytfiigjdiohmkmaa.proofsArePrinted
open Go.ChangeShapes Go.WideShapes Go.ChangeAt Go.RowKit
set_option linter.unusedVariables false

theorem own : ownKnob Try.prog.godebug = none := by kernel_rfl
theorem laidOut : laidOutB Try.prog = true := by kernel_rfl

set_option maxRecDepth 100000 in
theorem lifted (os : Os) (started : os.Started) (H : Type) (enc : TypeId × Value → H) :
    ReturnsInHanded {} Try.checked os 3 .any (Rows.proofsArePrintedSpec.pre6 enc Try.prog Try.f3 Rows.proofsArePrintedRow.domain false) (Rows.proofsArePrintedSpec.post enc Try.prog Try.f3 false true false false) := by
  refine returnsInHanded_of_change_sized (C := Try.checked) own started (by kernel_rfl) Try.func3
    (ChangeSpec.witness6 (enc := enc) (C := Try.checked) false ⟨#[], #[.agg #[.int .i64 0, .int .i64 0, .slice none 0 0], .slice none 0 0], []⟩ 8 (by kernel_rfl) (by kernel_rfl) (by kernel_rfl) (by kernel_rfl)) ?_
  intro W base args ds gs before hval0 hW hcnd hsz _
  have hval : ∀ (j : Nat) t v, Try.f3.params[j]? = some t → args[j]? = some v → Value.okWide Try.prog W .any base t v := hval0
  have hW' := hW
  obtain ⟨p, q, hA0, hV, rfl, hfz, hnd⟩ := hW
  have hA : DataW.TrodAll enc Try.prog W 0 (fun _ => true) true Try.f3.params.toList args.toList ds p := hA0
  rw [Try.params3] at hA hval
  obtain ⟨v0, vs0, d0, ds0, p0, q0, hargs, rfl, rfl, h0, r0⟩ := trodAll_cons hA
  obtain ⟨v1, vs1, d1, ds1, p1, q1, rfl, rfl, rfl, h1, r1⟩ := trodAll_cons r0
  obtain ⟨rfl, rfl, rfl⟩ := trodAll_nil r1
  obtain rfl : args = #[v0, v1] := by cases args; simp_all
  obtain ⟨rfl, rfl⟩ := trodVars_none hV
  have k0 := h0
  have lt0 : ∀ x ∈ p0, x.block < W.heap.size := by obtain ⟨m, hm⟩ := k0; exact DataW.trod_lt m _ _ _ hm
  have k1 := h1
  have lt1 : ∀ x ∈ p1, x.block < W.heap.size := by obtain ⟨m, hm⟩ := k1; exact DataW.trod_lt m _ _ _ hm
  obtain ⟨I0, Z0, a0, n0, c0, ls0, rfl, hl0, h320, hnc0, hcm0, hnil0, hcl0, D0, es0, sp0, hd0, hdd0, wI0, wZ0⟩ := open_proof Try.underlying24 Try.underlying3 Try.underlying3 Try.underlying22 Try.underlying36 Try.underlying5 (by kernel_rfl) (by kernel_rfl) (by kernel_rfl) (by kernel_rfl) (by kernel_rfl) (by kernel_rfl) rfl rfl rfl (hval 0 24 v0 rfl rfl) h0
  obtain ⟨a1, n1, c1, l1, es1, sp1, rfl, hl1, hnc1, hnil1, hcl1, hdd1⟩ := open_bytes Try.underlying25 Try.underlying5 (by kernel_rfl) (hval 1 25 v1 rfl rfl) h1
  have hcap1 : c1 ≤ 140737488351232 := by
    rcases hdd1 with ⟨_, hc⟩ | ⟨rfl, hc⟩
    · omega
    · have hreach := sized_slice hsz (j := 1) (t := 25) (e := 5) rfl rfl Try.underlying25
      have hb : Try.checked.prog.bytesOf 5 = 1 := by kernel_rfl
      rw [hb, hc, Nat.mul_one] at hreach
      exact hreach
  clear hA0 hval0
  refine (proofsArePrinted_c I0 Z0 a0 n0 c0 ls0 a1 n1 c1 l1 W hl0 h320 hnc0 hcl0 hl1 (by omega) hnc1 hcl1).mono fun e W' ⟨he, bel⟩ => ?_
  subst he
  exact ⟨_, rfl, _, _, _, [], _, [], hW', trodAll_mk1 (shut_bool Try.underlying4 _), (trodAll_cons_mk (Below.trod laidOut (by kernel_rfl) (of_decide_eq_true (by kernel_rfl)) k0 bel lt0) (trodAll_cons_mk (Below.trod laidOut (by kernel_rfl) (of_decide_eq_true (by kernel_rfl)) k1 bel lt1) trodAll_mk0)), rfl, bel.frame _, fun h => by cases h⟩

theorem over : Rows.proofsArePrintedRow.holds Try.pinned (OpenSpec.ofChange Rows.proofsArePrintedSpec) :=
  OpenClaim.holds_of_wide 3 Try.f3 rfl rfl rfl rfl rfl rfl rfl ⟨rfl, rfl, rfl, rfl, rfl⟩ rfl rfl rfl rfl rfl (by kernel_rfl) Try.func3 (by kernel_rfl)
    (of_decide_eq_true (by kernel_rfl)) (by unfold Func.isWrapper; first | (rw [if_pos (by decide +kernel)]; kernel_rfl) | (rw [if_neg (by decide +kernel)]; exact ⟨rfl, rfl⟩))
    (fun os started H enc _ => lifted os started H enc)

theorem proved : Rows.ProofsArePrintedSaid := over
#print axioms proved
end Go.Proofs.Ytfiigjdiohmkmaa.proofsArePrinted
