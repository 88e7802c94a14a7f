/- Where what it reads is of bulk at most 1048576, SumsMatch returns true and leaves its arguments as they were; condition: that bulk. -/
import Derived.Test.YtjgglnflicemjaaRows
import Derived.Test.YtjgglnflicemjaaQ6
import Derived.Test.YtjgglnflicemjaaO4
import Derived.WalkKit
import Derived.ProofKit
import Derived.OpenShut
import Derived.ShutString
import Derived.ChangeOld
import Derived.Below
import Derived.SizedLaws
import Derived.JoinedCond
import Derived.Deep.CondSized
namespace Go.Proofs.Ytjgglnflicemjaa.sumsMatch
open Go.ChangeShapes Go.WideShapes Go.ChangeAt Go.RowKit
set_option linter.unusedVariables false

theorem own : ownKnob Try.prog.godebug = none := by kernel_rfl
theorem laidOut : laidOutB Try.prog = true := by kernel_rfl

theorem one_le {H : Type} (d : DataW H) : 1 ≤ Rows.uptoBulk d := by
  cases d with
  | lit l => cases l <;> simp [Rows.uptoBulk]
  | nil => simp [Rows.uptoBulk]
  | ptr d => simp [Rows.uptoBulk]
  | slice elems spare => simp [Rows.uptoBulk]
  | agg parts => simp [Rows.uptoBulk]
  | iface t d => simp [Rows.uptoBulk]
  | map entries => simp [Rows.uptoBulk]
  | held h => simp [Rows.uptoBulk]
theorem length_le {H : Type} (l : List (DataW H)) : l.length ≤ Rows.uptoBulkAll l := by
  induction l with
  | nil => simp [Rows.uptoBulkAll]
  | cons x r ih => have := one_le x; simp only [Rows.uptoBulkAll, List.length_cons]; omega
/-- the framed text of parts is at most four times their bulk -/
theorem frame_bulk {H : Type} : ∀ (its : List Item) (es : List (DataW H)), es.length = its.length → (∀ (i : Nat) (it : Item), its[i]? = some it → ∃ (x : DataW H), es[i]? = some x ∧ (it.2.2.length = 0 ∨ ∃ (e2 s2 : List (DataW H)), x = .slice e2 s2 ∧ e2.length = it.2.2.length)) →
    (frameL its).length ≤ 4 * Rows.uptoBulkAll es
  | [], _, _, _ => by simp [frameL]
  | it :: its, [], h, _ => by simp at h
  | it :: its, e :: es, h, hx => by
    have ih := frame_bulk its es (by simpa using h) (fun i u hu => by simpa using hx (i + 1) u (by simpa using hu))
    obtain ⟨x, hx1, hx2⟩ := hx 0 it rfl
    simp only [List.getElem?_cons_zero, Option.some.injEq] at hx1
    subst hx1
    have hf : (frameL (it :: its)).length = 4 + it.2.2.length + (frameL its).length := by
      unfold frameL
      simp only [List.map_cons, List.flatten_cons, List.length_append]
      rfl
    have h1 := one_le e
    simp only [Rows.uptoBulkAll]
    rw [hf]
    rcases hx2 with h2 | ⟨e2, s2, rfl, h2⟩
    · omega
    · have h3 := length_le e2
      have h4 : Rows.uptoBulk (DataW.slice e2 s2) = Rows.uptoBulkAll e2 + Rows.uptoBulkAll s2 + 1 := rfl
      omega

set_option maxRecDepth 100000 in
theorem lifted (os : Os) (started : os.Started) (H : Type) (enc : TypeId × Value → H) (F : Stop.Interp) :
    ReturnsInHanded {} Try.checked os 10 .any ((Rows.OpenSpec.upto Rows.sumsMatchSpec).pre6 enc Try.prog Try.f10 Rows.sumsMatchUptoRow.domain false) (((Rows.OpenSpec.upto Rows.sumsMatchSpec).at F).post enc Try.prog Try.f10 false true false false) := by
  refine returnsInHanded_of_cond_sized (C := Try.checked) (s := Rows.OpenSpec.upto Rows.sumsMatchSpec) (k := Rows.uptoSmall) rfl own started (by kernel_rfl) Try.func10
    (OpenSpec.witness (enc := enc) (C := Try.checked) (s := Rows.OpenSpec.upto Rows.sumsMatchSpec) (k := Rows.uptoSmall) rfl false ⟨#[], #[.int .i64 0, .slice none 0 0, .slice none 0 0], []⟩ 8 (by kernel_rfl) (by kernel_rfl) (by kernel_rfl)
      (x := ([.lit (.int .i64 0), .nil, .nil], [], [])) (by kernel_rfl) rfl (by kernel_rfl)) ?_
  intro W base args ds gs before hval0 hW hcnd hk hsz _
  have hval : ∀ (j : Nat) t v, Try.f10.params[j]? = some t → args[j]? = some v → Value.okWide Try.prog W .any base t v := hval0
  have hW' := hW
  obtain ⟨p, q, hA0, hV, rfl, hfz, hnd⟩ := hW
  have hA : DataW.TrodAll enc Try.prog W 0 (fun _ => true) true Try.f10.params.toList args.toList ds p := hA0
  rw [Try.params10] at hA hval
  obtain ⟨v0, vs0, d0, ds0, p0, q0, hargs, rfl, rfl, h0, r0⟩ := trodAll_cons hA
  obtain ⟨v1, vs1, d1, ds1, p1, q1, rfl, rfl, rfl, h1, r1⟩ := trodAll_cons r0
  obtain ⟨v2, vs2, d2, ds2, p2, q2, rfl, rfl, rfl, h2, r2⟩ := trodAll_cons r1
  obtain ⟨rfl, rfl, rfl⟩ := trodAll_nil r2
  obtain rfl : args = #[v0, v1, v2] := by cases args; simp_all
  obtain ⟨rfl, rfl⟩ := trodVars_none hV
  have hbulk : Rows.uptoBulkAll [d0, d1, d2] ≤ 1048576 := of_decide_eq_true hk
  simp only [Rows.uptoBulkAll] at hbulk
  have k0 := h0
  have lt0 : ∀ x ∈ p0, x.block < W.heap.size := by obtain ⟨m, hm⟩ := k0; exact DataW.trod_lt m _ _ _ hm
  have k1 := h1
  have lt1 : ∀ x ∈ p1, x.block < W.heap.size := by obtain ⟨m, hm⟩ := k1; exact DataW.trod_lt m _ _ _ hm
  have k2 := h2
  have lt2 : ∀ x ∈ p2, x.block < W.heap.size := by obtain ⟨m, hm⟩ := k2; exact DataW.trod_lt m _ _ _ hm
  obtain ⟨i0, rfl, _, _, _⟩ := open_int Try.underlying3 (hval 0 3 v0 rfl rfl) h0
  obtain ⟨a1, n1, c1, l1, es1, sp1, rfl, hl1, hnc1, hnil1, hcl1, hdd1⟩ := open_bytes Try.underlying26 Try.underlying5 (by kernel_rfl) (hval 1 26 v1 rfl rfl) h1
  have hc1 : c1 ≤ 1048576 := by
    rcases hdd1 with ⟨_, hc⟩ | ⟨rfl, hc⟩
    · omega
    · have h3 := length_le es1
      have h4 := length_le sp1
      have h5 : Rows.uptoBulk (DataW.slice es1 sp1) = Rows.uptoBulkAll es1 + Rows.uptoBulkAll sp1 + 1 := rfl
      omega
  obtain ⟨a2, n2, c2, its2, rfl, hl2, hnc2, hcap2, hnil2, hcl2, hits2, hdat⟩ := open_bytess2 (P := Try.prog) (j := 2) hsz Try.underlying68 Try.underlying26 Try.underlying5 (by kernel_rfl) (by kernel_rfl) (by kernel_rfl) (by kernel_rfl) (hval 2 68 v2 rfl rfl) h2 rfl rfl
  have hF : (frameL its2).length ≤ 140737488351232 := by
    rcases hdat with ⟨_, rfl⟩ | ⟨es, sp, rfl, he1, he2⟩
    · simp [frameL]
    · have h3 := frame_bulk its2 es he1 he2
      have h5 : Rows.uptoBulk (DataW.slice es sp) = Rows.uptoBulkAll es + Rows.uptoBulkAll sp + 1 := rfl
      omega
  clear hA0 hval0
  refine (sumsLaw_c l1 its2 i0 n1 c1 n2 c2 a1 a2 W hl1 (by omega) hnc1 (by omega) hnil1 hcl1 hl2 (by omega) hcl2 hits2 hF).mono fun e W' ⟨he, bel⟩ => ?_
  subst he
  exact ⟨_, rfl, _, _, _, [], _, [], hW', trodAll_mk1 (shut_bool Try.underlying4 _), (trodAll_cons_mk (Below.trod laidOut (by kernel_rfl) (of_decide_eq_true (by kernel_rfl)) k0 bel lt0) (trodAll_cons_mk (Below.trod laidOut (by kernel_rfl) (of_decide_eq_true (by kernel_rfl)) k1 bel lt1) (trodAll_cons_mk (Below.trod laidOut (by kernel_rfl) (of_decide_eq_true (by kernel_rfl)) k2 bel lt2) trodAll_mk0))), rfl, bel.frame _, fun h => by cases h⟩

theorem proved : Rows.SumsMatchUptoSaid :=
  OpenClaim.holds_of_cond 10 Try.f10 rfl rfl rfl rfl rfl rfl rfl ⟨rfl, rfl, rfl, rfl, rfl⟩ rfl rfl rfl rfl rfl (by kernel_rfl) Try.func10 (by kernel_rfl)
    (of_decide_eq_true (by kernel_rfl)) (by unfold Func.isWrapper; first | (rw [if_pos (by decide +kernel)]; kernel_rfl) | (rw [if_neg (by decide +kernel)]; exact ⟨rfl, rfl⟩))
    (fun os started H enc _ F => lifted os started H enc F)
#print axioms proved
end Go.Proofs.Ytjgglnflicemjaa.sumsMatch
