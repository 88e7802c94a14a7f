/- Contracts and laws that the claim's row leans on (15 texts, joined): ledger.bodyFault; conditions: the body's memory. Stores into a body's cells; laws of what was taken, field by field; plain. The reader's fields of package ledger; conditions: the sizes. The reader's fields of package ledger: the walk; conditions: the sizes. ledger.ParseBody; conditions: the sizes. strings.ContainsRune of the alphabet of names, whatever the rune; conditions: the rune is none beyond the last. strings.ContainsRune of the alphabet at runes of more than one octet; the predicate of names; strings.IndexFunc, ContainsFunc with it; conditions: the rune is none beyond the last. The reference's IsName; conditions: the string's size. The reference's IsName, whole; conditions: the string's size. NameOf and the reference's, and IsName: what they compute; condition: the key's length. The reference's Derive: what it computes, where IsName's answer is known; conditions: the key's length, the label's. Two operations that make memory, in either order; mix.Derive; conditions: the lengths. Rows of octets that are marked behind their end (what a conversion from a string makes), and appending to them; conditions: the sizes. ledger.putText on marked rows; what holds while a body is printed; conditions: the sizes. What a right body is (its error is zero); plain. -/
import Derived.Test.YtkcjdginoccgjaaJ3
import Derived.Great.BuildSlice
import Derived.Laws.Runes
import Derived.Laws.RangeAny
import Derived.Laws.RangeString
import Derived.Lib.Bytealg
import Derived.Lib.OthersKept
import Derived.Lib.TrimU
import Derived.Lib.Small
import Derived.Deep.LoopGhost
import Derived.Deep.DeepCutAuto
import Derived.WalkMore
import Derived.Lib.AppendStr
import Derived.Laws.IdiomStrings
import Derived.Lib.FrozenHead
namespace Go.Proofs.Ytkcjdginoccgjaa
section
open Go Go.RowKit

section
variable {P : Program} {ops : Array Oper} {rest : List Oper} {o : Oper} {a : Act} {w : World} {Q : Exit → Act → World → Prop}
/-- a call in a plain region whose guard need not be known; it leaves the world as it is -/
theorem wpg_symcall {f : FuncId} {xs : Array Operand} {ts : Array TypeId} {v : Value} (ho : o.op = .call { callee := .value (.func f), args := xs, argTypes := ts })
    (hf : ∀ args w, (callFunc f args).run P w = .ok (.enter f args) w)
    (hy : (Region.wanted o (yielded ops a.tmps) = true ∧ ∃ args, xs.map a.eval = args ∧ Calls P f args w (fun e w' => e = .returned v ∧ w = w')) ∨ (Region.wanted o (yielded ops a.tmps) = false ∧ v = undef))
    (h : wpList P ops Q rest (a.put o.dst v) w) : wpList P ops Q (o :: rest) a w := by
  rcases hy with ⟨h1, args, ha, hc⟩ | ⟨h1, rfl⟩
  · refine wpList_want h1 fun K hK => ?_
    have hr : (execOp a.eval o).run P w = .ok (.enter f args) w := by
      unfold execOp
      simp only [ho, resolve, Act.eval, Deferred.ofValue, Sem.run_bind, Sem.run_pure, Result.andThen_ok, invoke]
      have : (#[] ++ xs.map a.eval ++ #[] : Array Value) = args := by simp [ha]
      simpa [ha] using hf args w
    unfold Oper.wp
    rw [hr]
    refine hc.mono ?_
    rintro e w' ⟨rfl, rfl⟩
    exact hK _ _ h
  · exact wpList_skip h1 h
end
theorem rows_at16 {ls : List (List UInt8)} (h : All16 ls) {i : Nat} {x : List UInt8} (hx : ls[i]? = some x) {j : Nat} (hj : j < 16) : (rows ls)[16 * i + j]? = (x.map u8v)[j]? := by
  induction ls generalizing i with
  | nil => cases hx
  | cons l ls ih =>
    have hl := h l (by simp)
    unfold rows
    rw [List.flatten_cons, List.map_append]
    cases i with
    | zero =>
      cases hx
      rw [List.getElem?_append_left (by simp; omega), Nat.mul_zero, Nat.zero_add]
    | succ i =>
      rw [List.getElem?_append_right (by simp; omega), List.length_map, hl, show 16 * (i + 1) + j - 16 = 16 * i + j by omega]
      exact ih (fun x hx => h x (by simp [hx])) (by simpa using hx)
theorem rows_length16 {ls : List (List UInt8)} (h : All16 ls) : (rows ls).length = 16 * ls.length := by
  induction ls with
  | nil => rfl
  | cons l ls ih =>
    have := ih (fun x hx => h x (by simp [hx]))
    unfold rows at *
    rw [List.length_map] at *
    rw [List.flatten_cons, List.length_append, h l (by simp), this, List.length_cons]; omega
theorem row16_at {w : World} {a : Option Addr} {ls : List (List UInt8)} (h : Cells w a (rows ls)) (h16 : All16 ls) {i : Nat} {x : List UInt8} (hx : ls[i]? = some x) : ∃ p, a = some p ∧ ∀ k y, ls[k]? = some y → CellsAt w (p.add (k * 16)) (y.map u8v) := by
  have hi := (List.getElem?_eq_some_iff.1 hx).1
  obtain ⟨b, off, rfl, hc⟩ := h.some_of (by rw [rows_length16 h16]; omega)
  refine ⟨_, rfl, fun k y hy j u hu => ?_⟩
  have hxl := h16 y (List.mem_of_getElem? hy)
  have hj : j < 16 := by
    have := (List.getElem?_eq_some_iff.1 hu).1
    rw [List.length_map, hxl] at this; exact this
  have h2 : (rows ls)[16 * k + j]? = some u := by rw [rows_at16 h16 hy hj]; exact hu
  rw [addr_add, addr_add]
  have := hc _ _ h2
  rw [show off + k * 16 + j = off + (16 * k + j) by omega]
  exact this
theorem size_id : (Try.prog.info? 68).map (·.size) = some 16 := by kernel_rfl
theorem list12 {l : List Bool} (h : l.length = 12) : ∃ b0 b1 b2 b3 b4 b5 b6 b7 b8 b9 b10 b11, l = [b0, b1, b2, b3, b4, b5, b6, b7, b8, b9, b10, b11] := by
  match l, h with
  | [b0, b1, b2, b3, b4, b5, b6, b7, b8, b9, b10, b11], _ => exact ⟨b0, b1, b2, b3, b4, b5, b6, b7, b8, b9, b10, b11, rfl⟩

set_option maxRecDepth 100000 in
set_option maxHeartbeats 4000000 in
theorem bodyFault_c (act : Int) (b : BodyR) (w : World) (hr : b.Ok w) :
    Calls Try.prog 75 #[.int .i64 act, .agg b.v.toArray] w fun e w' => e = .returned (.int .i64 (bodyE act b)) ∧ Ext w w' := by
  have HR := hid hr
  clear hr
  obtain ⟨E, hE⟩ : ∃ E, bodyE act b = E := ⟨_, rfl⟩
  rw [hE]
  unfold bodyE needAt rangeB needAt at hE
  have hno := needsOf_c act
  unfold needsV at hno
  obtain ⟨b0, b1, b2, b3, b4, b5, b6, b7, b8, b9, b10, b11, hL⟩ := list12 (needsL_len act)
  rw [hL] at hno
  simp only [hL, List.getD_cons_zero, List.getD_cons_succ] at hE
  have hno := hid hno
  have HE := hid hE
  have hex := hid (fun w' h => extra_c b b0 b1 b2 b3 b4 b5 b6 b7 b8 b9 b10 b11 w' h)
  have hrf := hid (fun w' (h : b.Ok w') => rolesFault_c b.roles b.ra b.rn b.rc w' h.rl (by have := h.rnc; have := h.rm; omega) h.rs h.rcell)
  clear hL hE
  go_enter Try.func75, Try.ntmps75
  go_upto_region 1 with (fail)
  generalize hwA : World.alloc w _ = wA
  have bA : Blk wA w.heap.size b.v 72 := by rw [← hwA]; exact Blk.mk_alloc rfl rfl
  have eA : Ext w wA := by rw [← hwA]; exact (Ext.refl w).alloc _
  have BA := hid bA
  have EA := hid eA
  clear hwA bA eA
  go_wp2_with fail
  refine (lisAct_c act wA).mono ?_
  rintro e w2 ⟨rfl, rfl⟩
  cases h1 : lactB act with
  | false =>
    go_wp2
    go_ret
    exact ⟨by rw [← HE.out, h1]; rfl, EA.out⟩
  | true =>
  rw [h1] at HE
  go_wp2_with fail
  refine (hno.out wA).mono ?_
  rintro e w3 ⟨rfl, e3⟩
  have BB := hid (BA.out.ext e3)
  have EB := hid (EA.out.ext e3)
  have HRB := hid (HR.out.ext EB.out)
  have HBL := hid (BodyR.len HR.out)
  clear e3 BA EA hno
  go_upto_region 4 with (fail)
  generalize hwC : World.alloc w3 _ = wC
  obtain ⟨gn, hgn⟩ : ∃ gn, w3.heap.size = gn := ⟨_, rfl⟩
  have nC : Blk wC w3.heap.size [.bool b0, .bool b1, .bool b2, .bool b3, .bool b4, .bool b5, .bool b6, .bool b7, .bool b8, .bool b9, .bool b10, .bool b11] 118 := by rw [← hwC]; exact Blk.mk_alloc rfl rfl
  have eC : Ext w3 wC := by rw [← hwC]; exact (Ext.refl w3).alloc _
  rw [hgn] at nC ⊢
  have NC := hid nC
  have BC := hid (BB.out.ext eC)
  have EC := hid (EB.out.ext eC)
  have HRC := hid (HRB.out.ext eC)
  clear hwC nC eC hgn BB EB HRB
  go_wp2_with (first | (refine wpl_loadw rfl 72 (.tmp 3) rfl rfl BC.out agg_body HBL.out ?_) | (refine wpl_loadw rfl 118 (.tmp 5) rfl rfl NC.out agg_needs rfl ?_))
  refine (hex.out wC HRC.out).mono ?_
  rintro e w4 ⟨rfl, e4⟩
  have ND := hid (NC.out.ext e4)
  have BD := hid (BC.out.ext e4)
  have ED := hid (EC.out.ext e4)
  have HRD := hid (HRC.out.ext e4)
  clear e4 NC BC EC HRC hex
  cases h2 : extraB b [b0, b1, b2, b3, b4, b5, b6, b7, b8, b9, b10, b11] with
  | true =>
    rw [h2] at HE
    go_wp2
    go_ret
    exact ⟨by rw [← HE.out]; rfl, ED.out⟩
  | false =>
  rw [h2] at HE
  have c0 := BD.out.cell' (BodyR.at0 b)
  have c17 := BD.out.cell' (BodyR.at17 HRD.out)
  have c18 := BD.out.cell' (BodyR.at18 HRD.out)
  have c51 := BD.out.cell' (BodyR.at51 HRD.out)
  have c52 := BD.out.cell' (BodyR.at52 HRD.out)
  have c53 := BD.out.cell' (BodyR.at53 HRD.out)
  have c54 := BD.out.cell' (BodyR.at54 HRD.out)
  have c55 := BD.out.cell' (BodyR.at55 HRD.out)
  have c56 := BD.out.cell' (BodyR.at56 HRD.out)
  have c57 := BD.out.cell' (BodyR.at57 HRD.out)
  have n3 : w4.cell? ⟨gn, 3, none⟩ = some (.bool b3) := ND.out.cell' rfl
  have n6 : w4.cell? ⟨gn, 6, none⟩ = some (.bool b6) := ND.out.cell' rfl
  have n8 : w4.cell? ⟨gn, 8, none⟩ = some (.bool b8) := ND.out.cell' rfl
  by_cases q1 : 32768 < b.text.size
  · have d1 : decide (32768 < b.text.size) = true := decide_eq_true q1
    have d2 : decide ((32768 : Int) < (b.text.size : Int)) = true := decide_eq_true (by omega)
    have he : (5 : Int) = E := by rw [← HE.out]; simp [q1]
    clear HE
    have HE := hid he
    clear he q1
    go_wp2
    go_ret
    exact ⟨by rw [← HE.out]; rfl, ED.out⟩
  have d3 : decide (32768 < b.text.size) = false := decide_eq_false q1
  have e3 : decide ((32768 : Int) < (b.text.size : Int)) = false := decide_eq_false (by omega)
  by_cases q2 : 16 < b.rn
  · have d1 : decide (16 < b.rn) = true := decide_eq_true q2
    have d2 : decide ((16 : Int) < (b.rn : Int)) = true := decide_eq_true (by omega)
    have he : (5 : Int) = E := by rw [← HE.out]; simp [q2]
    clear HE
    have HE := hid he
    clear he q2
    go_wp2
    go_ret
    exact ⟨by rw [← HE.out]; rfl, ED.out⟩
  have d4 : decide (16 < b.rn) = false := decide_eq_false q2
  have e4 : decide ((16 : Int) < (b.rn : Int)) = false := decide_eq_false (by omega)
  by_cases q3 : 32 < b.hn
  · have d1 : decide (32 < b.hn) = true := decide_eq_true q3
    have d2 : decide ((32 : Int) < (b.hn : Int)) = true := decide_eq_true (by omega)
    have he : (5 : Int) = E := by rw [← HE.out]; simp [q3]
    clear HE
    have HE := hid he
    clear he q3
    go_wp2
    go_ret
    exact ⟨by rw [← HE.out]; rfl, ED.out⟩
  have d5 : decide (32 < b.hn) = false := decide_eq_false q3
  have e5 : decide ((32 : Int) < (b.hn : Int)) = false := decide_eq_false (by omega)
  have HE2 := HE.out
  rw [d3, d4, d5] at HE2
  obtain ⟨R, hR⟩ : ∃ R, rolesE b.roles = R := ⟨_, rfl⟩
  rw [hR] at HE2 hrf
  clear HE hR
  have HE := hid HE2
  clear HE2
  go_wp2_with fail
  refine (hrf.out w4 HRD.out).mono ?_
  rintro e w5 ⟨rfl, e5⟩
  have ND5 := hid (ND.out.ext e5)
  have BD5 := hid (BD.out.ext e5)
  have ED5 := hid (ED.out.ext e5)
  have HRD5 := hid (HRD.out.ext e5)
  clear e5 ND BD ED HRD hrf c0 c17 c18 c51 c52 c53 c54 c55 c56 c57 n3 n6 n8 d3 d4 d5 e3 e4
  by_cases hR0 : R = 0
  rotate_left
  · have he : R = E := by
      have h9 : (R != 0) = true := by simpa using hR0
      rw [← HE.out, h9]; rfl
    subst he
    have h8 : (R != 0) = true := by simpa using hR0
    clear HE
    go_wp2
    go_ret
    exact ⟨rfl, ED5.out⟩
  subst hR0
  have c18 := BD5.out.cell' (BodyR.at18 HRD5.out)
  have n3 : w5.cell? ⟨gn, 3, none⟩ = some (.bool b3) := ND5.out.cell' rfl
  have hnm := hid (isName_c b.label w5 HRD5.out.ls)
  obtain ⟨K3, hK3⟩ : ∃ K3, isNameL b.label.data.toList = K3 := ⟨_, rfl⟩
  have HEA := HE.out
  rw [hK3] at HEA hnm
  clear HE hK3
  have HE := hid HEA
  clear HEA
  -- SYM
  go_upto_region 11 with (fail)
  refine wp_region_list ?_
  refine wpg_sym (v := .pointer (some ⟨gn, 3, none⟩)) ?hy1 ?hz1
  case hy1 => (first | exact .inl ⟨rfl, by first | (go_simp; try with_reducible rfl)⟩ | exact .inr ⟨rfl, rfl⟩)
  case hz1 =>
  try simp only [Act.put, List.setIfInBounds_toArray, List.set_cons_succ, List.set_cons_zero]
  refine wpg_sym (v := .bool b3) ?hy2 ?hz2
  case hy2 => (first | exact .inl ⟨rfl, by first | (go_simp; try with_reducible rfl)⟩ | exact .inr ⟨rfl, rfl⟩)
  case hz2 =>
  try simp only [Act.put, List.setIfInBounds_toArray, List.set_cons_succ, List.set_cons_zero]
  refine wpg_sym (v := .bool b3) ?hy3 ?hz3
  case hy3 => (first | exact .inl ⟨rfl, by first | (go_simp; try with_reducible rfl)⟩ | exact .inr ⟨rfl, rfl⟩)
  case hz3 =>
  try simp only [Act.put, List.setIfInBounds_toArray, List.set_cons_succ, List.set_cons_zero]
  refine wpg_sym (v := bif b3 then .pointer (some ⟨w.heap.size, 18, none⟩) else undef) ?hy4 ?hz4
  case hy4 => ((cases b3) <;> (first | exact .inl ⟨rfl, by first | (go_simp; try with_reducible rfl)⟩ | exact .inr ⟨rfl, rfl⟩))
  case hz4 =>
  try simp only [Act.put, List.setIfInBounds_toArray, List.set_cons_succ, List.set_cons_zero]
  refine wpg_sym (v := bif b3 then .string b.label else undef) ?hy5 ?hz5
  case hy5 => ((cases b3) <;> (first | exact .inl ⟨rfl, by first | (go_simp; try with_reducible rfl)⟩ | exact .inr ⟨rfl, rfl⟩))
  case hz5 =>
  try simp only [Act.put, List.setIfInBounds_toArray, List.set_cons_succ, List.set_cons_zero]
  refine wpg_symcall (v := bif b3 then .bool K3 else undef) rfl Try.call121 ?hy6 ?hz6
  case hy6 => ((cases b3) <;> (first | exact .inl ⟨rfl, _, by simp [Act.eval], hnm.out⟩ | exact .inr ⟨rfl, rfl⟩))
  case hz6 =>
  try simp only [Act.put, List.setIfInBounds_toArray, List.set_cons_succ, List.set_cons_zero]
  refine wpg_sym (v := bif b3 then .bool (!K3) else undef) ?hy7 ?hz7
  case hy7 => ((cases b3) <;> (first | exact .inl ⟨rfl, by first | (go_simp; try with_reducible rfl)⟩ | exact .inr ⟨rfl, rfl⟩))
  case hz7 =>
  try simp only [Act.put, List.setIfInBounds_toArray, List.set_cons_succ, List.set_cons_zero]
  refine wpg_sym (v := .bool (b3 && !K3)) ?hy8 ?hz8
  case hy8 => ((cases b3) <;> (first | exact .inl ⟨rfl, by first | (go_simp; try with_reducible rfl)⟩ | exact .inr ⟨rfl, rfl⟩))
  case hz8 =>
  try simp only [Act.put, List.setIfInBounds_toArray, List.set_cons_succ, List.set_cons_zero]
  obtain ⟨G3, hG3⟩ : ∃ G3, (b3 && !K3) = G3 := ⟨_, rfl⟩
  have HEB := HE.out
  rw [hG3] at HEB ⊢
  clear HE hG3 hnm n3
  have HE := hid HEB
  clear HEB
  cases G3 with
  | true =>
    have he : (6 : Int) = E := by rw [← HE.out]; rfl
    clear HE
    go_wp2_with fail
    go_ret
    exact ⟨by rw [← he]; rfl, ED5.out⟩
  | false =>
  have c51 := BD5.out.cell' (BodyR.at51 HRD5.out)
  have c52 := BD5.out.cell' (BodyR.at52 HRD5.out)
  have c53 := BD5.out.cell' (BodyR.at53 HRD5.out)
  have c54 := BD5.out.cell' (BodyR.at54 HRD5.out)
  have c55 := BD5.out.cell' (BodyR.at55 HRD5.out)
  have c56 := BD5.out.cell' (BodyR.at56 HRD5.out)
  have n6 : w5.cell? ⟨gn, 6, none⟩ = some (.bool b6) := ND5.out.cell' rfl
  have n8 : w5.cell? ⟨gn, 8, none⟩ = some (.bool b8) := ND5.out.cell' rfl
  have HEB := HE.out
  unfold outB at HEB
  have x0 := outside_c b.purpose 1 3 w5
  generalize (decide (b.purpose < 1) || decide (3 < b.purpose)) = o0 at x0 HEB
  have x0 := hid x0
  have x1 := outside_c b.reason 0 255 w5
  generalize (decide (b.reason < 0) || decide (255 < b.reason)) = o1 at x1 HEB
  have x1 := hid x1
  have x2 := outside_c b.version 0 255 w5
  generalize (decide (b.version < 0) || decide (255 < b.version)) = o2 at x2 HEB
  have x2 := hid x2
  have x3 := outside_c b.need 1 32 w5
  generalize (decide (b.need < 1) || decide (32 < b.need)) = o3 at x3 HEB
  have x3 := hid x3
  have x4 := outside_c b.epoch 0 4294967295 w5
  generalize (decide (b.epoch < 0) || decide (4294967295 < b.epoch)) = o4 at x4 HEB
  have x4 := hid x4
  have x5 := outside_c b.count 0 65536 w5
  generalize (decide (b.count < 0) || decide (65536 < b.count)) = o5 at x5 HEB
  have x5 := hid x5
  clear HE
  have HE := hid HEB
  clear HEB
  go_upto_region 13 with (fail)
  refine wp_region_list ?_
  refine wpg_sym (v := .pointer (some ⟨gn, 6, none⟩)) ?hy9 ?hz9
  case hy9 => (first | exact .inl ⟨rfl, by first | (go_simp; try with_reducible rfl)⟩ | exact .inr ⟨rfl, rfl⟩)
  case hz9 =>
  try simp only [Act.put, List.setIfInBounds_toArray, List.set_cons_succ, List.set_cons_zero]
  refine wpg_sym (v := .bool b6) ?hy10 ?hz10
  case hy10 => (first | exact .inl ⟨rfl, by first | (go_simp; try with_reducible rfl)⟩ | exact .inr ⟨rfl, rfl⟩)
  case hz10 =>
  try simp only [Act.put, List.setIfInBounds_toArray, List.set_cons_succ, List.set_cons_zero]
  refine wpg_sym (v := .bool b6) ?hy11 ?hz11
  case hy11 => (first | exact .inl ⟨rfl, by first | (go_simp; try with_reducible rfl)⟩ | exact .inr ⟨rfl, rfl⟩)
  case hz11 =>
  try simp only [Act.put, List.setIfInBounds_toArray, List.set_cons_succ, List.set_cons_zero]
  refine wpg_sym (v := bif b6 then .pointer (some ⟨w.heap.size, 52, none⟩) else undef) ?hy12 ?hz12
  case hy12 => ((cases b6) <;> (first | exact .inl ⟨rfl, by first | (go_simp; try with_reducible rfl)⟩ | exact .inr ⟨rfl, rfl⟩))
  case hz12 =>
  try simp only [Act.put, List.setIfInBounds_toArray, List.set_cons_succ, List.set_cons_zero]
  refine wpg_sym (v := bif b6 then .int .i64 b.purpose else undef) ?hy13 ?hz13
  case hy13 => ((cases b6) <;> (first | exact .inl ⟨rfl, by first | (go_simp; try with_reducible rfl)⟩ | exact .inr ⟨rfl, rfl⟩))
  case hz13 =>
  try simp only [Act.put, List.setIfInBounds_toArray, List.set_cons_succ, List.set_cons_zero]
  refine wpg_symcall (v := bif b6 then .bool o0 else undef) rfl Try.call122 ?hy14 ?hz14
  case hy14 => ((cases b6) <;> (first | exact .inl ⟨rfl, _, by simp [Act.eval], x0.out⟩ | exact .inr ⟨rfl, rfl⟩))
  case hz14 =>
  try simp only [Act.put, List.setIfInBounds_toArray, List.set_cons_succ, List.set_cons_zero]
  refine wpg_sym (v := .bool (b6 && o0)) ?hy15 ?hz15
  case hy15 => ((cases b6) <;> (first | exact .inl ⟨rfl, by first | (go_simp; try with_reducible rfl)⟩ | exact .inr ⟨rfl, rfl⟩))
  case hz15 =>
  try simp only [Act.put, List.setIfInBounds_toArray, List.set_cons_succ, List.set_cons_zero]
  generalize hD1 : (b6 && o0) = D1 at HE ⊢
  clear hD1
  refine wpg_sym (v := .bool D1) ?hy16 ?hz16
  case hy16 => (first | exact .inl ⟨rfl, by first | (go_simp; try with_reducible rfl)⟩ | exact .inr ⟨rfl, rfl⟩)
  case hz16 =>
  try simp only [Act.put, List.setIfInBounds_toArray, List.set_cons_succ, List.set_cons_zero]
  refine wpg_sym (v := bif D1 then undef else .pointer (some ⟨w.heap.size, 53, none⟩)) ?hy17 ?hz17
  case hy17 => ((cases D1) <;> (first | exact .inl ⟨rfl, by first | (go_simp; try with_reducible rfl)⟩ | exact .inr ⟨rfl, rfl⟩))
  case hz17 =>
  try simp only [Act.put, List.setIfInBounds_toArray, List.set_cons_succ, List.set_cons_zero]
  refine wpg_sym (v := bif D1 then undef else .int .i64 b.reason) ?hy18 ?hz18
  case hy18 => ((cases D1) <;> (first | exact .inl ⟨rfl, by first | (go_simp; try with_reducible rfl)⟩ | exact .inr ⟨rfl, rfl⟩))
  case hz18 =>
  try simp only [Act.put, List.setIfInBounds_toArray, List.set_cons_succ, List.set_cons_zero]
  refine wpg_symcall (v := bif D1 then undef else .bool o1) rfl Try.call122 ?hy19 ?hz19
  case hy19 => ((cases D1) <;> (first | exact .inl ⟨rfl, _, by simp [Act.eval], x1.out⟩ | exact .inr ⟨rfl, rfl⟩))
  case hz19 =>
  try simp only [Act.put, List.setIfInBounds_toArray, List.set_cons_succ, List.set_cons_zero]
  refine wpg_sym (v := .bool (D1 || o1)) ?hy20 ?hz20
  case hy20 => ((cases D1) <;> (first | exact .inl ⟨rfl, by first | (go_simp; try with_reducible rfl)⟩ | exact .inr ⟨rfl, rfl⟩))
  case hz20 =>
  try simp only [Act.put, List.setIfInBounds_toArray, List.set_cons_succ, List.set_cons_zero]
  generalize hD2 : (D1 || o1) = D2 at HE ⊢
  clear hD2
  refine wpg_sym (v := .bool D2) ?hy21 ?hz21
  case hy21 => (first | exact .inl ⟨rfl, by first | (go_simp; try with_reducible rfl)⟩ | exact .inr ⟨rfl, rfl⟩)
  case hz21 =>
  try simp only [Act.put, List.setIfInBounds_toArray, List.set_cons_succ, List.set_cons_zero]
  refine wpg_sym (v := bif D2 then undef else .pointer (some ⟨w.heap.size, 55, none⟩)) ?hy22 ?hz22
  case hy22 => ((cases D2) <;> (first | exact .inl ⟨rfl, by first | (go_simp; try with_reducible rfl)⟩ | exact .inr ⟨rfl, rfl⟩))
  case hz22 =>
  try simp only [Act.put, List.setIfInBounds_toArray, List.set_cons_succ, List.set_cons_zero]
  refine wpg_sym (v := bif D2 then undef else .int .i64 b.version) ?hy23 ?hz23
  case hy23 => ((cases D2) <;> (first | exact .inl ⟨rfl, by first | (go_simp; try with_reducible rfl)⟩ | exact .inr ⟨rfl, rfl⟩))
  case hz23 =>
  try simp only [Act.put, List.setIfInBounds_toArray, List.set_cons_succ, List.set_cons_zero]
  refine wpg_symcall (v := bif D2 then undef else .bool o2) rfl Try.call122 ?hy24 ?hz24
  case hy24 => ((cases D2) <;> (first | exact .inl ⟨rfl, _, by simp [Act.eval], x2.out⟩ | exact .inr ⟨rfl, rfl⟩))
  case hz24 =>
  try simp only [Act.put, List.setIfInBounds_toArray, List.set_cons_succ, List.set_cons_zero]
  refine wpg_sym (v := .bool (D2 || o2)) ?hy25 ?hz25
  case hy25 => ((cases D2) <;> (first | exact .inl ⟨rfl, by first | (go_simp; try with_reducible rfl)⟩ | exact .inr ⟨rfl, rfl⟩))
  case hz25 =>
  try simp only [Act.put, List.setIfInBounds_toArray, List.set_cons_succ, List.set_cons_zero]
  generalize hD3 : (D2 || o2) = D3 at HE ⊢
  clear hD3
  refine wpg_sym (v := .bool D3) ?hy26 ?hz26
  case hy26 => (first | exact .inl ⟨rfl, by first | (go_simp; try with_reducible rfl)⟩ | exact .inr ⟨rfl, rfl⟩)
  case hz26 =>
  try simp only [Act.put, List.setIfInBounds_toArray, List.set_cons_succ, List.set_cons_zero]
  refine wpg_sym (v := bif D3 then undef else .pointer (some ⟨gn, 8, none⟩)) ?hy27 ?hz27
  case hy27 => ((cases D3) <;> (first | exact .inl ⟨rfl, by first | (go_simp; try with_reducible rfl)⟩ | exact .inr ⟨rfl, rfl⟩))
  case hz27 =>
  try simp only [Act.put, List.setIfInBounds_toArray, List.set_cons_succ, List.set_cons_zero]
  refine wpg_sym (v := bif D3 then undef else .bool b8) ?hy28 ?hz28
  case hy28 => ((cases D3) <;> (first | exact .inl ⟨rfl, by first | (go_simp; try with_reducible rfl)⟩ | exact .inr ⟨rfl, rfl⟩))
  case hz28 =>
  try simp only [Act.put, List.setIfInBounds_toArray, List.set_cons_succ, List.set_cons_zero]
  refine wpg_sym (v := bif D3 then undef else .bool b8) ?hy29 ?hz29
  case hy29 => ((cases D3) <;> (first | exact .inl ⟨rfl, by first | (go_simp; try with_reducible rfl)⟩ | exact .inr ⟨rfl, rfl⟩))
  case hz29 =>
  try simp only [Act.put, List.setIfInBounds_toArray, List.set_cons_succ, List.set_cons_zero]
  refine wpg_sym (v := bif D3 then undef else (bif b8 then .pointer (some ⟨w.heap.size, 54, none⟩) else undef)) ?hy30 ?hz30
  case hy30 => ((cases D3 <;> cases b8) <;> (first | exact .inl ⟨rfl, by first | (go_simp; try with_reducible rfl)⟩ | exact .inr ⟨rfl, rfl⟩))
  case hz30 =>
  try simp only [Act.put, List.setIfInBounds_toArray, List.set_cons_succ, List.set_cons_zero]
  refine wpg_sym (v := bif D3 then undef else (bif b8 then .int .i64 b.need else undef)) ?hy31 ?hz31
  case hy31 => ((cases D3 <;> cases b8) <;> (first | exact .inl ⟨rfl, by first | (go_simp; try with_reducible rfl)⟩ | exact .inr ⟨rfl, rfl⟩))
  case hz31 =>
  try simp only [Act.put, List.setIfInBounds_toArray, List.set_cons_succ, List.set_cons_zero]
  refine wpg_symcall (v := bif D3 then undef else (bif b8 then .bool o3 else undef)) rfl Try.call122 ?hy32 ?hz32
  case hy32 => ((cases D3 <;> cases b8) <;> (first | exact .inl ⟨rfl, _, by simp [Act.eval], x3.out⟩ | exact .inr ⟨rfl, rfl⟩))
  case hz32 =>
  try simp only [Act.put, List.setIfInBounds_toArray, List.set_cons_succ, List.set_cons_zero]
  refine wpg_sym (v := bif D3 then undef else .bool (b8 && o3)) ?hy33 ?hz33
  case hy33 => ((cases D3 <;> cases b8) <;> (first | exact .inl ⟨rfl, by first | (go_simp; try with_reducible rfl)⟩ | exact .inr ⟨rfl, rfl⟩))
  case hz33 =>
  try simp only [Act.put, List.setIfInBounds_toArray, List.set_cons_succ, List.set_cons_zero]
  refine wpg_sym (v := .bool (D3 || (b8 && o3))) ?hy34 ?hz34
  case hy34 => ((cases D3) <;> (first | exact .inl ⟨rfl, by first | (go_simp; try with_reducible rfl)⟩ | exact .inr ⟨rfl, rfl⟩))
  case hz34 =>
  try simp only [Act.put, List.setIfInBounds_toArray, List.set_cons_succ, List.set_cons_zero]
  generalize hD4 : (D3 || (b8 && o3)) = D4 at HE ⊢
  clear hD4
  refine wpg_sym (v := .bool D4) ?hy35 ?hz35
  case hy35 => (first | exact .inl ⟨rfl, by first | (go_simp; try with_reducible rfl)⟩ | exact .inr ⟨rfl, rfl⟩)
  case hz35 =>
  try simp only [Act.put, List.setIfInBounds_toArray, List.set_cons_succ, List.set_cons_zero]
  refine wpg_sym (v := bif D4 then undef else .pointer (some ⟨w.heap.size, 51, none⟩)) ?hy36 ?hz36
  case hy36 => ((cases D4) <;> (first | exact .inl ⟨rfl, by first | (go_simp; try with_reducible rfl)⟩ | exact .inr ⟨rfl, rfl⟩))
  case hz36 =>
  try simp only [Act.put, List.setIfInBounds_toArray, List.set_cons_succ, List.set_cons_zero]
  refine wpg_sym (v := bif D4 then undef else .int .i64 b.epoch) ?hy37 ?hz37
  case hy37 => ((cases D4) <;> (first | exact .inl ⟨rfl, by first | (go_simp; try with_reducible rfl)⟩ | exact .inr ⟨rfl, rfl⟩))
  case hz37 =>
  try simp only [Act.put, List.setIfInBounds_toArray, List.set_cons_succ, List.set_cons_zero]
  refine wpg_symcall (v := bif D4 then undef else .bool o4) rfl Try.call122 ?hy38 ?hz38
  case hy38 => ((cases D4) <;> (first | exact .inl ⟨rfl, _, by simp [Act.eval], x4.out⟩ | exact .inr ⟨rfl, rfl⟩))
  case hz38 =>
  try simp only [Act.put, List.setIfInBounds_toArray, List.set_cons_succ, List.set_cons_zero]
  refine wpg_sym (v := .bool (D4 || o4)) ?hy39 ?hz39
  case hy39 => ((cases D4) <;> (first | exact .inl ⟨rfl, by first | (go_simp; try with_reducible rfl)⟩ | exact .inr ⟨rfl, rfl⟩))
  case hz39 =>
  try simp only [Act.put, List.setIfInBounds_toArray, List.set_cons_succ, List.set_cons_zero]
  generalize hD5 : (D4 || o4) = D5 at HE ⊢
  clear hD5
  refine wpg_sym (v := .bool D5) ?hy40 ?hz40
  case hy40 => (first | exact .inl ⟨rfl, by first | (go_simp; try with_reducible rfl)⟩ | exact .inr ⟨rfl, rfl⟩)
  case hz40 =>
  try simp only [Act.put, List.setIfInBounds_toArray, List.set_cons_succ, List.set_cons_zero]
  refine wpg_sym (v := bif D5 then undef else .pointer (some ⟨w.heap.size, 56, none⟩)) ?hy41 ?hz41
  case hy41 => ((cases D5) <;> (first | exact .inl ⟨rfl, by first | (go_simp; try with_reducible rfl)⟩ | exact .inr ⟨rfl, rfl⟩))
  case hz41 =>
  try simp only [Act.put, List.setIfInBounds_toArray, List.set_cons_succ, List.set_cons_zero]
  refine wpg_sym (v := bif D5 then undef else .int .i64 b.count) ?hy42 ?hz42
  case hy42 => ((cases D5) <;> (first | exact .inl ⟨rfl, by first | (go_simp; try with_reducible rfl)⟩ | exact .inr ⟨rfl, rfl⟩))
  case hz42 =>
  try simp only [Act.put, List.setIfInBounds_toArray, List.set_cons_succ, List.set_cons_zero]
  refine wpg_symcall (v := bif D5 then undef else .bool o5) rfl Try.call122 ?hy43 ?hz43
  case hy43 => ((cases D5) <;> (first | exact .inl ⟨rfl, _, by simp [Act.eval], x5.out⟩ | exact .inr ⟨rfl, rfl⟩))
  case hz43 =>
  try simp only [Act.put, List.setIfInBounds_toArray, List.set_cons_succ, List.set_cons_zero]
  refine wpg_sym (v := .bool (D5 || o5)) ?hy44 ?hz44
  case hy44 => ((cases D5) <;> (first | exact .inl ⟨rfl, by first | (go_simp; try with_reducible rfl)⟩ | exact .inr ⟨rfl, rfl⟩))
  case hz44 =>
  try simp only [Act.put, List.setIfInBounds_toArray, List.set_cons_succ, List.set_cons_zero]
  generalize hD6 : (D5 || o5) = D6 at HE ⊢
  clear hD6
  clear x0 x1 x2 x3 x4 x5 c51 c52 c53 c54 c55 c56 n6 n8 c18
  cases D6 with
  | true =>
    have he : (4 : Int) = E := by rw [← HE.out]; rfl
    clear HE
    go_wp2_with fail
    go_ret
    exact ⟨by rw [← he]; rfl, ED5.out⟩
  | false =>
  have hfin : (if !risHB b.holders then (9 : Int) else 0) = E := HE.out
  have HFIN := hid hfin
  clear HE hfin
  go_wp2_with fail
  go_loopw [7] (fun i wr => ∃ k : Nat, 1 ≤ k ∧ (k ≤ b.hn ∨ k = 1) ∧ i = .int .i64 (k : Int) ∧ RisH b.holders k ∧ Ext w5 wr) (fun i _ => b.hn - (intOf i).toNat)
  case atStart => exact ⟨1, by omega, .inr rfl, rfl, RisH.one _ (by omega), Ext.refl _⟩
  case round =>
    obtain ⟨k, hk1, hk2, rfl, hris, e6⟩ := hrel
    have B6 := hid (BD5.out.ext e6)
    have H6 := hid (HRD5.out.ext e6)
    have E6 := hid (ED5.out.ext e6)
    have E56 := hid e6
    have HRIS := hid hris
    clear e6 hris
    have c57 := B6.out.cell' (BodyR.at57 H6.out)
    by_cases hlt : k < b.hn
    · have d1 : decide ((k : Int) < (b.hn : Int)) = true := decide_eq_true (by omega)
      have d2 : decide (k < b.hn) = true := decide_eq_true hlt
      have hhl := H6.out.hl
      obtain ⟨j, rfl⟩ : ∃ j, k = j + 1 := ⟨k - 1, by omega⟩
      obtain ⟨x, hx⟩ : ∃ x, b.holders[j]? = some x := ⟨b.holders[j]'(by omega), by simp⟩
      obtain ⟨y, hy⟩ : ∃ y, b.holders[j + 1]? = some y := ⟨b.holders[j + 1]'(by omega), by simp⟩
      obtain ⟨p, hp, hrow⟩ := row16_at H6.out.hcell H6.out.h16 hx
      have hx16 := H6.out.h16 x (List.mem_of_getElem? hx)
      have hy16 := H6.out.h16 y (List.mem_of_getElem? hy)
      have CX := hid (hrow j x hx)
      have CY := hid (hrow (j + 1) y hy)
      have HXL := hid (show (x.map u8v).length = 16 by rw [List.length_map]; exact hx16)
      have HYL := hid (show (y.map u8v).length = 16 by rw [List.length_map]; exact hy16)
      have HX16 := hid hx16
      have HY16 := hid hy16
      have HX := hid hx
      have HY := hid hy
      rw [hp] at c57
      have C57 := hid c57
      have hj : j < b.hn := by omega
      have hwk : IntKind.i64.wrap (j : Int) = (j : Int) := by have := HR.out.hcmax; have := HR.out.hnc; exact IntWalk.i64_in _ (by omega)
      clear hrow hx16 hy16 hx hy hp hhl
      go_upto_region 18 with (fail)
      obtain ⟨C, hC⟩ : ∃ C : World → Prop, C = fun w' => Ext wr w' := ⟨_, rfl⟩
      have hC0 : ∀ w', C w' ↔ Ext wr w' := fun w' => by rw [hC]
      clear hC
      have HCC := hid hC0
      clear hC0
      have hCx : ∀ w w', C w → Ext w w' → C w' := fun w w' h1 h2 => (HCC.out w').2 (((HCC.out w).1 h1).ext h2)
      refine wp_region_held_drew (S := C) (by kernel_rfl) ((HCC.out _).2 (Ext.refl wr).drew) (fun hS0 => ?_)
      refine held_take 0 (v := ?tv32) rfl (by kernel_rfl) (by kernel_rfl) (by kernel_rfl) (fun _ _ _ h => h) (.inl ⟨rfl, ?ty32⟩) hS0 ?tr32
      case ty32 => (intro _ _; go_simp; try with_reducible rfl)
      case tr32 =>
      simp only [Act.put, List.setIfInBounds_toArray, List.set_cons_succ, List.set_cons_zero]
      refine held_take 1 (v := ?tv33) rfl (by kernel_rfl) (by kernel_rfl) (by kernel_rfl) (fun _ _ _ h => h) (.inl ⟨rfl, ?ty33⟩) hS0 ?tr33
      case ty33 => (intro wq hwq; have hcq := (fun w1 h => cell_extU C57.out ((HCC.out w1).1 h)) wq hwq; go_simp; try with_reducible rfl)
      case tr33 =>
      simp only [Act.put, List.setIfInBounds_toArray, List.set_cons_succ, List.set_cons_zero]
      refine held_take 2 (v := ?tv34) rfl (by kernel_rfl) (by kernel_rfl) (by kernel_rfl) (fun _ _ _ h => h) (.inl ⟨rfl, ?ty34⟩) hS0 ?tr34
      case ty34 => (intro _ _; go_simp; try with_reducible rfl)
      case tr34 =>
      simp only [Act.put, List.setIfInBounds_toArray, List.set_cons_succ, List.set_cons_zero]
      refine held_take 3 (v := _) rfl (by kernel_rfl) (by kernel_rfl) (by kernel_rfl) (fun _ _ _ h => h) (yieldsI_run rfl (fun w1 _ => exec_index (i := j + 1) rfl rfl rfl Try.underlying70 size_id hlt w1)) hS0 ?_
      simp only [Act.put, List.setIfInBounds_toArray, List.set_cons_succ, List.set_cons_zero]
      refine held_take 4 (v := _) rfl (by kernel_rfl) (by kernel_rfl) (by kernel_rfl) (fun _ _ _ h => h) (yieldsI_run rfl (fun w1 h => exec_load_at rfl rfl (CY.out.ext ((HCC.out w1).1 h)) agg_id HYL.out)) hS0 ?_
      simp only [Act.put, List.setIfInBounds_toArray, List.set_cons_succ, List.set_cons_zero]
      refine held_take 5 (v := ?tv35) rfl (by kernel_rfl) (by kernel_rfl) (by kernel_rfl) (fun _ _ _ h => h) (.inl ⟨rfl, ?ty35⟩) hS0 ?tr35
      case ty35 => (intro _ _; go_simp; try with_reducible rfl)
      case tr35 =>
      simp only [Act.put, List.setIfInBounds_toArray, List.set_cons_succ, List.set_cons_zero]
      refine held_take 6 (v := ?tv36) rfl (by kernel_rfl) (by kernel_rfl) (by kernel_rfl) (fun _ _ _ h => h) (.inl ⟨rfl, ?ty36⟩) hS0 ?tr36
      case ty36 => (intro wq hwq; have hcq := (fun w1 h => cell_extU C57.out ((HCC.out w1).1 h)) wq hwq; go_simp; try with_reducible rfl)
      case tr36 =>
      simp only [Act.put, List.setIfInBounds_toArray, List.set_cons_succ, List.set_cons_zero]
      refine held_take 7 (v := ?tv37) rfl (by kernel_rfl) (by kernel_rfl) (by kernel_rfl) (fun _ _ _ h => h) (.inl ⟨rfl, ?ty37⟩) hS0 ?tr37
      case ty37 => (intro _ _; go_simp; try with_reducible rfl)
      case tr37 =>
      simp only [Act.put, List.setIfInBounds_toArray, List.set_cons_succ, List.set_cons_zero]
      refine held_take 8 (v := .int .i64 (j : Int)) rfl (by kernel_rfl) (by kernel_rfl) (by kernel_rfl) (fun _ _ _ h => h) (.inl ⟨rfl, fun wz _ => ?sub8⟩) hS0 ?rest8
      case sub8 => (go_simp; try exact hwk)
      case rest8 =>
      try dsimp only
      try simp only [Act.put, List.setIfInBounds_toArray, List.set_cons_succ, List.set_cons_zero]
      refine held_take 9 (v := _) rfl (by kernel_rfl) (by kernel_rfl) (by kernel_rfl) (fun _ _ _ h => h) (yieldsI_run rfl (fun w1 _ => exec_index (i := j) rfl rfl rfl Try.underlying70 size_id hj w1)) hS0 ?_
      simp only [Act.put, List.setIfInBounds_toArray, List.set_cons_succ, List.set_cons_zero]
      refine held_take 10 (v := _) rfl (by kernel_rfl) (by kernel_rfl) (by kernel_rfl) (fun _ _ _ h => h) (yieldsI_run rfl (fun w1 h => exec_load_at rfl rfl (CX.out.ext ((HCC.out w1).1 h)) agg_id HXL.out)) hS0 ?_
      simp only [Act.put, List.setIfInBounds_toArray, List.set_cons_succ, List.set_cons_zero]
      refine held_one (i := 11) (by kernel_rfl) rfl ?_
      intro Q' hQ
      go_wp2_with fail
      refine (lcompareIDs_c y x _ HY16.out HX16.out).mono ?_
      rintro e wq ⟨rfl, eq9⟩
      have hS9 := hCx _ _ hS0 eq9
      go_wp2_with fail
      refine hQ _ _ hS9 ?_
      clear hQ Q' hS0 eq9
      have hS0 := hS9
      clear hS9
      try dsimp only
      try simp only [Act.put, List.setIfInBounds_toArray, List.set_cons_succ, List.set_cons_zero]
      have hsw := cmpB_swap x y
      rw [hsw] at *
      clear hsw
      by_cases hc : cmpB x y < 0
      · have hq : decide (- cmpB x y ≤ 0) = false := decide_eq_false (by omega)
        refine held_take 12 (v := ?tv38) rfl (by kernel_rfl) (by kernel_rfl) (by kernel_rfl) (fun _ _ _ h => h) (.inl ⟨rfl, ?ty38⟩) hS0 ?tr38
        case ty38 => (intro _ _; go_simp; try with_reducible rfl)
        case tr38 =>
        simp only [Act.put, List.setIfInBounds_toArray, List.set_cons_succ, List.set_cons_zero]
        refine wpAnyH_done (by kernel_rfl) ?_ _
        have hqx := (HCC.out _).1 hS0
        go_wp2_with fail
        go_roundw
        case rel => exact ⟨j + 2, by omega, by omega, by go_num, HRIS.out.step HX.out HY.out hc, E56.out.ext hqx⟩
        case measure => simp [intOf]; omega
      · have hq : decide (- cmpB x y ≤ 0) = true := decide_eq_true (by omega)
        refine held_take 12 (v := ?tv39) rfl (by kernel_rfl) (by kernel_rfl) (by kernel_rfl) (fun _ _ _ h => h) (.inl ⟨rfl, ?ty39⟩) hS0 ?tr39
        case ty39 => (intro _ _; go_simp; try with_reducible rfl)
        case tr39 =>
        simp only [Act.put, List.setIfInBounds_toArray, List.set_cons_succ, List.set_cons_zero]
        refine wpAnyH_done (by kernel_rfl) ?_ _
        have hqx := (HCC.out _).1 hS0
        have he : (9 : Int) = E := by rw [← HFIN.out, risHB_false HX.out HY.out hc]; rfl
        go_wp2_with fail
        go_ret
        exact ⟨by rw [← he]; rfl, E6.out.ext hqx⟩
    · have d1 : decide ((k : Int) < (b.hn : Int)) = false := decide_eq_false (by omega)
      have d2 : decide (k < b.hn) = false := decide_eq_false hlt
      have hr : risHB b.holders = true := risHB_iff.2 (by
        have := H6.out.hl
        rcases hk2 with h2 | h2
        · rw [this, show b.hn = k by omega]; exact HRIS.out
        · exact RisH.one _ (by omega))
      have he : (0 : Int) = E := by rw [← HFIN.out, hr]; rfl
      clear hr
      go_wp2_with fail
      go_ret
      exact ⟨by rw [← he]; rfl, E6.out⟩
end

section
open Go Go.RowKit

theorem set_split {x v : Value} {l r : List Value} {n i : Nat} (hl : l.length = n) : (x :: (l ++ r)).set (n + 1 + i) v = x :: (l ++ r.set i v) := by
  rw [show n + 1 + i = (n + i) + 1 by omega, List.set_cons_succ, List.set_append_right _ _ (by omega), hl]
  congr 2; congr 1; omega
theorem splice_split {x : Value} {l r xs : List Value} (hl : l.length = xs.length) : splice (x :: (l ++ r)) 1 xs = x :: (xs ++ r) := by
  unfold splice
  rw [List.take_succ_cons, List.take_zero, show 1 + xs.length = xs.length + 1 by omega, List.drop_succ_cons, List.drop_left' hl]
  rfl
theorem splice_more {x : Value} {l r xs : List Value} {n i : Nat} (hl : l.length = n) : splice (x :: (l ++ r)) (n + 1 + i) xs = x :: (l ++ splice r i xs) := by
  unfold splice
  rw [show n + 1 + i = (n + i) + 1 by omega, List.take_succ_cons, show n + i + 1 + xs.length = (n + (i + xs.length)) + 1 by omega, List.drop_succ_cons]
  rw [← hl, List.take_length_add_append, List.drop_length_add_append]
  simp
theorem BodyR.set0 (r : BodyR) (x : ByteArray) : r.v.set 0 (.string x) = { r with text := x }.v := rfl
theorem BodyR.put1 (r : BodyR) (x : List UInt8) (h : r.member.length = 16) (hx : x.length = 16) : splice r.v 1 (x.map u8v) = { r with member := x }.v := by
  unfold BodyR.v; exact splice_split (by rw [List.length_map, List.length_map, h, hx])
theorem BodyR.set17 (r : BodyR) (a : Option Addr) (n c : Nat) (ls : List ByteArray) (h : r.member.length = 16) : r.v.set 17 (.slice a n c) = { r with ra := a, rn := n, rc := c, roles := ls }.v := by
  unfold BodyR.v; exact set_split (n := 16) (i := 0) (by rw [List.length_map, h])
theorem BodyR.set18 (r : BodyR) (x : ByteArray) (h : r.member.length = 16) : r.v.set 18 (.string x) = { r with label := x }.v := by
  unfold BodyR.v; exact set_split (n := 16) (i := 1) (by rw [List.length_map, h])
theorem BodyR.put19 (r : BodyR) (x : List UInt8) (h : r.member.length = 16) (hc : r.commit.length = 32) (hx : x.length = 32) : splice r.v 19 (x.map u8v) = { r with commit := x }.v := by
  unfold BodyR.v
  have h1 := splice_more (x := .string r.text) (l := r.member.map u8v) (r := .slice r.ra r.rn r.rc :: .string r.label :: (r.commit.map u8v ++ r.t)) (xs := x.map u8v) (n := 16) (i := 2) (by rw [List.length_map, h])
  refine h1.trans ?_
  have h2 : splice (.slice r.ra r.rn r.rc :: .string r.label :: (r.commit.map u8v ++ r.t)) 2 (x.map u8v) = .slice r.ra r.rn r.rc :: .string r.label :: (x.map u8v ++ r.t) := by
    unfold splice
    rw [List.length_map, hx, List.take_succ_cons, List.take_succ_cons, List.take_zero, show 2 + 32 = 32 + 1 + 1 by omega, List.drop_succ_cons, List.drop_succ_cons, List.drop_left' (by rw [List.length_map, hc])]
    rfl
  rw [h2]; rfl
theorem BodyR.set_t (r : BodyR) (i : Nat) (v : Value) (h : r.member.length = 16) (hc : r.commit.length = 32) : r.v.set (51 + i) v = .string r.text :: (r.member.map u8v ++ (.slice r.ra r.rn r.rc :: .string r.label :: (r.commit.map u8v ++ r.t.set i v))) := by
  unfold BodyR.v
  have h1 := set_split (x := .string r.text) (v := v) (l := r.member.map u8v) (r := .slice r.ra r.rn r.rc :: .string r.label :: (r.commit.map u8v ++ r.t)) (n := 16) (i := 34 + i) (by rw [List.length_map, h])
  rw [show 51 + i = 16 + 1 + (34 + i) by omega]
  refine h1.trans ?_
  rw [show 34 + i = (32 + i) + 1 + 1 by omega, List.set_cons_succ, List.set_cons_succ, List.set_append_right _ _ (by rw [List.length_map, hc]; omega), List.length_map, hc, show 32 + i - 32 = i by omega]
theorem BodyR.set51 (r : BodyR) (n : Int) (h : r.member.length = 16) (hc : r.commit.length = 32) : r.v.set 51 (.int .i64 n) = { r with epoch := n }.v := r.set_t 0 _ h hc
theorem BodyR.set52 (r : BodyR) (n : Int) (h : r.member.length = 16) (hc : r.commit.length = 32) : r.v.set 52 (.int .i64 n) = { r with purpose := n }.v := r.set_t 1 _ h hc
theorem BodyR.set53 (r : BodyR) (n : Int) (h : r.member.length = 16) (hc : r.commit.length = 32) : r.v.set 53 (.int .i64 n) = { r with reason := n }.v := r.set_t 2 _ h hc
theorem BodyR.set54 (r : BodyR) (n : Int) (h : r.member.length = 16) (hc : r.commit.length = 32) : r.v.set 54 (.int .i64 n) = { r with need := n }.v := r.set_t 3 _ h hc
theorem BodyR.set55 (r : BodyR) (n : Int) (h : r.member.length = 16) (hc : r.commit.length = 32) : r.v.set 55 (.int .i64 n) = { r with version := n }.v := r.set_t 4 _ h hc
theorem BodyR.set56 (r : BodyR) (n : Int) (h : r.member.length = 16) (hc : r.commit.length = 32) : r.v.set 56 (.int .i64 n) = { r with count := n }.v := r.set_t 5 _ h hc
theorem BodyR.set57 (r : BodyR) (a : Option Addr) (n c : Nat) (ls : List (List UInt8)) (h : r.member.length = 16) (hc : r.commit.length = 32) : r.v.set 57 (.slice a n c) = { r with ha := a, hn := n, hc := c, holders := ls }.v := r.set_t 6 _ h hc

/-- the cells lie in one block from B on -/
def CellsHi (w : World) (B : Nat) (a : Option Addr) (xs : List Value) : Prop := xs = [] ∨ ∃ b off, a = some ⟨b, off, none⟩ ∧ B ≤ b ∧ ∀ i u, xs[i]? = some u → w.cell? ⟨b, off + i, none⟩ = some u
theorem CellsHi.cells {w : World} {B : Nat} {a : Option Addr} {xs : List Value} (h : CellsHi w B a xs) : Cells w a xs := by
  rcases h with h | ⟨b, off, ha, _, h⟩
  · exact .inl h
  · exact .inr ⟨b, off, ha, h⟩
theorem CellsHi.turn {w w' : World} {B : Nat} {a : Option Addr} {xs : List Value} (h : CellsHi w B a xs) (e : ∀ k, B ≤ k → k < w.heap.size → w'.heap[k]? = w.heap[k]?) : CellsHi w' B a xs := by
  rcases h with h | ⟨b, off, ha, hb, h⟩
  · exact .inl h
  · refine .inr ⟨b, off, ha, hb, fun i u hu => ?_⟩
    have h1 := h i u hu
    exact cell_same h1 (e b hb (block_lt_of_cell h1))
theorem CellsHi.grown {w w' : World} {B k : Nat} {a : Option Addr} {xs : List Value} (h : CellsHi w B a xs) (g : w.grownBy w' (some k)) (hk : k < B) : CellsHi w' B a xs :=
  h.turn fun i hi hw => g.block i hw (by simp; omega)
theorem CellsHi.upd {w w' : World} {B k : Nat} {a : Option Addr} {xs : List Value} (h : CellsHi w B a xs) (g : Upd w k w') (hk : k < B) : CellsHi w' B a xs :=
  h.turn fun i hi _ => g.block i (by omega)
theorem CellsHi.ext {w w' : World} {B : Nat} {a : Option Addr} {xs : List Value} (h : CellsHi w B a xs) (e : Ext w w') : CellsHi w' B a xs :=
  h.turn fun i _ hw => e.block i hw
theorem CellsHi.of_own {w : World} {B : Nat} {T : TypeId} {z : Nat} {a : Option Addr} {n c m : Nat} {xs : List Value} (hz : 0 < z) (h : w.ownsRow B T z (.slice a n c) m xs) : CellsHi w B a xs ∧ n = m ∧ n ≤ c := by
  obtain ⟨hl, h⟩ := h
  rcases h with ⟨h1, rfl⟩ | ⟨gr, cap, cur, h1, hb, hgr, h2, h3, h4, h5⟩
  · injection h1 with h1 h6 h7
    subst h1 h6 h7
    exact ⟨.inl (List.length_eq_zero_iff.1 (by omega)), rfl, Nat.le_refl _⟩
  · injection h1 with h1 h6 h7
    subst h1 h6 h7
    refine ⟨.inr ⟨gr, 0, rfl, hb, fun i u hu => ?_⟩, rfl, h2⟩
    rw [← h5] at hu
    have hi := (List.getElem?_eq_some_iff.1 hu).1
    rw [List.getElem?_take_of_lt (by simp only [List.length_take] at hi; omega)] at hu
    rw [Nat.zero_add]
    exact Blk.cell' (vs := cur.toList) (T := T) (by simpa [Blk] using hgr) hu

/-- what of a body hangs on no memory -/
structure BodyR.Fit (b : BodyR) : Prop where
  ts : b.text.size ≤ 140737488355328
  hm : b.member.length = 16
  hcm : b.commit.length = 32
  rl : b.roles.length = b.rn
  rnc : b.rn ≤ b.rc
  rm : b.rn ≤ 256
  rs : ∀ s ∈ b.roles, s.size ≤ 140737488355328
  ls : b.label.size ≤ 140737488355328
  hl : b.holders.length = b.hn
  hnc : b.hn ≤ b.hc
  hcmax : b.hn ≤ 256
  h16 : All16 b.holders
theorem BodyR.Fit.ok {b : BodyR} {w : World} {B : Nat} (h : b.Fit) (hr : CellsHi w B b.ra (b.roles.map encStr)) (hh : CellsHi w B b.ha (rows b.holders)) : b.Ok w :=
  ⟨h.ts, h.hm, h.hcm, h.rl, h.rnc, by have := h.rm; omega, hr.cells, h.rs, h.ls, h.hl, h.hnc, by have := h.hcmax; omega, h.h16, hh.cells⟩

theorem took_field {f : List UInt8 → Int} {sq : List Nat} {i : Nat} {x0 X Y : BodyP} {l0 l l1 : List UInt8} {s0 s s1 : Bool} (h : Took (runP f sq x0) l0 s0 X l s) (k : Took (fieldP f i X) l s Y l1 s1) : Took (runP f (sq ++ [i]) x0) l0 s0 Y l1 s1 := by
  refine (h.bind (q := fun x => fieldP f i x) k).congr ?_
  rw [runP_snoc]
/-- a field that may be left out -/
theorem took_opt {α : Type} {f : List UInt8 → Int} {sq : List Nat} {i : Nat} {b : Bool} {x0 X : BodyP} {l0 l l1 : List UInt8} {s0 s s1 : Bool} {p : List UInt8 → Option (α × List UInt8)} {d y : α} (u : BodyP → α → BodyP) (hu : u X d = X) (hf : ∀ x l, fieldP f i x l = (p l).map fun q => (u x q.1, q.2))
    (h : Took (runP f sq x0) l0 s0 X l s) (k : Took (optP b p d) l s y l1 s1) : Took (runP f (sq ++ if b then [i] else []) x0) l0 s0 (u X y) l1 s1 := by
  cases b with
  | true =>
    refine took_field h ?_
    exact (k.map (u X)).congr (by rw [hf]; rfl)
  | false =>
    have k' : Took (fun l => some (d, l)) l s y l1 s1 := k
    have e : (sq ++ if false = true then [i] else []) = sq := by simp
    rw [e]
    refine ⟨fun h0 => ?_, fun h1 => ?_⟩
    · obtain ⟨k1, k2⟩ := k'.1 h0
      injection k2 with k2
      injection k2 with k2 k3
      rw [← k2, ← k3, hu]
      exact h.1 k1
    · rcases k'.2 h1 with k1 | k1
      · exact h.2 k1
      · cases k1
theorem many_snoc {α : Type} (f : List UInt8 → Option (α × List UInt8)) : ∀ (k : Nat) (xs : List α) (l : List UInt8), manyP f (k + 1) xs l = (manyP f k xs l).bind fun p => (f p.2).map fun q => (p.1 ++ [q.1], q.2)
  | 0, xs, l => by
    show (f l).bind (fun p => some (xs ++ [p.1], p.2)) = (f l).map _
    cases f l <;> rfl
  | k + 1, xs, l => by
    rw [manyP]
    conv => rhs; rw [manyP]
    cases f l with
    | none => rfl
    | some p => exact many_snoc f k (xs ++ [p.1]) p.2
theorem took_many {α : Type} {f : List UInt8 → Option (α × List UInt8)} {k : Nat} {xs : List α} {x : α} {l l1 l2 : List UInt8} {s s1 s2 : Bool} (h : Took (manyP f k []) l s xs l1 s1) (t : Took f l1 s1 x l2 s2) : Took (manyP f (k + 1) []) l s (xs ++ [x]) l2 s2 := by
  refine (h.bind (q := fun xs l => (f l).map fun q => (xs ++ [q.1], q.2)) (t.map fun x => xs ++ [x])).congr ?_
  rw [many_snoc]
theorem took_rows {α : Type} {f : List UInt8 → Int} {g : List UInt8 → Option (α × List UInt8)} {sq : List Nat} {i n : Nat} {b : Bool} {x0 X : BodyP} {l0 l l1 l2 : List UInt8} {s0 s s1 s2 : Bool} {ys : List α} (u : BodyP → List α → BodyP) (hu : u X [] = X)
    (hf : ∀ x l, fieldP f i x l = (octP l).bind fun p => (manyP g p.1 [] p.2).map fun q => (u x q.1, q.2))
    (h : Took (runP f sq x0) l0 s0 X l s) (k : Took (optP b octP 0) l s n l1 s1) (m : Took (manyP g n []) l1 s1 ys l2 s2) : Took (runP f (sq ++ if b then [i] else []) x0) l0 s0 (u X ys) l2 s2 := by
  have km := k.bind (q := fun n l => manyP g n [] l) m
  refine took_opt (b := b) (d := []) (p := fun l => (octP l).bind fun p => manyP g p.1 [] p.2) u hu (fun x l => ?_) h (km.congr ?_)
  · rw [hf]; cases octP l <;> rfl
  · cases b <;> rfl
end

section
open Go Go.RowKit

def zeroR : BodyR := ⟨⟨#[]⟩, List.replicate 16 0, none, 0, 0, [], ⟨#[]⟩, List.replicate 32 0, 0, 0, 0, 0, 0, 0, none, 0, 0, []⟩
theorem zeroR_p : zeroR.p = zeroP := rfl
theorem zeroR_fit : zeroR.Fit := ⟨by decide, by decide, by decide, rfl, by decide, by decide, (fun _ h => by cases h), by decide, rfl, by decide, by decide, (fun _ h => by cases h)⟩
/-- what holds of the world between the fields -/
structure FInv (w0 : World) (D g : Nat) (bs : List Bool) (l0 : List UInt8) (s0 : Bool) (sq : List Nat) (w : World) (r : BodyR) (l : List UInt8) (s : Bool) : Prop where
  body : Blk w (w0.heap.size + 2) r.v 72
  needs : Blk w w0.heap.size (bs.map .bool) 118
  res : Blk w (w0.heap.size + 1) zeroR.v 72
  rd : RdAt RT D w g l s
  took : Took (runP lcountF sq zeroP) l0 s0 r.p l s
  grown : w0.grownBy w (some g)
  fit : r.Fit
  rhi : CellsHi w (w0.heap.size + 3) r.ra (r.roles.map encStr)
  hhi : CellsHi w (w0.heap.size + 3) r.ha (rows r.holders)
structure NoRoles (r : BodyR) : Prop where
  a : r.ra = none
  n : r.rn = 0
  c : r.rc = 0
  l : r.roles = []
structure NoHolders (r : BodyR) : Prop where
  a : r.ha = none
  n : r.hn = 0
  c : r.hc = 0
  l : r.holders = []
structure NoInts (b : BodyR) : Prop where
  p : b.purpose = 0
  r : b.reason = 0
  n : b.need = 0
  v : b.version = 0
theorem zeroR_len : zeroR.v.length = 58 := by decide
theorem size_alloc (w : World) (o : Obj) : (w.alloc o).heap.size = w.heap.size + 1 := Array.size_push ..
theorem v_one (r : BodyR) : ∀ v ∈ r.v, v.oneCell' = true := by
  intro v hv
  unfold BodyR.v BodyR.t at hv
  simp only [List.mem_cons, List.mem_append, List.not_mem_nil, or_false] at hv
  rcases hv with rfl | h | rfl | rfl | h | rfl | rfl | rfl | rfl | rfl | rfl | rfl
  · rfl
  · exact one_u8 _ v h
  · rfl
  · rfl
  · exact one_u8 _ v h
  all_goals rfl

theorem CellsHi.lower {w : World} {B B' : Nat} {a : Option Addr} {xs : List Value} (h : CellsHi w B a xs) (hb : B' ≤ B) : CellsHi w B' a xs := by
  rcases h with h | ⟨b, off, ha, hB, h⟩
  · exact .inl h
  · exact .inr ⟨b, off, ha, Nat.le_trans hb hB, h⟩
theorem filt1 (p : Nat → Bool) (i : Nat) : [i].filter p = if p i = true then [i] else [] := by
  cases h : p i <;> simp [h]
theorem sq_false (sq : List Nat) (i : Nat) : (sq ++ if (false = true) then [i] else []) = sq := by simp
theorem sq_true (sq : List Nat) (i : Nat) : (sq ++ if (true = true) then [i] else []) = sq ++ [i] := by simp
section
variable {w0 : World} {D g : Nat} {bs : List Bool} {l0 : List UInt8} {s0 : Bool} {sq sq2 : List Nat} {w : World} {r : BodyR} {l : List UInt8} {s : Bool}
theorem FInv.seq (h : FInv w0 D g bs l0 s0 sq w r l s) (e : sq = sq2) : FInv w0 D g bs l0 s0 sq2 w r l s := e ▸ h
theorem FInv.store (h : FInv w0 D g bs l0 s0 sq w r l s) {w2 w3 : World} {l2 : List UInt8} {s2 : Bool} {r2 : BodyR} (hg : g < w0.heap.size) (hD : D ≤ w0.heap.size) (gr : w.grownBy w2 (some g)) (rd : RdAt RT D w2 g l2 s2) (u : Upd w2 (w0.heap.size + 2) w3) (hb : Blk w3 (w0.heap.size + 2) r2.v 72)
    (tk : Took (runP lcountF sq2 zeroP) l0 s0 r2.p l2 s2) (fit : r2.Fit) (h1 : r2.ra = r.ra) (h2 : r2.roles = r.roles) (h3 : r2.ha = r.ha) (h4 : r2.holders = r.holders) : FInv w0 D g bs l0 s0 sq2 w3 r2 l2 s2 where
  body := hb
  needs := (h.needs.grown gr (by simp; omega)).upd u (by omega)
  res := (h.res.grown gr (by simp; omega)).upd u (by omega)
  rd := rd.upd u (by omega) (by omega)
  took := tk
  grown := gby_new (grown_trans h.grown gr) u (by omega)
  fit := fit
  rhi := by rw [h1, h2]; exact (h.rhi.grown gr (by omega)).upd u (by omega)
  hhi := by rw [h3, h4]; exact (h.hhi.grown gr (by omega)).upd u (by omega)
/-- what was taken changes no field yet -/
theorem FInv.body2 (h : FInv w0 D g bs l0 s0 sq w r l s) {w2 : World} (hg : g < w0.heap.size) (gr : w.grownBy w2 (some g)) : Blk w2 (w0.heap.size + 2) r.v 72 := h.body.grown gr (by simp; omega)
theorem FInv.needs2 (h : FInv w0 D g bs l0 s0 sq w r l s) {w2 : World} (hg : g < w0.heap.size) (gr : w.grownBy w2 (some g)) : Blk w2 w0.heap.size (bs.map .bool) 118 := h.needs.grown gr (by simp; omega)
end
theorem took_text {X : BodyP} {n : Nat} {l l2 x : List UInt8} {s s2 : Bool} (hn : l.length = n) (h : Took (takeP n) l s x l2 s2) : Took (fieldP lcountF 0 X) l s { X with text := strOf x } l2 s2 := by
  have e : takeP n l = some (l, []) := by
    unfold takeP
    rw [if_neg (by omega), List.take_of_length_le (by omega), List.drop_eq_nil_of_le (by omega)]
  refine ⟨fun h0 => ?_, fun h1 => ?_⟩
  · obtain ⟨h2, h3⟩ := h.1 h0
    rw [e] at h3
    injection h3 with h3
    injection h3 with h3 h4
    subst h3 h4
    exact ⟨h2, rfl⟩
  · rcases h.2 h1 with h2 | h2
    · exact .inl h2
    · rw [e] at h2; cases h2
theorem took_epoch {X : BodyP} {l l2 x : List UInt8} {s s2 : Bool} (h : Took (takeP 4) l s x l2 s2) : Took (fieldP lcountF 5 X) l s { X with epoch := (natOf x : Int) } l2 s2 := (h.map fun x => ({ X with epoch := (natOf x : Int) } : BodyP)).congr rfl
theorem num4 {x : List UInt8} (h : x.length = 4) : natOf x = (word4 x 0).toNat := by
  have := natOf_4 (l := x) (p := 0) (by omega)
  rw [List.drop_zero, List.take_of_length_le (by omega)] at this; exact this
theorem info_str : (Try.prog.info? 9).map (fun i => (i.zero, i.size, i.bytes)) = some (some (.string ⟨#[]⟩), 1, 16) := by kernel_rfl
theorem info_id : (Try.prog.info? 68).map (fun i => (i.zero, i.size, i.bytes)) = some (some (.agg (List.replicate 16 (.int .u8 0)).toArray), 16, 16) := by kernel_rfl
theorem zid_size : (Value.agg (List.replicate 16 (.int .u8 0)).toArray).cells.size = 16 := by simp [Value.cells]
theorem wpl_append_str {ops : Array Oper} {rest : List Oper} {o : Oper} {a : Act} {w : World} {Q : Exit → Act → World → Prop} (hgd : o.guard = none) (s x : Operand)
    (ho : o.op = .call { callee := .builtin .append, args := #[s, x], argTypes := #[69, 69] }) (base : Nat) {v : Value} {n c g : Nat} {ls : List ByteArray} {y : ByteArray} {T : TypeId}
    (hs : a.eval s = v) (hx : a.eval x = .slice (some ⟨g, 0, none⟩) 1 c) (hown : w.ownsRow base 9 1 v n (ls.map encStr)) (hb : Blk w g [.string y] T)
    (hn : (n + 1) * 16 ≤ 140737488355328) (hbase : base ≤ w.heap.size)
    (h : ∀ v' w', w'.ownsRow base 9 1 v' (n + 1) ((ls ++ [y]).map encStr) → w.grownBy w' v.ownBlock → wpList Try.prog ops Q rest (a.put o.dst v') w') : wpList Try.prog ops Q (o :: rest) a w := by
  obtain ⟨i0, hi, hz, hsz, hb1⟩ := info_parts info_str
  exact wpList_append_own w hgd s x 69 ho base 9 i0 _ 1 16 Try.underlying69 hi hz hsz hb1 rfl (by decide) v n (ls.map encStr) hs hown ⟨g, 0, none⟩ 1 c [.string y] hx
    rfl (news_blk hb) (by intro u hu; rw [List.mem_singleton.1 hu]; rfl) (by unfold maxLen; omega) hn hbase (fun v' w' h1 h2 _ => h v' w' (by rw [List.map_append]; exact h1) h2)
theorem wpl_append_id {ops : Array Oper} {rest : List Oper} {o : Oper} {a : Act} {w : World} {Q : Exit → Act → World → Prop} (hgd : o.guard = none) (s x : Operand)
    (ho : o.op = .call { callee := .builtin .append, args := #[s, x], argTypes := #[70, 70] }) (base : Nat) {v : Value} {n c g : Nat} {ls : List (List UInt8)} {y : List UInt8} {T : TypeId}
    (hs : a.eval s = v) (hx : a.eval x = .slice (some ⟨g, 0, none⟩) 1 c) (hown : w.ownsRow base 68 16 v n (rows ls)) (hy : y.length = 16) (hb : Blk w g (y.map u8v) T)
    (hn : (n + 1) * 16 ≤ 140737488355328) (hbase : base ≤ w.heap.size)
    (h : ∀ v' w', w'.ownsRow base 68 16 v' (n + 1) (rows (ls ++ [y])) → w.grownBy w' v.ownBlock → wpList Try.prog ops Q rest (a.put o.dst v') w') : wpList Try.prog ops Q (o :: rest) a w := by
  obtain ⟨i0, hi, hz, hsz, hb1⟩ := info_parts info_id
  exact wpList_append_own w hgd s x 70 ho base 68 i0 _ 16 16 Try.underlying70 hi hz hsz hb1 zid_size (by decide) v n (rows ls) hs hown ⟨g, 0, none⟩ 1 c (y.map u8v) hx
    (by rw [List.length_map, hy]) (news_blk hb) (one_u8 _) (by unfold maxLen; omega) hn hbase (fun v' w' h1 h2 _ => h v' w' (by rw [rows_append, rows_one]; exact h1) h2)
theorem fill_id (y : List UInt8) (hy : y.length = 16) (cells : Array Value) (hc : cells.size = 16) : Instr.fill (fun i => some (i * 16, 16)) cells [(0, .agg (y.map u8v).toArray)] = some (y.map u8v).toArray := by
  have h := Great.fill_whole (s := 16) (by omega) [.agg (y.map u8v).toArray] cells (by intro v hv; rw [List.mem_singleton.1 hv]; simp [Value.cells, hy]) (by simp [hc])
  simpa [Value.cells] using h
theorem wpl_buildId {ops : Array Oper} {rest : List Oper} {o : Oper} {a : Act} {w : World} {Q : Exit → Act → World → Prop} (hgd : o.guard = none) {x : Operand} {y : List UInt8} (ho : o.op = .buildSlice 70 1 #[(0, x)]) (hx : a.eval x = .agg (y.map u8v).toArray) (hy : y.length = 16)
    (h : wpList Try.prog ops Q rest (a.put o.dst (.slice (some ⟨w.heap.size, 0, none⟩) 1 1)) (w.alloc (.cells (y.map u8v).toArray 68))) : wpList Try.prog ops Q (o :: rest) a w := by
  obtain ⟨i0, hi, hz, hsz, hb1⟩ := info_parts info_id
  refine wpList_plain hgd fun K hK => ?_
  have hr : (execOp a.eval o).run Try.prog w = .ok (.value (.slice (some ⟨w.heap.size, 0, none⟩) 1 1)) (w.alloc (.cells (y.map u8v).toArray 68)) := by
    have h := run_buildSlice (P := Try.prog) w 70 68 1 #[(0, .agg (y.map u8v).toArray)] (y.map u8v).toArray i0 _ Try.underlying70 hi hz (by rw [hsz]; omega) (by rw [hsz]; omega) (by rw [hsz]; exact fill_id y hy _ (by simp))
    have he : (#[(0, x)].map fun (p : Nat × Operand) => (p.1, a.eval p.2)) = #[(0, .agg (y.map u8v).toArray)] := by simp [hx]
    unfold execOp
    simp only [ho, Sem.run_bind]
    have h2 : (Instr.buildSlice 70 1 (#[(0, x)].map fun (p : Nat × Operand) => (p.1, a.eval p.2))).run Try.prog w = .ok (.slice (some ⟨w.heap.size, 0, none⟩) 1 1) (w.alloc (.cells (y.map u8v).toArray 68)) := by rw [he]; exact h
    rw [h2]
    rfl
  unfold Oper.wp
  rw [hr, Oper.upon_value]
  exact hK _ _ h
/-- the cells lie in one block from B on, below E -/
def CellsBt (w : World) (B E : Nat) (a : Option Addr) (xs : List Value) : Prop := xs = [] ∨ ∃ b off, a = some ⟨b, off, none⟩ ∧ B ≤ b ∧ b < E ∧ ∀ i u, xs[i]? = some u → w.cell? ⟨b, off + i, none⟩ = some u
theorem CellsBt.hi {w : World} {B E : Nat} {a : Option Addr} {xs : List Value} (h : CellsBt w B E a xs) : CellsHi w B a xs := by
  rcases h with h | ⟨b, off, ha, hb, _, h⟩
  · exact .inl h
  · exact .inr ⟨b, off, ha, hb, h⟩
theorem CellsBt.turn {w w' : World} {B E : Nat} {a : Option Addr} {xs : List Value} (h : CellsBt w B E a xs) (e : ∀ k, B ≤ k → k < E → w'.heap[k]? = w.heap[k]?) : CellsBt w' B E a xs := by
  rcases h with h | ⟨b, off, ha, hb, hE, h⟩
  · exact .inl h
  · exact .inr ⟨b, off, ha, hb, hE, fun i u hu => cell_same (h i u hu) (e b hb hE)⟩
theorem CellsHi.bt {w : World} {B : Nat} {a : Option Addr} {xs : List Value} (h : CellsHi w B a xs) : CellsBt w B w.heap.size a xs := by
  rcases h with h | ⟨b, off, ha, hb, h⟩
  · exact .inl h
  · by_cases h0 : xs = []
    · exact .inl h0
    · obtain ⟨u, hu⟩ : ∃ u, xs[0]? = some u := ⟨xs[0]'(List.length_pos_iff.2 h0), by simp⟩
      exact .inr ⟨b, off, ha, hb, block_lt_of_cell (h 0 u hu), h⟩
theorem BodyR.at17f {b : BodyR} (h : b.Fit) : b.v[17]? = some (.slice b.ra b.rn b.rc) := by
  unfold BodyR.v; exact at_split (n := 16) (i := 0) (by rw [List.length_map, h.hm])
theorem BodyR.at18f {b : BodyR} (h : b.Fit) : b.v[18]? = some (.string b.label) := by
  unfold BodyR.v; exact at_split (n := 16) (i := 1) (by rw [List.length_map, h.hm])
theorem BodyR.at52f {b : BodyR} (h : b.member.length = 16) (hc : b.commit.length = 32) : b.v[52]? = some (.int .i64 b.purpose) := by
  unfold BodyR.v
  rw [show 52 = 16 + 1 + (32 + 1 + (1 + 1)) by rfl, at_split (by rw [List.length_map, h]), show 32 + 1 + (1 + 1) = (32 + 1 + 1) + 1 by rfl, List.getElem?_cons_succ]
  exact at_split (n := 32) (i := 1) (by rw [List.length_map, hc])
theorem BodyR.at53f {b : BodyR} (h : b.member.length = 16) (hc : b.commit.length = 32) : b.v[53]? = some (.int .i64 b.reason) := by
  unfold BodyR.v
  rw [show 53 = 16 + 1 + (32 + 1 + (2 + 1)) by rfl, at_split (by rw [List.length_map, h]), show 32 + 1 + (2 + 1) = (32 + 1 + 2) + 1 by rfl, List.getElem?_cons_succ]
  exact at_split (n := 32) (i := 2) (by rw [List.length_map, hc])
theorem BodyR.at54f {b : BodyR} (h : b.member.length = 16) (hc : b.commit.length = 32) : b.v[54]? = some (.int .i64 b.need) := by
  unfold BodyR.v
  rw [show 54 = 16 + 1 + (32 + 1 + (3 + 1)) by rfl, at_split (by rw [List.length_map, h]), show 32 + 1 + (3 + 1) = (32 + 1 + 3) + 1 by rfl, List.getElem?_cons_succ]
  exact at_split (n := 32) (i := 3) (by rw [List.length_map, hc])
theorem BodyR.at55f {b : BodyR} (h : b.member.length = 16) (hc : b.commit.length = 32) : b.v[55]? = some (.int .i64 b.version) := by
  unfold BodyR.v
  rw [show 55 = 16 + 1 + (32 + 1 + (4 + 1)) by rfl, at_split (by rw [List.length_map, h]), show 32 + 1 + (4 + 1) = (32 + 1 + 4) + 1 by rfl, List.getElem?_cons_succ]
  exact at_split (n := 32) (i := 4) (by rw [List.length_map, hc])
theorem BodyR.at51f {b : BodyR} (h : b.member.length = 16) (hc : b.commit.length = 32) : b.v[51]? = some (.int .i64 b.epoch) := by
  unfold BodyR.v
  rw [show 51 = 16 + 1 + (32 + 1 + (0 + 1)) by rfl, at_split (by rw [List.length_map, h]), show 32 + 1 + (0 + 1) = (32 + 1 + 0) + 1 by rfl, List.getElem?_cons_succ]
  exact at_split (n := 32) (i := 0) (by rw [List.length_map, hc])
theorem BodyR.at56f {b : BodyR} (h : b.member.length = 16) (hc : b.commit.length = 32) : b.v[56]? = some (.int .i64 b.count) := by
  unfold BodyR.v
  rw [show 56 = 16 + 1 + (32 + 1 + (5 + 1)) by rfl, at_split (by rw [List.length_map, h]), show 32 + 1 + (5 + 1) = (32 + 1 + 5) + 1 by rfl, List.getElem?_cons_succ]
  exact at_split (n := 32) (i := 5) (by rw [List.length_map, hc])
theorem BodyR.at57g {b : BodyR} (h : b.member.length = 16) (hc : b.commit.length = 32) : b.v[57]? = some (.slice b.ha b.hn b.hc) := by
  unfold BodyR.v
  rw [show 57 = 16 + 1 + (32 + 1 + (6 + 1)) by rfl, at_split (by rw [List.length_map, h]), show 32 + 1 + (6 + 1) = (32 + 1 + 6) + 1 by rfl, List.getElem?_cons_succ]
  exact at_split (n := 32) (i := 6) (by rw [List.length_map, hc])
theorem BodyR.at57f {b : BodyR} (h : b.Fit) : b.v[57]? = some (.slice b.ha b.hn b.hc) := by
  unfold BodyR.v
  rw [show 57 = 16 + 1 + (32 + 1 + (6 + 1)) by rfl, at_split (by rw [List.length_map, h.hm]), show 32 + 1 + (6 + 1) = (32 + 1 + 6) + 1 by rfl, List.getElem?_cons_succ]
  exact at_split (n := 32) (i := 6) (by rw [List.length_map, h.hcm])
theorem own_turn {w w' : World} {B : Nat} {e : TypeId} {z : Nat} {v : Value} {n : Nat} {xs : List Value} (h : w.ownsRow B e z v n xs) (k : ∀ i, B ≤ i → i < w.heap.size → w'.heap[i]? = w.heap[i]?) : w'.ownsRow B e z v n xs := by
  refine ⟨h.1, ?_⟩
  rcases h.2 with h | ⟨g, cap, cur, h1, h2, h3, h4⟩
  · exact .inl h
  · refine .inr ⟨g, cap, cur, h1, h2, ?_, h4⟩
    rw [k g h2 (by rw [Array.getElem?_eq_some_iff] at h3; exact h3.1)]
    exact h3
theorem own_sl {w : World} {B : Nat} {T : TypeId} {z : Nat} {v : Value} {n : Nat} {xs : List Value} (h : w.ownsRow B T z v n xs) : ∃ a c, v = .slice a n c := by
  rcases h.2 with ⟨rfl, rfl⟩ | ⟨gr, cap, cur, rfl, _⟩
  · exact ⟨_, _, rfl⟩
  · exact ⟨_, _, rfl⟩
theorem NoRoles.eqp {r : BodyR} (h : NoRoles r) : { r.p with roles := [] } = r.p := by
  unfold BodyR.p; rw [h.l]
theorem NoHolders.eqp {r : BodyR} (h : NoHolders r) : { r.p with holders := [] } = r.p := by
  unfold BodyR.p; rw [h.l]
theorem NoRoles.eq {r : BodyR} (h : NoRoles r) : { r with ra := none, rn := 0, rc := 0, roles := [] } = r := by
  cases r; obtain ⟨h1, h2, h3, h4⟩ := h; simp only at h1 h2 h3 h4; subst h1 h2 h3 h4; rfl
theorem NoHolders.eq {r : BodyR} (h : NoHolders r) : { r with ha := none, hn := 0, hc := 0, holders := [] } = r := by
  cases r; obtain ⟨h1, h2, h3, h4⟩ := h; simp only at h1 h2 h3 h4; subst h1 h2 h3 h4; rfl
/-- what holds in the loop on the roles -/
structure LInvR (w0 : World) (D g : Nat) (bs : List Bool) (r : BodyR) (l1 : List UInt8) (s1 : Bool) (k : Nat) (w : World) (a : Option Addr) (c : Nat) (ls : List ByteArray) (lk : List UInt8) (sk : Bool) : Prop where
  body : Blk w (w0.heap.size + 2) { r with ra := a, rn := k, rc := c, roles := ls }.v 72
  needs : Blk w w0.heap.size (bs.map .bool) 118
  res : Blk w (w0.heap.size + 1) zeroR.v 72
  rd : RdAt RT D w g lk sk
  took : Took (manyP textP k []) l1 s1 ls lk sk
  grown : w0.grownBy w (some g)
  len : ls.length = k
  siz : ∀ s ∈ ls, s.size ≤ 140737488355328
  own : w.ownsRow (w0.heap.size + 3) 9 1 (.slice a k c) k (ls.map encStr)
  hhi : CellsHi w (w0.heap.size + 3) r.ha (rows r.holders)
structure LInvH (w0 : World) (D g E : Nat) (bs : List Bool) (r : BodyR) (l1 : List UInt8) (s1 : Bool) (k : Nat) (w : World) (a : Option Addr) (c : Nat) (ls : List (List UInt8)) (lk : List UInt8) (sk : Bool) : Prop where
  body : Blk w (w0.heap.size + 2) { r with ha := a, hn := k, hc := c, holders := ls }.v 72
  needs : Blk w w0.heap.size (bs.map .bool) 118
  res : Blk w (w0.heap.size + 1) zeroR.v 72
  rd : RdAt RT D w g lk sk
  took : Took (manyP (takeP 16) k []) l1 s1 ls lk sk
  grown : w0.grownBy w (some g)
  len : ls.length = k
  h16 : All16 ls
  own : w.ownsRow E 68 16 (.slice a k c) k (rows ls)
  rbt : CellsBt w (w0.heap.size + 3) E r.ra (r.roles.map encStr)
  le : E ≤ w.heap.size
end

section
open Go Go.RowKit

set_option maxRecDepth 100000 in
set_option maxHeartbeats 8000000 in
theorem fields_c (l0 : List UInt8) (s0 : Bool) (q0 q1 q2 q3 q4 q5 q6 q7 q8 q9 q10 q11 : Bool) (D g : Nat) (w : World) (hr : RdAt RT D w g l0 s0) :
    Calls Try.prog 87 #[.pointer (some ⟨g, 0, none⟩), .agg #[.bool q0, .bool q1, .bool q2, .bool q3, .bool q4, .bool q5, .bool q6, .bool q7, .bool q8, .bool q9, .bool q10, .bool q11]] w fun e w' => ∃ (r : BodyR) (l : List UInt8) (s : Bool), e = .returned (.agg r.v.toArray) ∧ r.Fit ∧ CellsHi w' w.heap.size r.ra (r.roles.map encStr) ∧ CellsHi w' w.heap.size r.ha (rows r.holders) ∧ RdAt RT D w' g l s ∧
      Took (runP lcountF (codeSeq.filter fun i => [q0, q1, q2, q3, q4, q5, q6, q7, q8, q9, q10, q11].getD i false) zeroP) l0 s0 r.p l s ∧ w.grownBy w' (some g) := by
  have HR := hid hr
  have hg0 : g < w.heap.size := hr.lt
  have hD0 : D ≤ w.heap.size := hr.le
  clear hr
  go_enter Try.func87, Try.ntmps87
  go_upto_region 1 with (fail)
  generalize hwA : World.alloc (World.alloc w _) _ = wA
  have nA : Blk wA w.heap.size ([q0, q1, q2, q3, q4, q5, q6, q7, q8, q9, q10, q11].map .bool) 118 := by rw [← hwA]; exact (Blk.mk_alloc rfl rfl).alloc _
  have zA : Blk wA (w.heap.size + 1) zeroR.v 72 := by rw [← hwA]; exact Blk.mk_alloc (size_alloc _ _).symm rfl
  have eA : Ext w wA := by rw [← hwA]; exact ((Ext.refl w).alloc _).alloc _
  have hsA : wA.heap.size = w.heap.size + 2 := by rw [← hwA, size_alloc, size_alloc]
  have HSA := hid hsA
  clear hwA hsA
  go_wp2_with (refine wpl_storew rfl _ _ _ rfl rfl rfl (Blk.mk_alloc (vs := zeroR.v) rfl rfl) agg_body zeroR_len (xs := zeroR.v) zeroR_len (v_one zeroR) ?_)
  intro w1 b1 u1
  rw [HSA.out] at b1 u1 ⊢
  have e1 : Ext wA w1 := u1.ext ((Ext.refl wA).alloc _) (by rw [HSA.out]; exact Nat.le_refl _)
  have I0 : FInv w D g [q0, q1, q2, q3, q4, q5, q6, q7, q8, q9, q10, q11] l0 s0 [] w1 zeroR l0 s0 := ⟨b1, nA.ext e1, zA.ext e1, (HR.out.ext eA).ext e1, ⟨fun h => ⟨h, rfl⟩, fun h => .inl h⟩, gby_ext (gby_ext (gby_self w _) eA) e1, zeroR_fit, .inl rfl, .inl rfl⟩
  have NR0 : NoRoles zeroR := ⟨rfl, rfl, rfl, rfl⟩
  have NI0 : NoInts zeroR := ⟨rfl, rfl, rfl, rfl⟩
  have NH0 : NoHolders zeroR := ⟨rfl, rfl, rfl, rfl⟩
  clear b1 nA zA eA e1 u1 HSA HR
  obtain ⟨r0, hr0⟩ : ∃ r0, zeroR = r0 := ⟨_, rfl⟩
  rw [hr0] at I0 NR0 NI0 NH0
  obtain ⟨m0, t0, hm0⟩ : ∃ m0 t0, m0 = l0 ∧ t0 = s0 := ⟨_, _, rfl, rfl⟩
  have I0 : FInv w D g [q0, q1, q2, q3, q4, q5, q6, q7, q8, q9, q10, q11] l0 s0 [] w1 r0 m0 t0 := by rw [hm0.1, hm0.2]; exact I0
  clear hr0 hm0
  have N0 := I0.needs.cell' (i := 0) (v := .bool q0) rfl
  go_upto_if 10 with (fail)
  clear N0
  go_cut [] (fun wx => ∃ (r : BodyR) (l : List UInt8) (s : Bool), FInv w D g [q0, q1, q2, q3, q4, q5, q6, q7, q8, q9, q10, q11] l0 s0 ([] ++ if q0 = true then [0] else []) wx r l s ∧ NoRoles r ∧ NoInts r ∧ NoHolders r)
  case first =>
    cases q0 with
    | false =>
      go_wp2_with fail
      go_meet
      exact ⟨r0, m0, t0, I0.seq (sq_false _ _).symm, NR0, NI0, NH0⟩
    | true =>
      obtain ⟨a, n, c, hb, hn, hnc, hc, hD', hcl⟩ := I0.rd
      have k0 := hb.cell' (i := 0) (v := .slice a n c) rfl
      have HN := hid hn
      clear hb hn hcl
      go_wp2_with fail
      refine (ltake_c m0 t0 D g n w1 (by omega) I0.rd).mono ?_
      rintro e w2 ⟨a2, x, l2, s2, rfl, hx, hc2, hr2, ht2, hl2, hg2⟩
      have HX := hid hx
      have HC2 := hid hc2
      have HR2 := hid hr2
      have HT2 := hid ht2
      have HG2 := hid hg2
      have HBB := hid (I0.body2 hg0 hg2)
      have kb := HBB.out.cell' (BodyR.at0 r0)
      have fb := HBB.out.frozen 0
      have hx2 : x.length ≤ 140737488355328 := by rw [hx]; omega
      have HX2 := hid hx2
      clear hx hc2 hr2 ht2 hg2 k0 hx2
      go_wp2_with (refine wpl_run rfl (exec_toStr rfl rfl HX.out HC2.out.cells) ?_)
      generalize hwB : World.setCell w2 _ _ = w3
      have b3 : Blk w3 (w.heap.size + 2) { r0 with text := strOf x }.v 72 := by rw [← hwB]; exact HBB.out.set 0 (.string (strOf x))
      have u3 : Upd w2 (w.heap.size + 2) w3 := by rw [← hwB]; exact Upd.setCell _
      clear hwB kb fb
      go_meet
      have hfit : BodyR.Fit { r0 with text := strOf x } := { I0.fit with ts := by show x.toArray.size ≤ _; rw [List.size_toArray]; exact HX2.out }
      exact ⟨_, l2, s2, (I0.store hg0 hD0 HG2.out HR2.out u3 b3 (took_field I0.took (took_text HN.out HT2.out)) hfit rfl rfl rfl rfl).seq (sq_true _ _).symm, ⟨NR0.a, NR0.n, NR0.c, NR0.l⟩, ⟨NI0.p, NI0.r, NI0.n, NI0.v⟩, ⟨NH0.a, NH0.n, NH0.c, NH0.l⟩⟩
  case rest =>
  obtain ⟨r1, m1, t1, I1, NR1, NI1, NH1⟩ := hcut
  clear I0 NR0 NI0 NH0
  obtain ⟨w2, hwc⟩ : ∃ w2, wc = w2 := ⟨_, rfl⟩
  rw [hwc] at I1 ⊢
  clear hwc wc
  have N1 := I1.needs.cell' (i := 1) (v := .bool q1) rfl
  go_upto_if 21 with (fail)
  clear N1
  go_cut [] (fun wx => ∃ (r : BodyR) (l : List UInt8) (s : Bool), FInv w D g [q0, q1, q2, q3, q4, q5, q6, q7, q8, q9, q10, q11] l0 s0 (([] ++ if q0 = true then [0] else []) ++ if q1 = true then [1] else []) wx r l s ∧ NoRoles r ∧ NoInts r ∧ NoHolders r)
  case first =>
    cases q1 with
    | false =>
      go_wp2_with fail
      go_meet
      exact ⟨r1, m1, t1, I1.seq (sq_false _ _).symm, NR1, NI1, NH1⟩
    | true =>
      go_wp2_with fail
      refine (lid_c m1 t1 D g w2 I1.rd).mono ?_
      rintro e w2 ⟨x, rfl, hx, l2, s2, hr2, ht2, hl2, hg2⟩
      have HX := hid hx
      have HR2 := hid hr2
      have HT2 := hid ht2
      have HG2 := hid hg2
      have HBB := hid (I1.body2 hg0 hg2)
      have HXL := hid (show (x.map u8v).length = 16 by rw [List.length_map]; exact hx)
      have hlen : r1.v.length = 58 := by unfold BodyR.v BodyR.t; simp [I1.fit.hm, I1.fit.hcm]
      have HLEN := hid hlen
      clear hx hr2 ht2 hg2 hlen
      go_wp2_with (refine wpl_store rfl _ _ _ rfl rfl rfl HBB.out (by rw [HXL.out]; exact agg_id) (by rw [HXL.out, HLEN.out]; decide) (one_u8 x) ?_)
      intro w3 b3 u3
      rw [BodyR.put1 _ _ I1.fit.hm HX.out] at b3
      go_wp2_with fail
      go_meet
      have hfit : BodyR.Fit { r1 with member := x } := { I1.fit with hm := HX.out }
      exact ⟨_, l2, s2, (I1.store hg0 hD0 HG2.out HR2.out u3 b3 (took_field (i := 1) I1.took ((HT2.out.map fun x => ({ r1.p with member := x } : BodyP)).congr rfl)) hfit rfl rfl rfl rfl).seq (sq_true _ _).symm, ⟨NR1.a, NR1.n, NR1.c, NR1.l⟩, ⟨NI1.p, NI1.r, NI1.n, NI1.v⟩, ⟨NH1.a, NH1.n, NH1.c, NH1.l⟩⟩
  case rest =>
  obtain ⟨r2, m2, t2, I2, NR2, NI2, NH2⟩ := hcut
  clear I1 NR1 NI1 NH1
  obtain ⟨w3, hwc⟩ : ∃ w3, wc = w3 := ⟨_, rfl⟩
  rw [hwc] at I2 ⊢
  clear hwc wc
  have N2 := I2.needs.cell' (i := 2) (v := .bool q2) rfl
  go_upto_block 0 with (fail)
  refine (loctet_c m2 t2 q2 D g w3 I2.rd).mono ?_
  rintro e w20 ⟨n, rfl, hn, l1, s1, hr1, ht1, hl1, hg1⟩
  have HT1 := hid ht1
  have HSQ := hid I2.took
  have HF := hid I2.fit
  have hb1 := I2.body2 hg0 hg1
  have L0 : LInvR w D g [q0, q1, q2, q3, q4, q5, q6, q7, q8, q9, q10, q11] r2 l1 s1 0 w20 none 0 [] l1 s1 := ⟨by rw [NR2.eq]; exact hb1, I2.needs2 hg0 hg1, I2.res.grown hg1 (by simp; omega), hr1, ⟨fun h => ⟨h, rfl⟩, fun h => .inl h⟩, grown_trans I2.grown hg1, rfl, (fun _ h => by cases h), ⟨rfl, .inl ⟨rfl, rfl⟩⟩, I2.hhi.grown hg1 (by omega)⟩
  clear hr1 ht1 hg1 N2 hb1 I2
  go_wp2_with fail
  go_loopw [29] (fun i wr => ∃ (k : Nat) (a : Option Addr) (c : Nat) (ls : List ByteArray) (lk : List UInt8) (sk : Bool), k ≤ n ∧ i = .int .i64 (k : Int) ∧ LInvR w D g [q0, q1, q2, q3, q4, q5, q6, q7, q8, q9, q10, q11] r2 l1 s1 k wr a c ls lk sk) (fun i _ => n - (intOf i).toNat)
  case atStart => exact ⟨0, none, 0, [], l1, s1, by omega, rfl, L0⟩
  case round =>
    obtain ⟨k, a, c, ls, lk, sk, hk, rfl, hL⟩ := hrel
    clear L0
    by_cases hlt : k < n
    · have d1 : decide ((k : Int) < (n : Int)) = true := decide_eq_true (by omega)
      have d2 : decide (k < n) = true := decide_eq_true hlt
      obtain ⟨C, hC⟩ : ∃ C : World → Prop, C = fun w' => Blk w' (w.heap.size + 2) ({ r2 with ra := a, rn := k, rc := c, roles := ls } : BodyR).v 72 := ⟨_, rfl⟩
      have hC0 : ∀ w', C w' ↔ Blk w' (w.heap.size + 2) ({ r2 with ra := a, rn := k, rc := c, roles := ls } : BodyR).v 72 := fun w' => by rw [hC]
      clear hC
      have HCC := hid hC0
      clear hC0
      have hCx : ∀ w w', C w → Ext w w' → C w' := fun w w' h1 h2 => (HCC.out w').2 (((HCC.out w).1 h1).ext h2)
      have hCA : C wr := (HCC.out _).2 hL.body
      have hc17 : ({ r2 with ra := a, rn := k, rc := c, roles := ls } : BodyR).v[17]? = some (.slice a k c) := by
        unfold BodyR.v; exact at_split (n := 16) (i := 0) (by rw [List.length_map]; exact HF.out.hm)
      have C17 := hid hc17
      clear hc17
      go_upto_region 8 with (fail)
      refine wp_region_w (S := C) (W := [7]) (by kernel_rfl) (hCx _ _ hCA (Ext.refl _).drew) (fun hS0 => ?_)
      refine w_pure 0 (v := ?tv40) rfl (by kernel_rfl) (by kernel_rfl) (by kernel_rfl) (fun _ _ _ h => h) (.inl ⟨rfl, ?ty40⟩) ?tr40
      case ty40 => (intro _ _; go_simp; try with_reducible rfl)
      case tr40 =>
      simp only [Act.put, List.setIfInBounds_toArray, List.set_cons_succ, List.set_cons_zero]
      refine w_take 1 (v := ?tv41) rfl (by kernel_rfl) (by kernel_rfl) (by kernel_rfl) (by kernel_rfl) (by kernel_rfl) (fun _ _ _ h => h) (.inl ⟨rfl, ?ty41⟩) hS0 ?tr41
      case ty41 => (intro wq hwq; have hcq := (fun w1 h => ((HCC.out w1).1 h).cell' C17.out) wq hwq; go_simp; try with_reducible rfl)
      case tr41 =>
      simp only [Act.put, List.setIfInBounds_toArray, List.set_cons_succ, List.set_cons_zero]
      refine w_pure 2 (v := ?tv42) rfl (by kernel_rfl) (by kernel_rfl) (by kernel_rfl) (fun _ _ _ h => h) (.inl ⟨rfl, ?ty42⟩) ?tr42
      case ty42 => (intro _ _; go_simp; try with_reducible rfl)
      case tr42 =>
      simp only [Act.put, List.setIfInBounds_toArray, List.set_cons_succ, List.set_cons_zero]
      refine w_one (i := 3) (by kernel_rfl) rfl (by kernel_rfl) hS0 ?_
      intro Q' hQ
      go_wp2_with fail
      refine (ltext_c lk sk D g wr.drew (hL.rd.ext (Ext.refl wr).drew)).mono ?_
      rintro e wt ⟨x, rfl, hx, l3, s3, hr3, ht3, hl3, hg3⟩
      have hg3' : wr.grownBy wt (some g) := grown_trans (grown_ext (gby_self wr _) (Ext.refl wr).drew) hg3
      have hBt : Blk wt (w.heap.size + 2) ({ r2 with ra := a, rn := k, rc := c, roles := ls } : BodyR).v 72 := hL.body.grown hg3' (by simp; omega)
      have hS9 := (HCC.out wt).2 hBt
      have OT := hid (own_turn hL.own fun i hi hw => hg3'.block i hw (by simp; omega))
      have hsT := hg3'.size
      go_wp2_with fail
      refine hQ _ _ hS9 ?_
      clear hQ Q' hS0
      have hS0 := hS9
      clear hS9
      try dsimp only
      try simp only [Act.put, List.setIfInBounds_toArray, List.set_cons_succ, List.set_cons_zero]
      refine w_one (i := 4) (by kernel_rfl) rfl (by kernel_rfl) hS0 ?_
      intro Q' hQ
      go_wp2_with fail
      refine hQ _ _ (hCx _ _ hS0 ((Ext.refl wt).alloc _)) ?_
      clear hQ Q'
      generalize hwB : World.alloc wt _ = wB
      have nB : Blk wB wt.heap.size [.string x] 9 := by rw [← hwB]; exact Blk.mk_alloc rfl rfl
      have eB : Ext wt wB := by rw [← hwB]; exact (Ext.refl wt).alloc _
      have hS9 := hCx _ _ hS0 eB
      clear hS0
      have hS0 := hS9
      have NB := hid nB
      have OB := hid (ownsRow_ext OT.out eB)
      have RB := hid (hr3.ext eB)
      have HBB := hid (hBt.ext eB)
      have HBN := hid ((hL.needs.grown hg3' (by simp; omega)).ext eB)
      have HBR := hid ((hL.res.grown hg3' (by simp; omega)).ext eB)
      have HBH := hid ((hL.hhi.grown hg3' (by omega)).ext eB)
      have HBG := hid (gby_ext (grown_trans hL.grown hg3') eB)
      have hB3 : w.heap.size + 3 ≤ wB.heap.size := by have := HBB.out.lt; have := NB.out.lt; have := eB.size; have := hL.body.lt; omega
      have HLK := hid hL.took
      have HLN := hid hL.len
      have HLS := hid hL.siz
      have HT3 := hid ht3
      clear hS9 hwB nB eB OT hBt hr3 hg3 hg3' hL ht3
      try dsimp only
      try simp only [Act.put, List.setIfInBounds_toArray, List.set_cons_succ, List.set_cons_zero]
      refine w_one (i := 5) (by kernel_rfl) rfl (by kernel_rfl) hS0 ?_
      intro Q' hQ
      go_wp2_with (at_builtin; refine wpl_append_str rfl _ _ rfl (w.heap.size + 3) rfl rfl OB.out NB.out (by omega) hB3 ?_)
      intro v6 w6 own6 g6
      obtain ⟨a6, c6, rfl⟩ := own_sl own6
      have hrow : ∀ q, (Value.slice a k c).ownBlock = some q → w.heap.size + 3 ≤ q := own_block_ge OB.out
      have hB6 : Blk w6 (w.heap.size + 2) ({ r2 with ra := a, rn := k, rc := c, roles := ls } : BodyR).v 72 := HBB.out.grown g6 (fun e => by have := hrow _ e.symm; omega)
      have hS9 := (HCC.out w6).2 hB6
      have HN6 := hid (HBN.out.grown g6 (fun e => by have := hrow _ e.symm; omega))
      have HR6 := hid (HBR.out.grown g6 (fun e => by have := hrow _ e.symm; omega))
      have HD6 := hid (RB.out.grown0 g6 (fun q hq => by have := hrow _ hq; exact ⟨by omega, by omega⟩))
      have HH6 : Hid (CellsHi w6 (w.heap.size + 3) r2.ha (rows r2.holders)) := hid (.inl (by rw [NH2.l]; rfl))
      have HG6 : Hid (w.grownBy w6 (some g)) := hid ⟨g6.os.trans HBG.out.os, g6.tape.trans HBG.out.tape, g6.output.trans HBG.out.output, Nat.le_trans HBG.out.size g6.size, fun i hi hn => (g6.block i (Nat.lt_of_lt_of_le hi HBG.out.size) (fun e => by have := hrow _ e.symm; omega)).trans (HBG.out.block i hi hn)⟩
      have HO6 := hid own6
      have HB6 := hid hB6
      clear own6 g6 hrow HBB HBN HBR RB HBH HBG OB NB hB6
      go_wp2_with fail
      refine hQ _ _ hS9 ?_
      clear hQ Q' hS0
      have hS0 := hS9
      clear hS9
      try dsimp only
      try simp only [Act.put, List.setIfInBounds_toArray, List.set_cons_succ, List.set_cons_zero]
      refine w_pure 6 (v := ?tv43) rfl (by kernel_rfl) (by kernel_rfl) (by kernel_rfl) (fun _ _ _ h => h) (.inl ⟨rfl, ?ty43⟩) ?tr43
      case ty43 => (intro _ _; go_simp; try with_reducible rfl)
      case tr43 =>
      simp only [Act.put, List.setIfInBounds_toArray, List.set_cons_succ, List.set_cons_zero]
      refine w_late (i := 7) (by kernel_rfl) rfl (by kernel_rfl) ?_
      intro Q' hQ
      have kb := HB6.out.cell' C17.out
      have fb := HB6.out.frozen 17
      go_wp2_with fail
      generalize hwC : World.setCell w6 _ _ = wC
      have bC : Blk wC (w.heap.size + 2) ({ r2 with ra := a6, rn := k + 1, rc := c6, roles := ls ++ [x] } : BodyR).v 72 := by
        rw [← hwC]
        have h9 := HB6.out.set 17 (.slice a6 (k + 1) c6)
        rw [BodyR.set17 { r2 with ra := a, rn := k, rc := c, roles := ls } a6 (k + 1) c6 (ls ++ [x]) HF.out.hm] at h9
        exact h9
      have uC : Upd w6 (w.heap.size + 2) wC := by rw [← hwC]; exact Upd.setCell _
      clear hwC kb fb
      refine hQ _ _ trivial ?_
      try dsimp only
      try simp only [Act.put, List.setIfInBounds_toArray, List.set_cons_succ, List.set_cons_zero]
      refine w_done (by kernel_rfl) ?_ _
      go_wp2_with fail
      go_roundw
      case rel =>
        exact ⟨k + 1, a6, c6, ls ++ [x], l3, s3, by omega, by go_num, ⟨bC, HN6.out.upd uC (by omega), HR6.out.upd uC (by omega), HD6.out.upd uC (by omega) (by omega), took_many HLK.out HT3.out, gby_new HG6.out uC (by omega), by rw [List.length_append, HLN.out]; rfl,
          fun s hs => by
            rcases List.mem_append.1 hs with h | h
            · exact HLS.out s h
            · rw [List.mem_singleton.1 h]; omega,
          by rw [List.map_append]; exact own_turn HO6.out fun i hi _ => uC.block i (by omega), HH6.out.upd uC (by omega)⟩⟩
      case measure => simp [intOf]; omega
    · have d1 : decide ((k : Int) < (n : Int)) = false := decide_eq_false (by omega)
      have d2 : decide (k < n) = false := decide_eq_false hlt
      have hkn : k = n := by omega
      subst hkn
      have I3 : FInv w D g [q0, q1, q2, q3, q4, q5, q6, q7, q8, q9, q10, q11] l0 s0 ((([] ++ if q0 = true then [0] else []) ++ if q1 = true then [1] else []) ++ if q2 = true then [2] else []) wr { r2 with ra := a, rn := k, rc := c, roles := ls } lk sk :=
        ⟨hL.body, hL.needs, hL.res, hL.rd, took_rows (i := 2) (fun X ys => { X with roles := ys }) NR2.eqp (fun _ _ => rfl) HSQ.out HT1.out hL.took, hL.grown,
          { HF.out with rl := hL.len, rnc := (CellsHi.of_own (by decide) hL.own).2.2, rm := Nat.le_of_lt hn, rs := hL.siz }, (CellsHi.of_own (by decide) hL.own).1, hL.hhi⟩
      have NI3 : NoInts { r2 with ra := a, rn := k, rc := c, roles := ls } := ⟨NI2.p, NI2.r, NI2.n, NI2.v⟩
      have NH3 : NoHolders { r2 with ra := a, rn := k, rc := c, roles := ls } := ⟨NH2.a, NH2.n, NH2.c, NH2.l⟩
      obtain ⟨r3, hrK⟩ : ∃ r3 : BodyR, { r2 with ra := a, rn := k, rc := c, roles := ls } = r3 := ⟨_, rfl⟩
      rw [hrK] at I3 NI3 NH3
      obtain ⟨m3, t3, hmK⟩ : ∃ m3 t3, m3 = lk ∧ t3 = sk := ⟨_, _, rfl, rfl⟩
      rw [← hmK.1, ← hmK.2] at I3
      obtain ⟨w4, hwZ⟩ : ∃ w4, wr = w4 := ⟨_, rfl⟩
      rw [hwZ] at I3 ⊢
      clear hrK hmK hwZ hL hk hlt HSQ HT1 HF NR2 NI2 NH2 hl1 hn
      skip
      have N3 := I3.needs.cell' (i := 3) (v := .bool q3) rfl
      go_upto_if 40 with (fail)
      clear N3
      go_cut [] (fun wx => ∃ (r : BodyR) (l : List UInt8) (s : Bool), FInv w D g [q0, q1, q2, q3, q4, q5, q6, q7, q8, q9, q10, q11] l0 s0 (((([] ++ if q0 = true then [0] else []) ++ if q1 = true then [1] else []) ++ if q2 = true then [2] else []) ++ if q3 = true then [3] else []) wx r l s ∧ NoInts r ∧ NoHolders r)
      case first =>
        cases q3 with
        | false =>
          go_wp2_with fail
          go_meet
          exact ⟨r3, m3, t3, I3.seq (sq_false _ _).symm, NI3, NH3⟩
        | true =>
          go_wp2_with fail
          refine (ltext_c m3 t3 D g w4 I3.rd).mono ?_
          rintro e w2 ⟨x, rfl, hx, l2, s2, hr2, ht2, hl2, hg2⟩
          have HR2 := hid hr2
          have HT2 := hid ht2
          have HG2 := hid hg2
          have HBB := hid (I3.body2 hg0 hg2)
          have kb := HBB.out.cell' (BodyR.at18f I3.fit)
          have fb := HBB.out.frozen 18
          clear hr2 ht2 hg2
          go_wp2_with fail
          generalize hwB : World.setCell w2 _ _ = w3
          have b3 : Blk w3 (w.heap.size + 2) { r3 with label := x }.v 72 := by rw [← hwB, ← BodyR.set18 _ x I3.fit.hm]; exact HBB.out.set 18 (.string x)
          have u3 : Upd w2 (w.heap.size + 2) w3 := by rw [← hwB]; exact Upd.setCell _
          clear hwB kb fb
          go_meet
          have hfit : BodyR.Fit { r3 with label := x } := { I3.fit with ls := by show x.size ≤ _; omega }
          exact ⟨_, l2, s2, (I3.store hg0 hD0 HG2.out HR2.out u3 b3 (took_field (i := 3) I3.took ((HT2.out.map fun x => ({ r3.p with label := x } : BodyP)).congr rfl)) hfit rfl rfl rfl rfl).seq (sq_true _ _).symm, ⟨NI3.p, NI3.r, NI3.n, NI3.v⟩, ⟨NH3.a, NH3.n, NH3.c, NH3.l⟩⟩
      case rest =>
      obtain ⟨r4, m4, t4, I4, NI4, NH4⟩ := hcut
      clear I3 NI3 NH3
      obtain ⟨w5, hwc⟩ : ∃ w5, wc = w5 := ⟨_, rfl⟩
      rw [hwc] at I4 ⊢
      clear hwc wc
      obtain ⟨C, hC⟩ : ∃ C : World → Prop, C = fun w' => Blk w' w.heap.size ([q0, q1, q2, q3, q4, q5, q6, q7, q8, q9, q10, q11].map .bool) 118 := ⟨_, rfl⟩
      have hC0 : ∀ w', C w' ↔ Blk w' w.heap.size ([q0, q1, q2, q3, q4, q5, q6, q7, q8, q9, q10, q11].map .bool) 118 := fun w' => by rw [hC]
      clear hC
      have HCC := hid hC0
      clear hC0
      have hCx : ∀ w w', C w → Ext w w' → C w' := fun w w' h1 h2 => (HCC.out w').2 (((HCC.out w).1 h1).ext h2)
      have hCA : C w5 := (HCC.out _).2 I4.needs
      go_upto_region 12 with (fail)
      refine wp_region_held_drew (S := C) (by kernel_rfl) (hCx _ _ hCA (Ext.refl _).drew) (fun hS0 => ?_)
      refine held_take 0 (v := ?tv44) rfl (by kernel_rfl) (by kernel_rfl) (by kernel_rfl) (fun _ _ _ h => h) (.inl ⟨rfl, ?ty44⟩) hS0 ?tr44
      case ty44 => (intro _ _; go_simp; try with_reducible rfl)
      case tr44 =>
      simp only [Act.put, List.setIfInBounds_toArray, List.set_cons_succ, List.set_cons_zero]
      refine held_take 1 (v := ?tv45) rfl (by kernel_rfl) (by kernel_rfl) (by kernel_rfl) (fun _ _ _ h => h) (.inl ⟨rfl, ?ty45⟩) hS0 ?tr45
      case ty45 => (intro _ _; go_simp; try with_reducible rfl)
      case tr45 =>
      simp only [Act.put, List.setIfInBounds_toArray, List.set_cons_succ, List.set_cons_zero]
      refine held_take 2 (v := ?tv46) rfl (by kernel_rfl) (by kernel_rfl) (by kernel_rfl) (fun _ _ _ h => h) (.inl ⟨rfl, ?ty46⟩) hS0 ?tr46
      case ty46 => (intro wq hwq; have hcq := (fun w1 h => ((HCC.out w1).1 h).cell' (i := 6) (v := .bool q6) rfl) wq hwq; go_simp; try with_reducible rfl)
      case tr46 =>
      simp only [Act.put, List.setIfInBounds_toArray, List.set_cons_succ, List.set_cons_zero]
      refine held_take 4 (v := ?tv47) rfl (by kernel_rfl) (by kernel_rfl) (by kernel_rfl) (fun _ _ _ h => h) (.inl ⟨rfl, ?ty47⟩) hS0 ?tr47
      case ty47 => (intro _ _; go_simp; try with_reducible rfl)
      case tr47 =>
      simp only [Act.put, List.setIfInBounds_toArray, List.set_cons_succ, List.set_cons_zero]
      refine held_take 5 (v := ?tv48) rfl (by kernel_rfl) (by kernel_rfl) (by kernel_rfl) (fun _ _ _ h => h) (.inl ⟨rfl, ?ty48⟩) hS0 ?tr48
      case ty48 => (intro _ _; go_simp; try with_reducible rfl)
      case tr48 =>
      simp only [Act.put, List.setIfInBounds_toArray, List.set_cons_succ, List.set_cons_zero]
      refine held_take 6 (v := ?tv49) rfl (by kernel_rfl) (by kernel_rfl) (by kernel_rfl) (fun _ _ _ h => h) (.inl ⟨rfl, ?ty49⟩) hS0 ?tr49
      case ty49 => (intro wq hwq; have hcq := (fun w1 h => ((HCC.out w1).1 h).cell' (i := 7) (v := .bool q7) rfl) wq hwq; go_simp; try with_reducible rfl)
      case tr49 =>
      simp only [Act.put, List.setIfInBounds_toArray, List.set_cons_succ, List.set_cons_zero]
      refine held_take 8 (v := ?tv50) rfl (by kernel_rfl) (by kernel_rfl) (by kernel_rfl) (fun _ _ _ h => h) (.inl ⟨rfl, ?ty50⟩) hS0 ?tr50
      case ty50 => (intro _ _; go_simp; try with_reducible rfl)
      case tr50 =>
      simp only [Act.put, List.setIfInBounds_toArray, List.set_cons_succ, List.set_cons_zero]
      refine held_take 9 (v := ?tv51) rfl (by kernel_rfl) (by kernel_rfl) (by kernel_rfl) (fun _ _ _ h => h) (.inl ⟨rfl, ?ty51⟩) hS0 ?tr51
      case ty51 => (intro _ _; go_simp; try with_reducible rfl)
      case tr51 =>
      simp only [Act.put, List.setIfInBounds_toArray, List.set_cons_succ, List.set_cons_zero]
      refine held_take 10 (v := ?tv52) rfl (by kernel_rfl) (by kernel_rfl) (by kernel_rfl) (fun _ _ _ h => h) (.inl ⟨rfl, ?ty52⟩) hS0 ?tr52
      case ty52 => (intro wq hwq; have hcq := (fun w1 h => ((HCC.out w1).1 h).cell' (i := 8) (v := .bool q8) rfl) wq hwq; go_simp; try with_reducible rfl)
      case tr52 =>
      simp only [Act.put, List.setIfInBounds_toArray, List.set_cons_succ, List.set_cons_zero]
      refine held_take 12 (v := ?tv53) rfl (by kernel_rfl) (by kernel_rfl) (by kernel_rfl) (fun _ _ _ h => h) (.inl ⟨rfl, ?ty53⟩) hS0 ?tr53
      case ty53 => (intro _ _; go_simp; try with_reducible rfl)
      case tr53 =>
      simp only [Act.put, List.setIfInBounds_toArray, List.set_cons_succ, List.set_cons_zero]
      refine held_take 13 (v := ?tv54) rfl (by kernel_rfl) (by kernel_rfl) (by kernel_rfl) (fun _ _ _ h => h) (.inl ⟨rfl, ?ty54⟩) hS0 ?tr54
      case ty54 => (intro _ _; go_simp; try with_reducible rfl)
      case tr54 =>
      simp only [Act.put, List.setIfInBounds_toArray, List.set_cons_succ, List.set_cons_zero]
      refine held_take 14 (v := ?tv55) rfl (by kernel_rfl) (by kernel_rfl) (by kernel_rfl) (fun _ _ _ h => h) (.inl ⟨rfl, ?ty55⟩) hS0 ?tr55
      case ty55 => (intro wq hwq; have hcq := (fun w1 h => ((HCC.out w1).1 h).cell' (i := 10) (v := .bool q10) rfl) wq hwq; go_simp; try with_reducible rfl)
      case tr55 =>
      simp only [Act.put, List.setIfInBounds_toArray, List.set_cons_succ, List.set_cons_zero]
      have hd : w5.grownBy w5.drew (some g) := grown_ext (gby_self w5 _) (Ext.refl w5).drew
      have hdr := I4.rd.ext (Ext.refl w5).drew
      refine held_one (i := 3) (by kernel_rfl) rfl ?_
      intro Q' hQ
      go_wp2_with fail
      refine (loctet_c m4 t4  q6 D g _ hdr).mono ?_
      rintro e wA ⟨nA, rfl, hnA, lA, sA, hrA, htA, hlA, hgA⟩
      have hGA := grown_trans hd hgA
      have hS9 := (HCC.out wA).2 (I4.needs2 hg0 hGA)
      have HTA := hid htA
      go_wp2_with fail
      refine hQ _ _ hS9 ?_
      clear hQ Q' hS0 hgA htA
      have hS0 := hS9
      clear hS9
      try dsimp only
      try simp only [Act.put, List.setIfInBounds_toArray, List.set_cons_succ, List.set_cons_zero]
      refine held_take 16 (v := ?tv56) rfl (by kernel_rfl) (by kernel_rfl) (by kernel_rfl) (fun _ _ _ h => h) (.inl ⟨rfl, ?ty56⟩) hS0 ?tr56
      case ty56 => (intro _ _; go_simp; try with_reducible rfl)
      case tr56 =>
      simp only [Act.put, List.setIfInBounds_toArray, List.set_cons_succ, List.set_cons_zero]
      refine held_one (i := 7) (by kernel_rfl) rfl ?_
      intro Q' hQ
      go_wp2_with fail
      refine (loctet_c lA sA q7 D g _ hrA).mono ?_
      rintro e wB ⟨nB, rfl, hnB, lB, sB, hrB, htB, hlB, hgB⟩
      have hGB := grown_trans hGA hgB
      have hS9 := (HCC.out wB).2 (I4.needs2 hg0 hGB)
      have HTB := hid htB
      go_wp2_with fail
      refine hQ _ _ hS9 ?_
      clear hQ Q' hS0 hgB htB
      have hS0 := hS9
      clear hS9
      try dsimp only
      try simp only [Act.put, List.setIfInBounds_toArray, List.set_cons_succ, List.set_cons_zero]
      refine held_one (i := 11) (by kernel_rfl) rfl ?_
      intro Q' hQ
      go_wp2_with fail
      refine (loctet_c lB sB q8 D g _ hrB).mono ?_
      rintro e wC ⟨nC, rfl, hnC, lC, sC, hrC, htC, hlC, hgC⟩
      have hGC := grown_trans hGB hgC
      have hS9 := (HCC.out wC).2 (I4.needs2 hg0 hGC)
      have HTC := hid htC
      go_wp2_with fail
      refine hQ _ _ hS9 ?_
      clear hQ Q' hS0 hgC htC
      have hS0 := hS9
      clear hS9
      try dsimp only
      try simp only [Act.put, List.setIfInBounds_toArray, List.set_cons_succ, List.set_cons_zero]
      refine held_one (i := 15) (by kernel_rfl) rfl ?_
      intro Q' hQ
      go_wp2_with fail
      refine (loctet_c lC sC q10 D g _ hrC).mono ?_
      rintro e wD ⟨nD, rfl, hnD, lD, sD, hrD, htD, hlD, hgD⟩
      have hGD := grown_trans hGC hgD
      have hS9 := (HCC.out wD).2 (I4.needs2 hg0 hGD)
      have HTD := hid htD
      go_wp2_with fail
      refine hQ _ _ hS9 ?_
      clear hQ Q' hS0 hgD htD
      have hS0 := hS9
      clear hS9
      try dsimp only
      try simp only [Act.put, List.setIfInBounds_toArray, List.set_cons_succ, List.set_cons_zero]
      have HB0 := hid (I4.body2 hg0 hGD)
      have uD : Upd wD (w.heap.size + 2) wD := Upd.refl _ _
      have hSD := hS0
      clear hS0
      have hS0 := hSD
      refine held_one (i := 17) (by kernel_rfl) rfl ?_
      intro Q' hQ
      have kb := HB0.out.cell' (BodyR.at52f (b := (r4 : BodyR)) I4.fit.hm I4.fit.hcm)
      have fb := HB0.out.frozen 52
      go_wp2_with fail
      generalize hwB : World.setCell wD _ _ = vA
      have b3 : Blk vA (w.heap.size + 2) ({ r4 with purpose := (nA : Int) } : BodyR).v 72 := by rw [← hwB, ← BodyR.set52 (r4 : BodyR) _ I4.fit.hm I4.fit.hcm]; exact HB0.out.set 52 (.int .i64 (nA : Int))
      have u3 : Upd wD (w.heap.size + 2) vA := by rw [← hwB]; exact Upd.setCell _
      have hS9 := (HCC.out vA).2 (((HCC.out _).1 hS0).upd u3 (by omega))
      have uAA := uD.trans u3
      have HB1 := hid b3
      clear hwB kb fb b3 HB0 u3
      refine hQ _ _ hS9 ?_
      clear hQ Q' hS0
      have hS0 := hS9
      clear hS9
      try dsimp only
      try simp only [Act.put, List.setIfInBounds_toArray, List.set_cons_succ, List.set_cons_zero]
      refine held_take 18 (v := ?tv57) rfl (by kernel_rfl) (by kernel_rfl) (by kernel_rfl) (fun _ _ _ h => h) (.inl ⟨rfl, ?ty57⟩) hS0 ?tr57
      case ty57 => (intro _ _; go_simp; try with_reducible rfl)
      case tr57 =>
      simp only [Act.put, List.setIfInBounds_toArray, List.set_cons_succ, List.set_cons_zero]
      refine held_one (i := 19) (by kernel_rfl) rfl ?_
      intro Q' hQ
      have kb := HB1.out.cell' (BodyR.at53f (b := ({ r4 with purpose := (nA : Int) } : BodyR)) I4.fit.hm I4.fit.hcm)
      have fb := HB1.out.frozen 53
      go_wp2_with fail
      generalize hwB : World.setCell vA _ _ = vB
      have b3 : Blk vB (w.heap.size + 2) ({ r4 with purpose := (nA : Int), reason := (nB : Int) } : BodyR).v 72 := by rw [← hwB, ← BodyR.set53 ({ r4 with purpose := (nA : Int) } : BodyR) _ I4.fit.hm I4.fit.hcm]; exact HB1.out.set 53 (.int .i64 (nB : Int))
      have u3 : Upd vA (w.heap.size + 2) vB := by rw [← hwB]; exact Upd.setCell _
      have hS9 := (HCC.out vB).2 (((HCC.out _).1 hS0).upd u3 (by omega))
      have uBB := uAA.trans u3
      have HB2 := hid b3
      clear hwB kb fb b3 HB1 u3
      refine hQ _ _ hS9 ?_
      clear hQ Q' hS0
      have hS0 := hS9
      clear hS9
      try dsimp only
      try simp only [Act.put, List.setIfInBounds_toArray, List.set_cons_succ, List.set_cons_zero]
      refine held_take 20 (v := ?tv58) rfl (by kernel_rfl) (by kernel_rfl) (by kernel_rfl) (fun _ _ _ h => h) (.inl ⟨rfl, ?ty58⟩) hS0 ?tr58
      case ty58 => (intro _ _; go_simp; try with_reducible rfl)
      case tr58 =>
      simp only [Act.put, List.setIfInBounds_toArray, List.set_cons_succ, List.set_cons_zero]
      refine held_one (i := 21) (by kernel_rfl) rfl ?_
      intro Q' hQ
      have kb := HB2.out.cell' (BodyR.at54f (b := ({ r4 with purpose := (nA : Int), reason := (nB : Int) } : BodyR)) I4.fit.hm I4.fit.hcm)
      have fb := HB2.out.frozen 54
      go_wp2_with fail
      generalize hwB : World.setCell vB _ _ = vC
      have b3 : Blk vC (w.heap.size + 2) ({ r4 with purpose := (nA : Int), reason := (nB : Int), need := (nC : Int) } : BodyR).v 72 := by rw [← hwB, ← BodyR.set54 ({ r4 with purpose := (nA : Int), reason := (nB : Int) } : BodyR) _ I4.fit.hm I4.fit.hcm]; exact HB2.out.set 54 (.int .i64 (nC : Int))
      have u3 : Upd vB (w.heap.size + 2) vC := by rw [← hwB]; exact Upd.setCell _
      have hS9 := (HCC.out vC).2 (((HCC.out _).1 hS0).upd u3 (by omega))
      have uCC := uBB.trans u3
      have HB3 := hid b3
      clear hwB kb fb b3 HB2 u3
      refine hQ _ _ hS9 ?_
      clear hQ Q' hS0
      have hS0 := hS9
      clear hS9
      try dsimp only
      try simp only [Act.put, List.setIfInBounds_toArray, List.set_cons_succ, List.set_cons_zero]
      refine held_take 22 (v := ?tv59) rfl (by kernel_rfl) (by kernel_rfl) (by kernel_rfl) (fun _ _ _ h => h) (.inl ⟨rfl, ?ty59⟩) hS0 ?tr59
      case ty59 => (intro _ _; go_simp; try with_reducible rfl)
      case tr59 =>
      simp only [Act.put, List.setIfInBounds_toArray, List.set_cons_succ, List.set_cons_zero]
      refine held_one (i := 23) (by kernel_rfl) rfl ?_
      intro Q' hQ
      have kb := HB3.out.cell' (BodyR.at55f (b := ({ r4 with purpose := (nA : Int), reason := (nB : Int), need := (nC : Int) } : BodyR)) I4.fit.hm I4.fit.hcm)
      have fb := HB3.out.frozen 55
      go_wp2_with fail
      generalize hwB : World.setCell vC _ _ = vD
      have b3 : Blk vD (w.heap.size + 2) ({ r4 with purpose := (nA : Int), reason := (nB : Int), need := (nC : Int), version := (nD : Int) } : BodyR).v 72 := by rw [← hwB, ← BodyR.set55 ({ r4 with purpose := (nA : Int), reason := (nB : Int), need := (nC : Int) } : BodyR) _ I4.fit.hm I4.fit.hcm]; exact HB3.out.set 55 (.int .i64 (nD : Int))
      have u3 : Upd vC (w.heap.size + 2) vD := by rw [← hwB]; exact Upd.setCell _
      have hS9 := (HCC.out vD).2 (((HCC.out _).1 hS0).upd u3 (by omega))
      have uDD := uCC.trans u3
      have HB4 := hid b3
      clear hwB kb fb b3 HB3 u3
      refine hQ _ _ hS9 ?_
      clear hQ Q' hS0
      have hS0 := hS9
      clear hS9
      try dsimp only
      try simp only [Act.put, List.setIfInBounds_toArray, List.set_cons_succ, List.set_cons_zero]
      refine wpAnyH_done (by kernel_rfl) ?_ _
      go_upto_region 13 with (fail)
      have hT1 := took_opt (i := 6) (fun X (n : Nat) => ({ X with purpose := (n : Int) } : BodyP)) (by show ({ r4.p with purpose := 0 } : BodyP) = _; unfold BodyR.p; rw [NI4.p]) (fun _ _ => rfl) I4.took HTA.out
      have hT2 := took_opt (i := 7) (fun X (n : Nat) => ({ X with reason := (n : Int) } : BodyP)) (by show ({ ({ r4.p with purpose := (nA : Int) } : BodyP) with reason := 0 } : BodyP) = _; unfold BodyR.p; rw [NI4.r]) (fun _ _ => rfl) hT1 HTB.out
      have hT3 := took_opt (i := 8) (fun X (n : Nat) => ({ X with need := (n : Int) } : BodyP)) (by show ({ ({ r4.p with purpose := (nA : Int), reason := (nB : Int) } : BodyP) with need := 0 } : BodyP) = _; unfold BodyR.p; rw [NI4.n]) (fun _ _ => rfl) hT2 HTC.out
      have hT4 := took_opt (i := 10) (fun X (n : Nat) => ({ X with version := (n : Int) } : BodyP)) (by show ({ ({ r4.p with purpose := (nA : Int), reason := (nB : Int), need := (nC : Int) } : BodyP) with version := 0 } : BodyP) = _; unfold BodyR.p; rw [NI4.v]) (fun _ _ => rfl) hT3 HTD.out
      have hfit : BodyR.Fit ({ r4 with purpose := (nA : Int), reason := (nB : Int), need := (nC : Int), version := (nD : Int) } : BodyR) := { I4.fit with }
      have I5 := I4.store hg0 hD0 hGD hrD uDD HB4.out hT4 hfit rfl rfl rfl rfl
      have NH5 : NoHolders ({ r4 with purpose := (nA : Int), reason := (nB : Int), need := (nC : Int), version := (nD : Int) } : BodyR) := ⟨NH4.a, NH4.n, NH4.c, NH4.l⟩
      obtain ⟨r5, hrK⟩ : ∃ r5 : BodyR, ({ r4 with purpose := (nA : Int), reason := (nB : Int), need := (nC : Int), version := (nD : Int) } : BodyR) = r5 := ⟨_, rfl⟩
      rw [hrK] at I5 NH5
      obtain ⟨m5, t5, hmK⟩ : ∃ m5 t5, m5 = lD ∧ t5 = sD := ⟨_, _, rfl, rfl⟩
      rw [← hmK.1, ← hmK.2] at I5
      obtain ⟨w6, hwZ⟩ : ∃ w6, vD = w6 := ⟨_, rfl⟩
      rw [hwZ] at I5 ⊢
      clear hrK hmK hwZ I4 NI4 NH4
      have N9 := I5.needs.cell' (i := 9) (v := .bool q9) rfl
      go_upto_block 2 with (fail)
      refine (loctet_c m5 t5 q9 D g w6 I5.rd).mono ?_
      rintro e w30 ⟨n, rfl, hn, l1, s1, hr1, ht1, hl1, hg1⟩
      have HT1 := hid ht1
      have HSQ := hid I5.took
      have HF := hid I5.fit
      have hb1 := I5.body2 hg0 hg1
      obtain ⟨E, hE⟩ : ∃ E, w30.heap.size = E := ⟨_, rfl⟩
      have hE3 : w.heap.size + 3 ≤ E := by have := hb1.lt; omega
      have hrb : CellsBt w30 (w.heap.size + 3) E r5.ra (r5.roles.map encStr) := by rw [← hE]; exact (I5.rhi.grown hg1 (by omega)).bt
      have L0 : LInvH w D g E [q0, q1, q2, q3, q4, q5, q6, q7, q8, q9, q10, q11] r5 l1 s1 0 w30 none 0 [] l1 s1 := ⟨by rw [NH5.eq]; exact hb1, I5.needs2 hg0 hg1, I5.res.grown hg1 (by simp; omega), hr1, ⟨fun h => ⟨h, rfl⟩, fun h => .inl h⟩, grown_trans I5.grown hg1, rfl, (fun _ h => by cases h), ⟨rfl, .inl ⟨rfl, rfl⟩⟩, hrb, by omega⟩
      clear hr1 ht1 hg1 N9 hb1 I5 hrb hE
      go_wp2_with fail
      go_loopw [68] (fun i wr => ∃ (k : Nat) (a : Option Addr) (c : Nat) (ls : List (List UInt8)) (lk : List UInt8) (sk : Bool), k ≤ n ∧ i = .int .i64 (k : Int) ∧ LInvH w D g E [q0, q1, q2, q3, q4, q5, q6, q7, q8, q9, q10, q11] r5 l1 s1 k wr a c ls lk sk) (fun i _ => n - (intOf i).toNat)
      case atStart => exact ⟨0, none, 0, [], l1, s1, by omega, rfl, L0⟩
      case round =>
        obtain ⟨k, a, c, ls, lk, sk, hk, rfl, hL⟩ := hrel
        clear L0
        by_cases hlt : k < n
        · have d1 : decide ((k : Int) < (n : Int)) = true := decide_eq_true (by omega)
          have d2 : decide (k < n) = true := decide_eq_true hlt
          obtain ⟨C, hC⟩ : ∃ C : World → Prop, C = fun w' => Blk w' (w.heap.size + 2) ({ r5 with ha := a, hn := k, hc := c, holders := ls } : BodyR).v 72 := ⟨_, rfl⟩
          have hC0 : ∀ w', C w' ↔ Blk w' (w.heap.size + 2) ({ r5 with ha := a, hn := k, hc := c, holders := ls } : BodyR).v 72 := fun w' => by rw [hC]
          clear hC
          have HCC := hid hC0
          clear hC0
          have hCx : ∀ w w', C w → Ext w w' → C w' := fun w w' h1 h2 => (HCC.out w').2 (((HCC.out w).1 h1).ext h2)
          have hCA : C wr := (HCC.out _).2 hL.body
          have hc57 : ({ r5 with ha := a, hn := k, hc := c, holders := ls } : BodyR).v[57]? = some (.slice a k c) := BodyR.at57g (b := ({ r5 with ha := a, hn := k, hc := c, holders := ls } : BodyR)) HF.out.hm HF.out.hcm
          have C57 := hid hc57
          clear hc57
          go_upto_region 15 with (fail)
          refine wp_region_w (S := C) (W := [7]) (by kernel_rfl) (hCx _ _ hCA (Ext.refl _).drew) (fun hS0 => ?_)
          refine w_pure 0 (v := ?tv60) rfl (by kernel_rfl) (by kernel_rfl) (by kernel_rfl) (fun _ _ _ h => h) (.inl ⟨rfl, ?ty60⟩) ?tr60
          case ty60 => (intro _ _; go_simp; try with_reducible rfl)
          case tr60 =>
          simp only [Act.put, List.setIfInBounds_toArray, List.set_cons_succ, List.set_cons_zero]
          refine w_take 1 (v := ?tv61) rfl (by kernel_rfl) (by kernel_rfl) (by kernel_rfl) (by kernel_rfl) (by kernel_rfl) (fun _ _ _ h => h) (.inl ⟨rfl, ?ty61⟩) hS0 ?tr61
          case ty61 => (intro wq hwq; have hcq := (fun w1 h => ((HCC.out w1).1 h).cell' C57.out) wq hwq; go_simp; try with_reducible rfl)
          case tr61 =>
          simp only [Act.put, List.setIfInBounds_toArray, List.set_cons_succ, List.set_cons_zero]
          refine w_pure 2 (v := ?tv62) rfl (by kernel_rfl) (by kernel_rfl) (by kernel_rfl) (fun _ _ _ h => h) (.inl ⟨rfl, ?ty62⟩) ?tr62
          case ty62 => (intro _ _; go_simp; try with_reducible rfl)
          case tr62 =>
          simp only [Act.put, List.setIfInBounds_toArray, List.set_cons_succ, List.set_cons_zero]
          refine w_one (i := 3) (by kernel_rfl) rfl (by kernel_rfl) hS0 ?_
          intro Q' hQ
          go_wp2_with fail
          refine (lid_c lk sk D g wr.drew (hL.rd.ext (Ext.refl wr).drew)).mono ?_
          rintro e wt ⟨x, rfl, hx, l3, s3, hr3, ht3, hl3, hg3⟩
          have hg3' : wr.grownBy wt (some g) := grown_trans (grown_ext (gby_self wr _) (Ext.refl wr).drew) hg3
          have hBt : Blk wt (w.heap.size + 2) ({ r5 with ha := a, hn := k, hc := c, holders := ls } : BodyR).v 72 := hL.body.grown hg3' (by simp; omega)
          have hS9 := (HCC.out wt).2 hBt
          have OT := hid (own_turn hL.own fun i hi hw => hg3'.block i hw (by simp; omega))
          have hsT := hg3'.size
          have HX := hid hx
          clear hx
          go_wp2_with fail
          refine hQ _ _ hS9 ?_
          clear hQ Q' hS0
          have hS0 := hS9
          clear hS9
          try dsimp only
          try simp only [Act.put, List.setIfInBounds_toArray, List.set_cons_succ, List.set_cons_zero]
          refine w_one (i := 4) (by kernel_rfl) rfl (by kernel_rfl) hS0 ?_
          intro Q' hQ
          go_wp2_with (refine wpl_buildId rfl rfl rfl HX.out ?_)
          generalize hwB : World.alloc wt _ = wB
          have nB : Blk wB wt.heap.size (x.map u8v) 68 := by rw [← hwB]; exact Blk.mk_alloc rfl rfl
          have eB : Ext wt wB := by rw [← hwB]; exact (Ext.refl wt).alloc _
          have hS9 := hCx _ _ hS0 eB
          clear hS0
          go_wp2_with fail
          refine hQ _ _ hS9 ?_
          clear hQ Q'
          have hS0 := hS9
          have NB := hid nB
          have OB := hid (ownsRow_ext OT.out eB)
          have RB := hid (hr3.ext eB)
          have HBB := hid (hBt.ext eB)
          have HBN := hid ((hL.needs.grown hg3' (by simp; omega)).ext eB)
          have HBR := hid ((hL.res.grown hg3' (by simp; omega)).ext eB)
          have HBH := hid (hL.rbt.turn fun i hi hE => (eB.block i (by have := hL.le; omega)).trans (hg3'.block i (by have := hL.le; omega) (by simp; omega)))
          have HBG := hid (gby_ext (grown_trans hL.grown hg3') eB)
          have hB3 : E ≤ wB.heap.size := by have := eB.size; have := hL.le; omega
          have HLK := hid hL.took
          have HLN := hid hL.len
          have HLS := hid hL.h16
          have HT3 := hid ht3
          clear hS9 hwB nB eB OT hBt hr3 hg3 hg3' hL ht3
          try dsimp only
          try simp only [Act.put, List.setIfInBounds_toArray, List.set_cons_succ, List.set_cons_zero]
          refine w_one (i := 5) (by kernel_rfl) rfl (by kernel_rfl) hS0 ?_
          intro Q' hQ
          go_wp2_with (at_builtin; refine wpl_append_id rfl _ _ rfl E rfl rfl OB.out HX.out NB.out (by omega) hB3 ?_)
          intro v6 w6 own6 g6
          obtain ⟨a6, c6, rfl⟩ := own_sl own6
          have hrow : ∀ q, (Value.slice a k c).ownBlock = some q → E ≤ q := own_block_ge OB.out
          have hB6 : Blk w6 (w.heap.size + 2) ({ r5 with ha := a, hn := k, hc := c, holders := ls } : BodyR).v 72 := HBB.out.grown g6 (fun e => by have := hrow _ e.symm; omega)
          have hS9 := (HCC.out w6).2 hB6
          have HN6 := hid (HBN.out.grown g6 (fun e => by have := hrow _ e.symm; omega))
          have HR6 := hid (HBR.out.grown g6 (fun e => by have := hrow _ e.symm; omega))
          have HD6 := hid (RB.out.grown0 g6 (fun q hq => by have := hrow _ hq; exact ⟨by omega, by omega⟩))
          have HH6 := hid (HBH.out.turn fun i hi hE => g6.block i (by omega) (fun e => by have := hrow _ e.symm; omega))
          have HG6 : Hid (w.grownBy w6 (some g)) := hid ⟨g6.os.trans HBG.out.os, g6.tape.trans HBG.out.tape, g6.output.trans HBG.out.output, Nat.le_trans HBG.out.size g6.size, fun i hi hn => (g6.block i (Nat.lt_of_lt_of_le hi HBG.out.size) (fun e => by have := hrow _ e.symm; omega)).trans (HBG.out.block i hi hn)⟩
          have HS6 := hid (Nat.le_trans hB3 g6.size)
          have HO6 := hid own6
          have HB6 := hid hB6
          clear own6 g6 hrow HBB HBN HBR RB HBH HBG OB NB hB6 hB3
          go_wp2_with fail
          refine hQ _ _ hS9 ?_
          clear hQ Q' hS0
          have hS0 := hS9
          clear hS9
          try dsimp only
          try simp only [Act.put, List.setIfInBounds_toArray, List.set_cons_succ, List.set_cons_zero]
          refine w_pure 6 (v := ?tv63) rfl (by kernel_rfl) (by kernel_rfl) (by kernel_rfl) (fun _ _ _ h => h) (.inl ⟨rfl, ?ty63⟩) ?tr63
          case ty63 => (intro _ _; go_simp; try with_reducible rfl)
          case tr63 =>
          simp only [Act.put, List.setIfInBounds_toArray, List.set_cons_succ, List.set_cons_zero]
          refine w_late (i := 7) (by kernel_rfl) rfl (by kernel_rfl) ?_
          intro Q' hQ
          have kb := HB6.out.cell' C57.out
          have fb := HB6.out.frozen 57
          go_wp2_with fail
          generalize hwC : World.setCell w6 _ _ = wC
          have bC : Blk wC (w.heap.size + 2) ({ r5 with ha := a6, hn := k + 1, hc := c6, holders := ls ++ [x] } : BodyR).v 72 := by
            rw [← hwC]
            have h9 := HB6.out.set 57 (.slice a6 (k + 1) c6)
            rw [BodyR.set57 { r5 with ha := a, hn := k, hc := c, holders := ls } a6 (k + 1) c6 (ls ++ [x]) HF.out.hm HF.out.hcm] at h9
            exact h9
          have uC : Upd w6 (w.heap.size + 2) wC := by rw [← hwC]; exact Upd.setCell _
          clear hwC kb fb
          refine hQ _ _ trivial ?_
          try dsimp only
          try simp only [Act.put, List.setIfInBounds_toArray, List.set_cons_succ, List.set_cons_zero]
          refine w_done (by kernel_rfl) ?_ _
          go_wp2_with fail
          go_roundw
          case rel =>
            exact ⟨k + 1, a6, c6, ls ++ [x], l3, s3, by omega, by go_num, ⟨bC, HN6.out.upd uC (by omega), HR6.out.upd uC (by omega), HD6.out.upd uC (by omega) (by omega), took_many HLK.out HT3.out, gby_new HG6.out uC (by omega), by rw [List.length_append, HLN.out]; rfl,
              fun s hs => by
                rcases List.mem_append.1 hs with h | h
                · exact HLS.out s h
                · rw [List.mem_singleton.1 h]; exact HX.out,
              own_turn HO6.out fun i hi _ => uC.block i (by omega), HH6.out.turn fun i hi hE => uC.block i (by omega), by rw [uC.size]; exact HS6.out⟩⟩
          case measure => simp [intOf]; omega
        · have d1 : decide ((k : Int) < (n : Int)) = false := decide_eq_false (by omega)
          have d2 : decide (k < n) = false := decide_eq_false hlt
          have hkn : k = n := by omega
          subst hkn
          have I6 : FInv w D g [q0, q1, q2, q3, q4, q5, q6, q7, q8, q9, q10, q11] l0 s0 ((((((((([] ++ if q0 = true then [0] else []) ++ if q1 = true then [1] else []) ++ if q2 = true then [2] else []) ++ if q3 = true then [3] else []) ++ if q6 = true then [6] else []) ++ if q7 = true then [7] else []) ++ if q8 = true then [8] else []) ++ if q10 = true then [10] else []) ++ if q9 = true then [9] else []) wr { r5 with ha := a, hn := k, hc := c, holders := ls } lk sk :=
            ⟨hL.body, hL.needs, hL.res, hL.rd, took_rows (i := 9) (fun X ys => { X with holders := ys }) NH5.eqp (fun _ _ => rfl) HSQ.out HT1.out hL.took, hL.grown,
              { HF.out with hl := hL.len, hnc := (CellsHi.of_own (by decide) hL.own).2.2, hcmax := Nat.le_of_lt hn, h16 := hL.h16 }, hL.rbt.hi, (CellsHi.of_own (by decide) (own_lower hL.own hE3)).1⟩
          obtain ⟨r6, hrK⟩ : ∃ r6 : BodyR, { r5 with ha := a, hn := k, hc := c, holders := ls } = r6 := ⟨_, rfl⟩
          rw [hrK] at I6
          obtain ⟨m6, t6, hmK⟩ : ∃ m6 t6, m6 = lk ∧ t6 = sk := ⟨_, _, rfl, rfl⟩
          rw [← hmK.1, ← hmK.2] at I6
          obtain ⟨w7, hwZ⟩ : ∃ w7, wr = w7 := ⟨_, rfl⟩
          rw [hwZ] at I6 ⊢
          clear hrK hmK hwZ hL hk hlt HSQ HT1 HF NH5 hl1 hn
          skip
          have N5 := I6.needs.cell' (i := 5) (v := .bool q5) rfl
          go_upto_if 79 with (fail)
          clear N5
          go_cut [] (fun wx => ∃ (r : BodyR) (l : List UInt8) (s : Bool), FInv w D g [q0, q1, q2, q3, q4, q5, q6, q7, q8, q9, q10, q11] l0 s0 (((((((((([] ++ if q0 = true then [0] else []) ++ if q1 = true then [1] else []) ++ if q2 = true then [2] else []) ++ if q3 = true then [3] else []) ++ if q6 = true then [6] else []) ++ if q7 = true then [7] else []) ++ if q8 = true then [8] else []) ++ if q10 = true then [10] else []) ++ if q9 = true then [9] else []) ++ if q5 = true then [5] else []) wx r l s)
          case first =>
            cases q5 with
            | false =>
              go_wp2_with fail
              go_meet
              exact ⟨r6, m6, t6, I6.seq (sq_false _ _).symm⟩
            | true =>
              go_wp2_with fail
              refine (ltake_c m6 t6 D g 4 w7 (by omega) I6.rd).mono ?_
              rintro e w2 ⟨a2, x, l2, s2, rfl, hx, hc2, hr2, ht2, hl2, hg2⟩
              have hn := hid (fun w' (e : Ext w2 w') => number_c x a2 4 4 0 w' hx (by omega) (Nat.le_refl _) (hc2.cells.ext e))
              unfold numOf at hn
              rw [if_pos (by decide), show (0 : Int).toNat = 0 from rfl, ← num4 hx] at hn
              have HX := hid hx
              have HT2 := hid ht2
              have hr2' := hr2
              have hlt4 : natOf x < 4294967296 := by rw [num4 hx]; exact (word4 x 0).toNat_lt
              have hcv : IntKind.i64.wrap (natOf x : Int) = (natOf x : Int) := IntWalk.i64_in _ (by omega)
              have HXX := hid (show True from trivial)
              clear hx hc2 ht2
              obtain ⟨N, hN⟩ : ∃ N, natOf x = N := ⟨_, rfl⟩
              have hnn := hn.out
              rw [hN] at hlt4 hcv hnn
              have HN := hid hN
              clear hn hN
              have HNN := hid hnn
              clear hnn
              go_wp2_with fail
              refine (HNN.out w2 (Ext.refl w2)).mono ?_
              rintro e wn ⟨rfl, en⟩
              have hg3 := gby_ext hg2 en
              have hr3 := hr2.ext en
              clear hr2 hr2' en hg2
              have HBB := hid (I6.body2 hg0 hg3)
              have kb := HBB.out.cell' (BodyR.at51f (b := r6) I6.fit.hm I6.fit.hcm)
              have fb := HBB.out.frozen 51
              go_wp2_with fail
              generalize hwB : World.setCell wn _ _ = w3
              have b3 : Blk w3 (w.heap.size + 2) { r6 with epoch := (N : Int) }.v 72 := by rw [← hwB, ← BodyR.set51 r6 _ I6.fit.hm I6.fit.hcm]; exact HBB.out.set 51 (.int .i64 ((N : Int)))
              have u3 : Upd wn (w.heap.size + 2) w3 := by rw [← hwB]; exact Upd.setCell _
              clear hwB kb fb
              go_meet
              have hfit : BodyR.Fit { r6 with epoch := (N : Int) } := { I6.fit with }
              exact ⟨_, l2, s2, (I6.store hg0 hD0 hg3 hr3 u3 b3 (took_field (i := 5) I6.took (by rw [← HN.out]; exact took_epoch HT2.out)) hfit rfl rfl rfl rfl).seq (sq_true _ _).symm⟩
          case rest =>
          obtain ⟨r7, m7, t7, I7⟩ := hcut
          clear I6 
          obtain ⟨w8, hwc⟩ : ∃ w8, wc = w8 := ⟨_, rfl⟩
          rw [hwc] at I7 ⊢
          clear hwc wc
          have N11 := I7.needs.cell' (i := 11) (v := .bool q11) rfl
          go_upto_if 90 with (fail)
          clear N11
          go_cut [] (fun wx => ∃ (r : BodyR) (l : List UInt8) (s : Bool), FInv w D g [q0, q1, q2, q3, q4, q5, q6, q7, q8, q9, q10, q11] l0 s0 ((((((((((([] ++ if q0 = true then [0] else []) ++ if q1 = true then [1] else []) ++ if q2 = true then [2] else []) ++ if q3 = true then [3] else []) ++ if q6 = true then [6] else []) ++ if q7 = true then [7] else []) ++ if q8 = true then [8] else []) ++ if q10 = true then [10] else []) ++ if q9 = true then [9] else []) ++ if q5 = true then [5] else []) ++ if q11 = true then [11] else []) wx r l s)
          case first =>
            cases q11 with
            | false =>
              go_wp2_with fail
              go_meet
              exact ⟨r7, m7, t7, I7.seq (sq_false _ _).symm⟩
            | true =>
              go_wp2_with fail
              refine (llong_c m7 t7 D g w8 I7.rd).mono ?_
              rintro e w2 ⟨x, rfl, l2, s2, hr2, ht2, hl2, hg2⟩
              have HT2 := hid ht2
              clear ht2
              have HBB := hid (I7.body2 hg0 hg2)
              have kb := HBB.out.cell' (BodyR.at56f (b := r7) I7.fit.hm I7.fit.hcm)
              have fb := HBB.out.frozen 56
              go_wp2_with fail
              generalize hwB : World.setCell w2 _ _ = w3
              have b3 : Blk w3 (w.heap.size + 2) { r7 with count := x }.v 72 := by rw [← hwB, ← BodyR.set56 r7 _ I7.fit.hm I7.fit.hcm]; exact HBB.out.set 56 (.int .i64 (x))
              have u3 : Upd w2 (w.heap.size + 2) w3 := by rw [← hwB]; exact Upd.setCell _
              clear hwB kb fb
              go_meet
              have hfit : BodyR.Fit { r7 with count := x } := { I7.fit with }
              exact ⟨_, l2, s2, (I7.store hg0 hD0 hg2 hr2 u3 b3 (took_field (i := 11) I7.took ((HT2.out.map fun x => ({ r7.p with count := x } : BodyP)).congr rfl)) hfit rfl rfl rfl rfl).seq (sq_true _ _).symm⟩
          case rest =>
          obtain ⟨r8, m8, t8, I8⟩ := hcut
          clear I7 
          obtain ⟨w9, hwc⟩ : ∃ w9, wc = w9 := ⟨_, rfl⟩
          rw [hwc] at I8 ⊢
          clear hwc wc
          have N4 := I8.needs.cell' (i := 4) (v := .bool q4) rfl
          go_upto_if 95 with (fail)
          clear N4
          go_cut [] (fun wx => ∃ (r : BodyR) (l : List UInt8) (s : Bool), FInv w D g [q0, q1, q2, q3, q4, q5, q6, q7, q8, q9, q10, q11] l0 s0 (((((((((((([] ++ if q0 = true then [0] else []) ++ if q1 = true then [1] else []) ++ if q2 = true then [2] else []) ++ if q3 = true then [3] else []) ++ if q6 = true then [6] else []) ++ if q7 = true then [7] else []) ++ if q8 = true then [8] else []) ++ if q10 = true then [10] else []) ++ if q9 = true then [9] else []) ++ if q5 = true then [5] else []) ++ if q11 = true then [11] else []) ++ if q4 = true then [4] else []) wx r l s)
          case first =>
            cases q4 with
            | false =>
              go_wp2_with fail
              go_meet
              exact ⟨r8, m8, t8, I8.seq (sq_false _ _).symm⟩
            | true =>
              go_wp2_with fail
              refine (ltake_c m8 t8 D g 32 w9 (by omega) I8.rd).mono ?_
              rintro e w2 ⟨a2, x, l2, s2, rfl, hx, hc2, hr2, ht2, hl2, hg2⟩
              obtain ⟨b, off, rfl, h2⟩ := hc2.cells.some_of (by rw [List.length_map, hx]; omega)
              have HCA := hid (CellsAt.of hc2.cells)
              have HXL := hid (show (x.map u8v).length = 32 by rw [List.length_map]; exact hx)
              have HX := hid hx
              have HT2 := hid ht2
              have HBB := hid (I8.body2 hg0 hg2)
              have HLEN := hid (show r8.v.length = 58 by unfold BodyR.v BodyR.t; simp [I8.fit.hm, I8.fit.hcm])
              clear hx hc2 h2 ht2
              go_wp2_with (first | (refine wpl_run rfl (exec_arrayAt rfl rfl Try.underlying32 (Nat.le_refl _) _) ?_) | (refine wpl_run rfl (exec_load_at rfl rfl HCA.out agg_apisum HXL.out) ?_) | (refine wpl_store rfl _ _ _ rfl rfl rfl HBB.out (by rw [HXL.out]; exact agg_apisum) (by rw [HXL.out, HLEN.out]; decide) (one_u8 x) ?_))
              intro w3 b3 u3
              rw [BodyR.put19 _ _ I8.fit.hm I8.fit.hcm HX.out] at b3
              go_wp2_with fail
              go_meet
              have hfit : BodyR.Fit { r8 with commit := x } := { I8.fit with hcm := HX.out }
              exact ⟨_, l2, s2, (I8.store hg0 hD0 hg2 hr2 u3 b3 (took_field (i := 4) I8.took ((HT2.out.map fun x => ({ r8.p with commit := x } : BodyP)).congr rfl)) hfit rfl rfl rfl rfl).seq (sq_true _ _).symm⟩
          case rest =>
          obtain ⟨r9, m9, t9, I9⟩ := hcut
          clear I8 
          obtain ⟨w10, hwc⟩ : ∃ w10, wc = w10 := ⟨_, rfl⟩
          rw [hwc] at I9 ⊢
          clear hwc wc
          have HBB := hid I9.body
          have HRR := hid I9.res
          have HLEN := hid (show r9.v.length = 58 by unfold BodyR.v BodyR.t; simp [I9.fit.hm, I9.fit.hcm])
          go_wp2_with (first | (refine wpl_loadw rfl 72 (.tmp 5) rfl rfl HBB.out agg_body HLEN.out ?_) | (refine wpl_storew rfl _ (.tmp 4) _ rfl rfl rfl HRR.out agg_body zeroR_len (xs := r9.v) HLEN.out (v_one r9) ?_))
          intro wz bz uz
          go_wp2_with fail
          refine ret_row rfl rfl bz agg_body HLEN.out rfl ?_
          refine ⟨r9, m9, t9 , rfl, I9.fit, (I9.rhi.upd uz (by omega)).lower (by omega), (I9.hhi.upd uz (by omega)).lower (by omega), I9.rd.upd uz (by omega) (by omega), ?_, gby_new I9.grown uz (by omega)⟩
          have hseq : (((((((((((([] ++ if q0 = true then [0] else []) ++ if q1 = true then [1] else []) ++ if q2 = true then [2] else []) ++ if q3 = true then [3] else []) ++ if q6 = true then [6] else []) ++ if q7 = true then [7] else []) ++ if q8 = true then [8] else []) ++ if q10 = true then [10] else []) ++ if q9 = true then [9] else []) ++ if q5 = true then [5] else []) ++ if q11 = true then [11] else []) ++ if q4 = true then [4] else []) = codeSeq.filter fun i => [q0, q1, q2, q3, q4, q5, q6, q7, q8, q9, q10, q11].getD i false := by
            show _ = ([0] ++ [1] ++ [2] ++ [3] ++ [6] ++ [7] ++ [8] ++ [10] ++ [9] ++ [5] ++ [11] ++ [4] : List Nat).filter _
            simp only [List.filter_append, filt1, List.getD_cons_zero, List.getD_cons_succ, List.nil_append]
          rw [← hseq]
          exact I9.took
end

section
open Go Go.RowKit

/-- a plain body as one with memory -/
def BodyP.r (x : BodyP) : BodyR := ⟨x.text, x.member, none, x.roles.length, x.roles.length, x.roles, x.label, x.commit, x.epoch, x.purpose, x.reason, x.need, x.version, x.count, none, x.holders.length, x.holders.length, x.holders⟩
noncomputable def bodyEP (act : Int) (x : BodyP) : Int := bodyE act x.r
theorem bodyE_p {act : Int} {b : BodyR} (h1 : b.roles.length = b.rn) (h2 : b.holders.length = b.hn) : bodyE act b = bodyEP act b.p := by
  unfold bodyEP bodyE extraB BodyR.set rangeB BodyP.r BodyR.p
  simp only [h1, h2]
/-- what parsing says: the body, and the code -/
noncomputable def parseB (f : List UInt8 → Int) (act : Int) (l : List UInt8) : BodyP × Int :=
  if lactB act = false then (zeroP, 3) else if 32768 < l.length then (zeroP, 5) else
  match runP f (seqOf act) zeroP l with
  | none => (zeroP, 1)
  | some (x, rest) => if 0 < rest.length then (zeroP, 2) else if bodyEP act x = 0 then (x, 0) else (zeroP, bodyEP act x)

set_option maxRecDepth 100000 in
set_option maxHeartbeats 4000000 in
theorem lparseBody_c (act : Int) (l : List UInt8) (a : Option Addr) (n c : Nat) (w : World) (hl : l.length = n) (hnc : n ≤ c) (hn : n ≤ 140737488355328) (hcl : Cells w a (l.map u8v)) :
    Calls Try.prog 39 #[.int .i64 act, .slice a n c] w fun e w' => ∃ r : BodyR, e = .returned (.tuple #[.agg r.v.toArray, .int .i64 (parseB lcountF act l).2]) ∧ r.Fit ∧ CellsHi w' w.heap.size r.ra (r.roles.map encStr) ∧ CellsHi w' w.heap.size r.ha (rows r.holders) ∧ r.p = (parseB lcountF act l).1 ∧ Ext w w' := by
  have HL := hid hl
  have HC := hid hcl
  obtain ⟨PB, hPB⟩ : ∃ PB, parseB lcountF act l = PB := ⟨_, rfl⟩
  rw [hPB]
  unfold parseB at hPB
  have hno := needsOf_c act
  unfold needsV at hno
  obtain ⟨b0, b1, b2, b3, b4, b5, b6, b7, b8, b9, b10, b11, hL⟩ := list12 (needsL_len act)
  rw [hL] at hno
  have hno := hid hno
  clear hcl
  go_enter Try.func39, Try.ntmps39
  go_upto_region 1 with (fail)
  generalize hwA : World.alloc w _ = wA
  have zA : Blk wA w.heap.size zeroR.v 72 := by rw [← hwA]; exact Blk.mk_alloc rfl rfl
  have eA : Ext w wA := by rw [← hwA]; exact (Ext.refl w).alloc _
  have ZA := hid zA
  have EA := hid eA
  clear hwA zA eA
  go_wp2_with fail
  refine (lisAct_c act wA).mono ?_
  rintro e w2 ⟨rfl, rfl⟩
  cases h1 : lactB act with
  | false =>
    rw [h1, if_pos rfl] at hPB
    subst hPB
    clear hl hL hno
    go_wp2_with (refine wpl_storew rfl _ _ _ rfl rfl rfl ZA.out agg_body zeroR_len (xs := zeroR.v) zeroR_len (v_one zeroR) ?_)
    intro w3 b3 u3
    go_wp2_with fail
    exact ret_row2 rfl rfl b3 agg_body zeroR_len rfl ⟨zeroR, rfl, zeroR_fit, .inl rfl, .inl rfl, rfl, u3.ext EA.out (Nat.le_refl _)⟩
  | true =>
  rw [h1, if_neg (by simp)] at hPB
  by_cases q1 : 32768 < n
  · rw [hl, if_pos q1] at hPB
    subst hPB
    have d1 : decide (32768 < n) = true := decide_eq_true q1
    have d2 : decide ((32768 : Int) < (n : Int)) = true := decide_eq_true (by omega)
    clear hl hL hno q1
    go_wp2_with (refine wpl_storew rfl _ _ _ rfl rfl rfl ZA.out agg_body zeroR_len (xs := zeroR.v) zeroR_len (v_one zeroR) ?_)
    intro w3 b3 u3
    go_wp2_with fail
    exact ret_row2 rfl rfl b3 agg_body zeroR_len rfl ⟨zeroR, rfl, zeroR_fit, .inl rfl, .inl rfl, rfl, u3.ext EA.out (Nat.le_refl _)⟩
  rw [hl, if_neg q1] at hPB
  have HPB := hid hPB
  have d1 : decide (32768 < n) = false := decide_eq_false q1
  have d2 : decide ((32768 : Int) < (n : Int)) = false := decide_eq_false (by omega)
  have hL2 : (fun i => [b0, b1, b2, b3, b4, b5, b6, b7, b8, b9, b10, b11].getD i false) = fun i => needAt act i := by unfold needAt; rw [hL]
  have hsq : codeSeq.filter (fun i => [b0, b1, b2, b3, b4, b5, b6, b7, b8, b9, b10, b11].getD i false) = seqOf act := by rw [hL2]; exact seq_code h1
  have HSQ := hid hsq
  clear hl hL hPB q1 hsq hL2
  go_upto_region 6 with (fail)
  generalize hwB : World.alloc wA _ = wB
  obtain ⟨g, hg⟩ : ∃ g, wA.heap.size = g := ⟨_, rfl⟩
  have rB : Blk wB g [.slice a n c, .bool false] RT := by rw [← hwB, ← hg]; exact Blk.mk_alloc rfl rfl
  have eB : Ext wA wB := by rw [← hwB]; exact (Ext.refl wA).alloc _
  rw [hg]
  have hgw : w.heap.size < g := by rw [← hg]; exact ZA.out.lt
  have hsB : g ≤ wB.heap.size := by rw [← hg]; exact eB.size
  have rdB : RdAt RT g wB g l false := by
    refine ⟨a, n, c, rB, HL.out, hnc, hn, hsB, ?_⟩
    rcases (HC.out.ext EA.out) with h0 | ⟨b, off, ha, h0⟩
    · exact .inl h0
    · by_cases he : l.map u8v = []
      · exact .inl he
      · obtain ⟨u, hu⟩ : ∃ u, (l.map u8v)[0]? = some u := ⟨_, List.getElem?_eq_getElem (List.length_pos_iff.2 he)⟩
        have hb : b < g := by rw [← hg]; exact block_lt_of_cell (h0 0 u hu)
        refine .inr ⟨b, off, ha, hb, by omega, fun j v hv => cell_same (h0 j v hv) (eB.block b (by rw [hg]; exact hb))⟩
  have RDB := hid rdB
  have ZB := hid (ZA.out.ext eB)
  have EB := hid (EA.out.ext eB)
  clear hwB rB rdB eB ZA EA hg
  go_wp2_with fail
  refine (hno.out wB).mono ?_
  rintro e w3 ⟨rfl, e3⟩
  have ZC := hid (ZB.out.ext e3)
  have EC := hid (EB.out.ext e3)
  have hRC := RDB.out.ext e3
  clear e3 ZB EB RDB hno
  go_wp2_with fail
  refine (fields_c l false b0 b1 b2 b3 b4 b5 b6 b7 b8 b9 b10 b11 g g w3 hRC).mono ?_
  rintro e w4 ⟨r, l', s', rfl, hfit, hra, hrh, hrd, htk, hgr⟩
  rw [HSQ.out] at htk
  have ZD := hid (ZC.out.grown hgr (by simp; omega))
  have ED := hid (EC.out.grown hgr (by simp; omega))
  have RD := hid hrd
  have TK := hid htk
  have FIT := hid hfit
  have h3w : w.heap.size + 1 ≤ w3.heap.size := ZC.out.lt
  have RA := hid (hra.lower h3w)
  have RH := hid (hrh.lower h3w)
  have HLEN := hid (show r.v.length = 58 by unfold BodyR.v BodyR.t; simp [hfit.hm, hfit.hcm])
  have hgs : g < w4.heap.size := hrd.lt
  clear hRC hrd htk hfit hra hrh hgr h3w ZC EC HSQ
  go_wp2_with (refine wpl_storew rfl _ _ _ rfl rfl rfl (Blk.mk_alloc (vs := zeroR.v) rfl rfl) agg_body zeroR_len (xs := r.v) HLEN.out (v_one r) ?_)
  intro w5 b5 u5
  have e5 : Ext w4 w5 := u5.ext ((Ext.refl w4).alloc _) (Nat.le_refl _)
  have ZE := hid (ZD.out.ext e5)
  have EE := hid (ED.out.ext e5)
  have RAE := hid (RA.out.ext e5)
  have RHE := hid (RH.out.ext e5)
  have hrd := RD.out.ext e5
  have BE := hid b5
  clear b5 u5 e5 ZD ED RD RA RH
  obtain ⟨a2, n2, c2, hb2, hn2, -, hn2b, -, -⟩ := hrd
  have k0 := hb2.cell' (i := 0) (v := .slice a2 n2 c2) rfl
  have k1 := hb2.cell' (i := 1) (v := .bool s') rfl
  clear hb2
  cases s' with
  | true =>
    have hno : runP lcountF (seqOf act) zeroP l = none := (TK.out.2 rfl).resolve_left (by simp)
    have hpb := HPB.out
    rw [hno] at hpb
    simp only at hpb
    subst hpb
    clear HPB TK hno
    go_wp2_with (refine wpl_storew rfl _ _ _ rfl rfl rfl ZE.out agg_body zeroR_len (xs := zeroR.v) zeroR_len (v_one zeroR) ?_)
    intro w6 b6 u6
    go_wp2_with fail
    exact ret_row2 rfl rfl b6 agg_body zeroR_len rfl ⟨zeroR, rfl, zeroR_fit, .inl rfl, .inl rfl, rfl, u6.ext EE.out (Nat.le_refl _)⟩
  | false =>
  have hsome := (TK.out.1 rfl).2
  have hpb := HPB.out
  rw [hsome] at hpb
  simp only at hpb
  rw [hn2] at hpb
  clear HPB TK hsome
  by_cases q2 : 0 < n2
  · rw [if_pos q2] at hpb
    subst hpb
    have d3 : decide (0 < n2) = true := decide_eq_true q2
    have d4 : decide ((0 : Int) < (n2 : Int)) = true := decide_eq_true (by omega)
    clear q2
    go_wp2_with (refine wpl_storew rfl _ _ _ rfl rfl rfl ZE.out agg_body zeroR_len (xs := zeroR.v) zeroR_len (v_one zeroR) ?_)
    intro w6 b6 u6
    go_wp2_with fail
    exact ret_row2 rfl rfl b6 agg_body zeroR_len rfl ⟨zeroR, rfl, zeroR_fit, .inl rfl, .inl rfl, rfl, u6.ext EE.out (Nat.le_refl _)⟩
  rw [if_neg q2] at hpb
  have d3 : decide (0 < n2) = false := decide_eq_false q2
  have d4 : decide ((0 : Int) < (n2 : Int)) = false := decide_eq_false (by omega)
  have hbf := bodyFault_c act r
  rw [bodyE_p FIT.out.rl FIT.out.hl] at hbf
  have HBF := hid hbf
  generalize bodyEP act r.p = E at hpb HBF
  have HPB := hid hpb
  clear hbf hpb q2
  go_wp2_with (refine wpl_loadw rfl 72 (.tmp 7) rfl rfl BE.out agg_body HLEN.out ?_)
  refine (HBF.out w5 (FIT.out.ok RAE.out RHE.out)).mono ?_
  rintro e w6 ⟨rfl, e6⟩
  have ZF := hid (ZE.out.ext e6)
  have EF := hid (EE.out.ext e6)
  have BF := hid (BE.out.ext e6)
  have RAF := hid (RAE.out.ext e6)
  have RHF := hid (RHE.out.ext e6)
  clear e6 ZE EE BE RAE RHE HBF k0 k1
  by_cases q3 : E = 0
  · subst q3
    have hpb := HPB.out
    rw [if_pos rfl] at hpb
    subst hpb
    clear HPB
    go_wp2_with (first | (refine wpl_loadw rfl 72 (.tmp 7) rfl rfl BF.out agg_body HLEN.out ?_) | (refine wpl_storew rfl _ _ _ rfl rfl rfl ZF.out agg_body zeroR_len (xs := r.v) HLEN.out (v_one r) ?_))
    intro w7 b7 u7
    go_wp2_with fail
    exact ret_row2 rfl rfl b7 agg_body HLEN.out rfl ⟨r, rfl, FIT.out, (RAF.out.upd u7 (Nat.lt_succ_self _)).lower (Nat.le_succ _), (RHF.out.upd u7 (Nat.lt_succ_self _)).lower (Nat.le_succ _), rfl, u7.ext EF.out (Nat.le_refl _)⟩
  · have hpb := HPB.out
    rw [if_neg q3] at hpb
    subst hpb
    have d5 : (E != 0) = true := by simpa using q3
    clear HPB
    go_wp2_with (refine wpl_storew rfl _ _ _ rfl rfl rfl ZF.out agg_body zeroR_len (xs := zeroR.v) zeroR_len (v_one zeroR) ?_)
    intro w7 b7 u7
    go_wp2_with fail
    exact ret_row2 rfl rfl b7 agg_body zeroR_len rfl ⟨zeroR, rfl, zeroR_fit, .inl rfl, .inl rfl, rfl, u7.ext EF.out (Nat.le_refl _)⟩
end

section
open Go Go.RowKit

def alpha : ByteArray := ⟨#[97, 98, 99, 100, 101, 102, 103, 104, 105, 106, 107, 108, 109, 110, 111, 112, 113, 114, 115, 116, 117, 118, 119, 120, 121, 122, 48, 49, 50, 51, 52, 53, 54, 55, 56, 57, 45, 46, 95]⟩
theorem alpha_size : alpha.size = 39 := rfl
theorem alpha_ascii : ∀ b ∈ alpha.data.toList, b.toNat < 128 := by decide
theorem alpha_any : ∀ c : Fin 256, alpha.data.toList.any (· == UInt8.ofNat c.val) = nameOct (UInt8.ofNat c.val) := by decide +kernel
/-- a rune of the alphabet -/
def runeOk (r : Nat) : Bool := decide (r < 128) && nameOct (UInt8.ofNat r)

set_option maxRecDepth 100000 in
set_option maxHeartbeats 1000000 in
theorem indexByte_c (s : ByteArray) (c : Int) (w : World) :
    Calls Try.prog 170 #[.string s, .int .u8 c] w fun e w' => e = .returned (.int .i64 (firstIdx s c.toNat.toUInt8)) ∧ w = w' := by
  go_enter Try.func170, Try.ntmps170
  go_wp2
  rw [run_callFunc_extern Try.func173 (by kernel_rfl) (by kernel_rfl) (by kernel_rfl) (e := Extern.BytealgIndexByte.indexByte) (by kernel_rfl), run_indexByte_string]
  simp only [Result.andThen]
  rw [Oper.upon_value]
  go_wp2
  go_ret
  exact ⟨rfl, rfl⟩

set_option maxRecDepth 100000 in
set_option maxHeartbeats 1000000 in
theorem indexRune_low (r : Nat) (w : World) (hr : r < 128) :
    Calls Try.prog 161 #[.string alpha, .int .i32 (r : Int)] w fun e w' => e = .returned (.int .i64 (firstIdx alpha (UInt8.ofNat r))) ∧ w = w' := by
  have h := hid (fun w' => indexByte_c alpha (r : Int) w')
  have g1 : decide ((0 : Int) ≤ (r : Int)) = true := decide_eq_true (by omega)
  have g2 : decide ((r : Int) < 128) = true := decide_eq_true (by omega)
  have g3 : decide (r < 128) = true := decide_eq_true hr
  have g4 : IntKind.u8.wrap (r : Int) = r := IntWalk.u8_in _ (by omega)
  go_enter Try.func161, Try.ntmps161
  go_wp2_with (first | (go_at_call 170; refine (h.out _).mono ?_; rintro e w' ⟨rfl, rfl⟩))
  go_ret
  exact ⟨rfl, rfl⟩

set_option maxRecDepth 100000 in
set_option maxHeartbeats 1000000 in
theorem indexRune_err (w : World) :
    Calls Try.prog 161 #[.string alpha, .int .i32 65533] w fun e w' => e = .returned (.int .i64 (-1)) ∧ Ext w w' := by
  obtain ⟨s, hs⟩ : ∃ s, alpha = s := ⟨_, rfl⟩
  have hsz : s.size = 39 := by rw [← hs]; rfl
  have hasc : ∀ b ∈ s.data.toList, b.toNat < 128 := by rw [← hs]; exact alpha_ascii
  rw [hs]
  have HSZ := hid hsz
  have HASC := hid hasc
  clear hs hsz hasc
  go_enter Try.func161, Try.ntmps161
  go_wp2
  go_loopg [] 39 (fun gf wx => ∃ pos : Nat, wx.heap[w.heap.size]? = some (.stringIter s pos) ∧ Below w.heap.size w wx ∧ 39 ≤ pos + gf)
  case atStart => exact ⟨0, World.iter_heap w s 0, (Below.refl _ w).alloc (Nat.le_refl _) _, by omega⟩
  case round =>
    obtain ⟨pos, hit, hbw, hfu⟩ := hrel
    by_cases hps : pos < s.size
    · obtain ⟨g', rfl⟩ : ∃ g', gk = g' + 1 := ⟨gk - 1, by have := HSZ.out; omega⟩
      have hnx : ∀ ty, (Instr.next (.pointer (some ⟨w.heap.size, 0, none⟩)) true ty).run Try.prog wr = _ := fun ty => Lib.run_next_any_at wr w.heap.size s pos ty hit hps
      have hb : (s[pos]'hps).toNat < 128 := HASC.out _ (Array.getElem_mem_toList (xs := s.data) hps)
      have hdec := decode_ascii s pos hps hb
      rw [hdec] at hnx
      simp only at hnx
      obtain ⟨R, hR⟩ : ∃ R, (s[pos]'hps).toNat = R := ⟨_, rfl⟩
      rw [hR] at hnx hb
      have hit2 := Lib.iterAt_heap wr w.heap.size s pos (pos + 1) hit
      have hbw2 := Lib.below_iterAt hbw (k := w.heap.size) (Nat.le_refl _) s (pos + 1)
      have HIT := hid hit2
      have HBW := hid hbw2
      have g1 : ((R : Int) == 65533) = false := by simp; omega
      have g2 : (R == 65533) = false := by simp; omega
      have hfu2 : 39 ≤ (pos + 1) + g' := by omega
      clear hit2 hbw2 hit hbw hdec hR
      go_wp2
      go_roundg g'
      case measure => omega
      case rel => exact ⟨pos + 1, HIT.out, HBW.out, hfu2⟩
    · have hnx : ∀ ty, (Instr.next (.pointer (some ⟨w.heap.size, 0, none⟩)) true ty).run Try.prog wr = _ := fun ty => Lib.run_next_end_at wr w.heap.size s pos ty hit hps
      have HBW := hid hbw
      clear hit hbw
      go_wp2
      go_ret
      exact ⟨rfl, HBW.out⟩

set_option maxRecDepth 100000 in
set_option maxHeartbeats 1000000 in
theorem indexRune_bad (r : Nat) (w : World) (h1 : 55296 ≤ r) (h2 : r ≤ 57343) :
    Calls Try.prog 161 #[.string alpha, .int .i32 (r : Int)] w fun e w' => e = .returned (.int .i64 (-1)) ∧ w = w' := by
  have g1 : decide ((0 : Int) ≤ (r : Int)) = true := decide_eq_true (by omega)
  have g2 : decide ((r : Int) < 128) = false := decide_eq_false (by omega)
  have g3 : decide (r < 128) = false := decide_eq_false (by omega)
  have g4 : ((r : Int) == 65533) = false := by simp; omega
  have g5 : (r == 65533) = false := by simp; omega
  have g6 : decide ((r : Int) < 55296) = false := decide_eq_false (by omega)
  have g7 : decide (r < 55296) = false := decide_eq_false (by omega)
  have g8 : decide ((57343 : Int) < (r : Int)) = false := decide_eq_false (by omega)
  have g9 : decide (57343 < r) = false := decide_eq_false (by omega)
  go_enter Try.func161, Try.ntmps161
  go_wp2
  go_ret
  exact ⟨rfl, rfl⟩
end

section
open Go Go.RowKit

theorem run_stringIndex (s : ByteArray) (i : Nat) (h : i < s.size) (w : World) : (Instr.index 9 (.string s) (.int .i64 (i : Int))).run Try.prog w = .ok (.int .u8 ((s[i]'h).toNat : Int)) w := by
  have h2 : s[i]? = some (s[i]'h) := getElem?_pos s i h
  simp [Instr.index, asIntOf, run_underlying Try.underlying9, h2]

theorem exec_strAt {o : Oper} {a : Act} {x y : Operand} {s : ByteArray} {i : Nat} {v : Value} (ho : o.op = .index 9 x y) (hx : a.eval x = .string s) (hy : a.eval y = .int .i64 (i : Int)) (h : ∀ w, (Instr.index 9 (.string s) (.int .i64 (i : Int))).run Try.prog w = .ok v w) (w : World) :
    (execOp a.eval o).run Try.prog w = .ok (.value v) w := by
  unfold execOp
  simp only [ho, hx, hy, Sem.run_bind, h w, Result.andThen_ok, Sem.run_pure]

theorem run_strFrom (s : ByteArray) (i : Nat) (hi : i ≤ s.size) (w : World) : (Instr.sliceAt 9 (.string s) (some (.int .i64 (i : Int))) none none).run Try.prog w = .ok (.string (s.extract i s.size)) w := by
  have h1 : (0 : Int) ≤ i ∧ (i : Int) ≤ s.size := by omega
  simp [Instr.sliceAt, Instr.slice, Instr.sliceBounds, Instr.sliceBound, asIntOf, run_underlying Try.underlying9, hi]
theorem exec_strFrom {o : Oper} {a : Act} {x y : Operand} {s : ByteArray} {i : Nat} (ho : o.op = .slice 9 x (some y) none none) (hx : a.eval x = .string s) (hy : a.eval y = .int .i64 (i : Int)) (hi : i ≤ s.size) (w : World) :
    (execOp a.eval o).run Try.prog w = .ok (.value (.string (s.extract i s.size))) w := by
  unfold execOp
  simp only [ho, hx, hy, Option.map_some, Option.map_none, Sem.run_bind, run_strFrom s i hi w, Result.andThen_ok, Sem.run_pure]

set_option maxRecDepth 100000 in
set_option maxHeartbeats 1000000 in
theorem validRune_c (r : Nat) (w : World) (h2 : r ≤ 1114111) (h3 : r < 55296 ∨ 57343 < r) :
    Calls Try.prog 171 #[.int .i32 (r : Int)] w fun e w' => e = .returned (.bool true) ∧ w = w' := by
  have g1 : decide ((0 : Int) ≤ (r : Int)) = true := decide_eq_true (by omega)
  by_cases h : r < 55296
  · have g6 : decide ((r : Int) < 55296) = true := decide_eq_true (by omega)
    have g7 : decide (r < 55296) = true := decide_eq_true (by omega)
    go_enter Try.func171, Try.ntmps171
    go_wp2
    go_ret
    exact ⟨rfl, rfl⟩
  · have g6 : decide ((r : Int) < 55296) = false := decide_eq_false (by omega)
    have g7 : decide (r < 55296) = false := decide_eq_false (by omega)
    have g8 : decide ((57343 : Int) < (r : Int)) = true := decide_eq_true (by omega)
    have g9 : decide (57343 < r) = true := decide_eq_true (by omega)
    have g10 : decide ((r : Int) ≤ 1114111) = true := decide_eq_true (by omega)
    have g11 : decide (r ≤ 1114111) = true := decide_eq_true (by omega)
    go_enter Try.func171, Try.ntmps171
    go_wp2
    go_ret
    exact ⟨rfl, rfl⟩

set_option maxRecDepth 100000 in
set_option maxHeartbeats 1000000 in
theorem indexRune_high (r : Nat) (w : World) (h1 : 128 ≤ r) (h2 : r ≤ 1114111) (h3 : r < 55296 ∨ 57343 < r) (h4 : r ≠ 65533) :
    Calls Try.prog 161 #[.string alpha, .int .i32 (r : Int)] w fun e w' => e = .returned (.int .i64 (-1)) ∧ Ext w w' := by
  have hv : Utf8.valid (r : Int) = true := by
    rw [validRune_eq]; unfold validRune; exact decide_eq_true (by omega)
  obtain ⟨f1, f2, f3⟩ := encode_facts (r : Int) hv (by omega)
  obtain ⟨rs, hrs⟩ : ∃ rs, Utf8.encode (r : Int) = rs := ⟨_, rfl⟩
  rw [hrs] at f1 f2 f3
  obtain ⟨m, hm⟩ : ∃ m, m = rs.size - 1 := ⟨_, rfl⟩
  have hmlt : m < rs.size := by omega
  have hmc := f3 (by omega)
  have hc128 : 128 ≤ (rs[m]'hmlt).toNat := by subst hm; exact hmc
  have hrsz : ((rs.size : Nat) : Int) - 1 = (m : Int) := by omega
  have hia := fun w => run_stringIndex rs m hmlt w
  obtain ⟨s, hs⟩ : ∃ s, alpha = s := ⟨_, rfl⟩
  have hsz : s.size = 39 := by rw [← hs]; rfl
  have hasc : ∀ b ∈ s.data.toList, b.toNat < 128 := by rw [← hs]; exact alpha_ascii
  have hms : m < s.size := by omega
  have hib := fun w => run_stringIndex s m hms w
  have hb : (s[m]'hms).toNat < 128 := hasc _ (Array.getElem_mem_toList (xs := s.data) hms)
  obtain ⟨c, hc⟩ : ∃ c, (rs[m]'hmlt) = c := ⟨_, rfl⟩
  obtain ⟨b, hbb⟩ : ∃ b, (s[m]'hms).toNat = b := ⟨_, rfl⟩
  rw [hc] at hia hc128
  rw [hbb] at hib hb
  have hc256 := c.toNat_lt
  have hix := hid (fun a e w' => indexByte_c (s.extract a e) (c.toNat : Int) w')
  have hno := hid (fun a e => firstIdx_ascii s a e c hasc hc128)
  have hcc : ((c.toNat : Int)).toNat.toUInt8 = c := by simp
  rw [hcc] at hix
  rw [hs]
  have HSZ := hid hsz
  have hvr := hid (fun w' => validRune_c r w' h2 h3)
  clear hs hasc hmc f3 hm hc hbb hsz h3 hv hcc
  have g1 : decide ((0 : Int) ≤ (r : Int)) = true := decide_eq_true (by omega)
  have g2 : decide ((r : Int) < 128) = false := decide_eq_false (by omega)
  have g3 : decide (r < 128) = false := decide_eq_false (by omega)
  have g4 : ((r : Int) == 65533) = false := by simp; omega
  have g5 : (r == 65533) = false := by simp [h4]
  go_enter Try.func161, Try.ntmps161
  go_wp2_with (first | (go_at_call 171; refine (hvr.out _).mono ?_; rintro e w' ⟨rfl, rfl⟩))
  go_step3
  go_wp2_with fail
  go_loopw [9] (fun x wr => x = .int .i64 (m : Int) ∧ wr = w) (fun _ _ => 0)
  case atStart => exact ⟨rfl, rfl⟩
  case round =>
    obtain ⟨rfl, rfl⟩ := hrel
    have k1 : decide ((m : Int) < (s.size : Int)) = true := decide_eq_true (by omega)
    have k2 : decide (m < s.size) = true := decide_eq_true hms
    have k3 : ((b : Int) != (c.toNat : Int)) = true := by simp; omega
    have k4 : (b != c.toNat) = true := by simp; omega
    go_wp2_with fail
    go_step3
    go_wp2_with fail
    obtain ⟨C, hC⟩ : ∃ C : World → Prop, C = fun w' => Ext wr w' := ⟨_, rfl⟩
    have hC0 : ∀ w', C w' ↔ Ext wr w' := fun w' => by rw [hC]
    clear hC
    have HCC := hid hC0
    clear hC0
    have hCx : ∀ w w', C w → Ext w w' → C w' := fun w w' h1 h2 => (HCC.out w').2 (((HCC.out w).1 h1).ext h2)
    refine wp_region_held_drew (S := C) (by kernel_rfl) ((HCC.out _).2 (Ext.refl wr).drew) (fun hS0 => ?_)
    refine held_take 0 (v := ?tv64) rfl (by kernel_rfl) (by kernel_rfl) (by kernel_rfl) (fun _ _ _ h => h) (.inl ⟨rfl, ?ty64⟩) hS0 ?tr64
    case ty64 => (intro _ _; go_simp; try with_reducible rfl)
    case tr64 =>
    simp only [Act.put, List.setIfInBounds_toArray, List.set_cons_succ, List.set_cons_zero]
    refine held_take 1 (v := ?tv65) rfl (by kernel_rfl) (by kernel_rfl) (by kernel_rfl) (fun _ _ _ h => h) (.inl ⟨rfl, ?ty65⟩) hS0 ?tr65
    case ty65 => (intro _ _; go_simp; try with_reducible rfl)
    case tr65 =>
    simp only [Act.put, List.setIfInBounds_toArray, List.set_cons_succ, List.set_cons_zero]
    refine held_take 2 (v := _) rfl (by kernel_rfl) (by kernel_rfl) (by kernel_rfl) (fun _ _ _ h => h) (yieldsI_run rfl (fun w1 _ => exec_strAt rfl rfl rfl hib w1)) hS0 ?_
    simp only [Act.put, List.setIfInBounds_toArray, List.set_cons_succ, List.set_cons_zero]
    refine held_take 3 (v := ?tv66) rfl (by kernel_rfl) (by kernel_rfl) (by kernel_rfl) (fun _ _ _ h => h) (.inl ⟨rfl, ?ty66⟩) hS0 ?tr66
    case ty66 => (intro _ _; go_simp; try with_reducible rfl)
    case tr66 =>
    simp only [Act.put, List.setIfInBounds_toArray, List.set_cons_succ, List.set_cons_zero]
    refine held_take 4 (v := ?tv67) rfl (by kernel_rfl) (by kernel_rfl) (by kernel_rfl) (fun _ _ _ h => h) (.inl ⟨rfl, ?ty67⟩) hS0 ?tr67
    case ty67 => (intro _ _; go_simp; try with_reducible rfl)
    case tr67 =>
    simp only [Act.put, List.setIfInBounds_toArray, List.set_cons_succ, List.set_cons_zero]
    refine held_take 5 (v := _) rfl (by kernel_rfl) (by kernel_rfl) (by kernel_rfl) (fun _ _ _ h => h) (yieldsI_run rfl (fun w1 _ => exec_strAt rfl rfl rfl hia w1)) hS0 ?_
    simp only [Act.put, List.setIfInBounds_toArray, List.set_cons_succ, List.set_cons_zero]
    refine held_take 6 (v := ?tv68) rfl (by kernel_rfl) (by kernel_rfl) (by kernel_rfl) (fun _ _ _ h => h) (.inl ⟨rfl, ?ty68⟩) hS0 ?tr68
    case ty68 => (intro _ _; go_simp; try with_reducible rfl)
    case tr68 =>
    simp only [Act.put, List.setIfInBounds_toArray, List.set_cons_succ, List.set_cons_zero]
    have eD : Ext wr wr.drew := (Ext.refl wr).drew
    generalize wr.drew = wD at *
    refine wpAnyH_done (by kernel_rfl) ?_ _
    clear hS0 hCx HCC C
    go_wp2_with fail
    obtain ⟨C, hC⟩ : ∃ C : World → Prop, C = fun w' => Ext wD w' := ⟨_, rfl⟩
    have hC0 : ∀ w', C w' ↔ Ext wD w' := fun w' => by rw [hC]
    clear hC
    have HCC := hid hC0
    clear hC0
    have hCx : ∀ w w', C w → Ext w w' → C w' := fun w w' h1 h2 => (HCC.out w').2 (((HCC.out w).1 h1).ext h2)
    refine wp_region_held_drew (S := C) (by kernel_rfl) ((HCC.out _).2 (Ext.refl wD).drew) (fun hS0 => ?_)
    have hw1 : IntKind.i64.wrap ((m : Int) + 1) = ((m + 1 : Nat) : Int) := by rw [IntWalk.i64_in _ (by omega)]; omega
    have hm1 : m + 1 ≤ s.size := by omega
    generalize m + 1 = m1 at *
    refine held_take 0 (v := ?tv69) rfl (by kernel_rfl) (by kernel_rfl) (by kernel_rfl) (fun _ _ _ h => h) (.inl ⟨rfl, ?ty69⟩) hS0 ?tr69
    case ty69 => (intro _ _; go_simp; try with_reducible rfl)
    case tr69 =>
    simp only [Act.put, List.setIfInBounds_toArray, List.set_cons_succ, List.set_cons_zero]
    refine held_take 1 (v := ?tv70) rfl (by kernel_rfl) (by kernel_rfl) (by kernel_rfl) (fun _ _ _ h => h) (.inl ⟨rfl, ?ty70⟩) hS0 ?tr70
    case ty70 => (intro _ _; go_simp; try with_reducible rfl)
    case tr70 =>
    simp only [Act.put, List.setIfInBounds_toArray, List.set_cons_succ, List.set_cons_zero]
    refine held_take 2 (v := ?tv71) rfl (by kernel_rfl) (by kernel_rfl) (by kernel_rfl) (fun _ _ _ h => h) (.inl ⟨rfl, ?ty71⟩) hS0 ?tr71
    case ty71 => (intro _ _; go_simp; try with_reducible rfl)
    case tr71 =>
    simp only [Act.put, List.setIfInBounds_toArray, List.set_cons_succ, List.set_cons_zero]
    refine held_take 3 (v := _) rfl (by kernel_rfl) (by kernel_rfl) (by kernel_rfl) (fun _ _ _ h => h) (yieldsI_run rfl (fun w1 _ => exec_strFrom (i := m1) rfl rfl rfl hm1 w1)) hS0 ?_
    simp only [Act.put, List.setIfInBounds_toArray, List.set_cons_succ, List.set_cons_zero]
    refine held_take 4 (v := ?tv72) rfl (by kernel_rfl) (by kernel_rfl) (by kernel_rfl) (fun _ _ _ h => h) (.inl ⟨rfl, ?ty72⟩) hS0 ?tr72
    case ty72 => (intro _ _; go_simp; try with_reducible rfl)
    case tr72 =>
    simp only [Act.put, List.setIfInBounds_toArray, List.set_cons_succ, List.set_cons_zero]
    refine held_take 5 (v := ?tv73) rfl (by kernel_rfl) (by kernel_rfl) (by kernel_rfl) (fun _ _ _ h => h) (.inl ⟨rfl, ?ty73⟩) hS0 ?tr73
    case ty73 => (intro _ _; go_simp; try with_reducible rfl)
    case tr73 =>
    simp only [Act.put, List.setIfInBounds_toArray, List.set_cons_succ, List.set_cons_zero]
    refine held_take 6 (v := _) rfl (by kernel_rfl) (by kernel_rfl) (by kernel_rfl) (fun _ _ _ h => h) (yieldsI_run rfl (fun w1 _ => exec_strAt rfl rfl rfl hia w1)) hS0 ?_
    simp only [Act.put, List.setIfInBounds_toArray, List.set_cons_succ, List.set_cons_zero]
    clear hw1
    generalize wD.drew = wE at *
    refine held_one (i := 7) (by kernel_rfl) rfl ?_
    intro Q' hQ
    go_wp2_with fail
    refine (hix.out m1 s.size _).mono ?_
    rintro e wF ⟨rfl, rfl⟩
    go_wp2_with fail
    refine hQ _ _ hS0 ?_
    clear hQ Q'
    try dsimp only
    try simp only [Act.put, List.setIfInBounds_toArray, List.set_cons_succ, List.set_cons_zero]
    rw [hno.out]
    refine held_take 8 (v := ?tv74) rfl (by kernel_rfl) (by kernel_rfl) (by kernel_rfl) (fun _ _ _ h => h) (.inl ⟨rfl, ?ty74⟩) hS0 ?tr74
    case ty74 => (intro _ _; go_simp; try with_reducible rfl)
    case tr74 =>
    simp only [Act.put, List.setIfInBounds_toArray, List.set_cons_succ, List.set_cons_zero]
    refine wpAnyH_done (by kernel_rfl) ?_ _
    have EE := hid (eD.ext ((HCC.out _).1 hS0))
    clear hS0 hCx HCC C
    go_wp2_with fail
    rw [Exit.noGoto_ret]
    go_wp2_with fail
    rw [Exit.noGoto_ret]
    go_ret
    exact ⟨rfl, EE.out⟩
end

section
open Go Go.RowKit

theorem nameOct_high {c : UInt8} (h : 128 ≤ c.toNat) : nameOct c = false := by
  unfold nameOct
  simp
  omega
theorem runeOk_low {r : Nat} (h : r < 128) : runeOk r = nameOct (UInt8.ofNat r) := by
  unfold runeOk
  rw [decide_eq_true h, Bool.true_and]
theorem runeOk_high {r : Nat} (h : 128 ≤ r) : runeOk r = false := by
  unfold runeOk
  rw [decide_eq_false (by omega), Bool.false_and]
theorem runeOk_oct (c : UInt8) (h : c.toNat < 128) : runeOk c.toNat = nameOct c := by
  rw [runeOk_low h, UInt8.ofNat_toNat]

set_option maxRecDepth 100000 in
set_option maxHeartbeats 1000000 in
theorem indexRune_c (r : Nat) (w : World) (h : r ≤ 1114111) :
    Calls Try.prog 161 #[.string alpha, .int .i32 (r : Int)] w fun e w' => ∃ z : Int, e = .returned (.int .i64 z) ∧ decide (0 ≤ z) = runeOk r ∧ Ext w w' := by
  by_cases h1 : r < 128
  · refine (indexRune_low r w h1).mono ?_
    rintro e w' ⟨rfl, rfl⟩
    refine ⟨_, rfl, ?_, Ext.refl _⟩
    rw [firstIdx_nonneg, runeOk_low h1]
    have := alpha_any ⟨r, by omega⟩
    exact this
  · by_cases h2 : r = 65533
    · subst h2
      refine (indexRune_err w).mono ?_
      rintro e w' ⟨rfl, e1⟩
      exact ⟨_, rfl, by rw [runeOk_high (by omega)]; rfl, e1⟩
    · by_cases h3 : 55296 ≤ r ∧ r ≤ 57343
      · refine (indexRune_bad r w h3.1 h3.2).mono ?_
        rintro e w' ⟨rfl, rfl⟩
        exact ⟨_, rfl, by rw [runeOk_high (by omega)]; rfl, Ext.refl _⟩
      · refine (indexRune_high r w (by omega) h (by omega) h2).mono ?_
        rintro e w' ⟨rfl, e1⟩
        exact ⟨_, rfl, by rw [runeOk_high (by omega)]; rfl, e1⟩

set_option maxRecDepth 100000 in
set_option maxHeartbeats 1000000 in
theorem containsRune_c (r : Nat) (w : World) (h : r ≤ 1114111) :
    Calls Try.prog 151 #[.string alpha, .int .i32 (r : Int)] w fun e w' => e = .returned (.bool (runeOk r)) ∧ Ext w w' := by
  have hi := hid (fun w' => indexRune_c r w' h)
  generalize runeOk r = R at *
  generalize alpha = s at *
  go_enter Try.func151, Try.ntmps151
  go_wp2_with fail
  refine (hi.out w).mono ?_
  rintro e w1 ⟨z, rfl, hz, e1⟩
  have E1 := hid e1
  clear e1 hi
  go_wp2_with fail
  go_ret
  exact ⟨by first | rfl | rw [hz], E1.out⟩

set_option maxRecDepth 100000 in
set_option maxHeartbeats 1000000 in
theorem notName_rune (r : Nat) (w : World) (h : r ≤ 1114111) :
    Calls Try.prog 150 #[.int .i32 (r : Int)] w fun e w' => e = .returned (.bool (!runeOk r)) ∧ Ext w w' := by
  have hi := hid (fun w' => containsRune_c r w' h)
  generalize runeOk r = R at *
  go_enter Try.func150, Try.ntmps150
  go_wp2_with fail
  refine (hi.out w).mono ?_
  rintro e w1 ⟨rfl, e1⟩
  have E1 := hid e1
  clear e1 hi
  go_wp2_with fail
  go_ret
  exact ⟨rfl, E1.out⟩

def predV : Value := .func (.func 150) #[] #[]

set_option maxRecDepth 100000 in
set_option maxHeartbeats 2000000 in
theorem indexFunc_c (s : ByteArray) (w : World) :
    Calls Try.prog 169 #[.string s, predV, .bool true] w fun e w' => ∃ z : Int, e = .returned (.int .i64 z) ∧ decide (0 ≤ z) = !(s.data.toList.all nameOct) ∧ Ext w w' := by
  obtain ⟨N, hN⟩ : ∃ N, s.size = N := ⟨_, rfl⟩
  have hll : s.data.toList.length = N := by rw [← hN, Array.length_toList]; rfl
  have HLL := hid hll
  have HN := hid hN
  clear hll hN
  unfold predV
  go_enter Try.func169, Try.ntmps169
  go_wp2
  go_loopg [] N (fun gf wx => ∃ pos : Nat, wx.heap[w.heap.size]? = some (.stringIter s pos) ∧ Below w.heap.size w wx ∧ Hid ((s.data.toList.take pos).all nameOct = true) ∧ N ≤ pos + gf)
  case atStart => exact ⟨0, World.iter_heap w s 0, (Below.refl _ w).alloc (Nat.le_refl _) _, hid (by simp), by omega⟩
  case round =>
    obtain ⟨pos, hit, hbw, hall, hfu⟩ := hrel
    by_cases hps : pos < s.size
    · have hpN : pos < N := by rw [← HN.out]; exact hps
      obtain ⟨g', rfl⟩ : ∃ g', gk = g' + 1 := ⟨gk - 1, by omega⟩
      have hnx : ∀ ty, (Instr.next (.pointer (some ⟨w.heap.size, 0, none⟩)) true ty).run Try.prog wr = _ := fun ty => Lib.run_next_any_at wr w.heap.size s pos ty hit hps
      have hrl := Lib.rune_le s pos
      have hc : s.data.toList[pos]? = some (s[pos]'hps) := by rw [Array.getElem?_toList]; exact Array.getElem?_eq_getElem hps
      obtain ⟨R, hR⟩ : ∃ R, (Utf8.decode s pos).1 = R := ⟨_, rfl⟩
      obtain ⟨K, hK⟩ : ∃ K, (Utf8.decode s pos).2 = K := ⟨_, rfl⟩
      have hok : runeOk R = nameOct (s[pos]'hps) ∧ (nameOct (s[pos]'hps) = true → K = 1) := by
        by_cases hb : (s[pos]'hps).toNat < 128
        · have hdec := decode_ascii s pos hps hb
          rw [hdec] at hR hK
          simp only at hR hK
          rw [← hR]
          exact ⟨runeOk_oct _ hb, fun _ => hK.symm⟩
        · have hh := (decode_high s pos hps (by omega)).1
          rw [hR] at hh
          refine ⟨by rw [runeOk_high hh, nameOct_high (by omega)], fun h => ?_⟩
          rw [nameOct_high (by omega)] at h; cases h
      rw [hR] at hnx hrl
      rw [hK] at hnx
      obtain ⟨b, hb⟩ : ∃ b, (s[pos]'hps) = b := ⟨_, rfl⟩
      rw [hb] at hok hc
      obtain ⟨hok1, hok2⟩ := hok
      have hit2 := Lib.iterAt_heap wr w.heap.size s pos (pos + K) hit
      have hbw2 := Lib.below_iterAt hbw (k := w.heap.size) (Nat.le_refl _) s (pos + K)
      have HIT := hid hit2
      have HBW := hid hbw2
      have hcl := hid (fun w' => notName_rune R w' hrl)
      have HC := hid hc
      generalize wr.iterAt w.heap.size s (pos + K) = wX at *
      have hgt : w.heap.size < wX.heap.size := (Array.getElem?_eq_some_iff.1 HIT.out).1
      cases hnm : nameOct b with
      | true =>
        rw [hnm] at hok1
        have hK1 := hok2 hnm
        subst hK1
        rw [hok1] at hcl
        have hst : (s.data.toList.take (pos + 1)).all nameOct = true := by
          rw [List.take_add_one, HC.out, List.all_append, hall.out]; simp [hnm]
        have HST := hid hst
        clear hit hbw hit2 hbw2 hR hK hok1 hok2 hc hst hb hrl
        go_wp2_with fail
        refine (hcl.out wX).mono ?_
        rintro e wY ⟨rfl, eY⟩
        have hit3 : wY.heap[w.heap.size]? = some (.stringIter s (pos + 1)) := by rw [eY.block _ hgt]; exact HIT.out
        have HIT3 := hid hit3
        have HBW3 := hid (HBW.out.trans (eY.mono HBW.out.size))
        clear eY hit3 hcl
        go_wp2_with fail
        go_roundg g'
        case measure => omega
        case rel => exact ⟨pos + 1, HIT3.out, HBW3.out, HST, by omega⟩
      | false =>
        rw [hnm] at hok1
        rw [hok1] at hcl
        have hbad : s.data.toList.all nameOct = false := by
          rw [List.all_eq_false]
          exact ⟨b, List.mem_of_getElem? HC.out, by rw [hnm]; simp⟩
        have HBAD := hid hbad
        clear hit hbw hit2 hbw2 hR hK hok1 hok2 hc hbad hb hrl
        go_wp2_with fail
        refine (hcl.out wX).mono ?_
        rintro e wY ⟨rfl, eY⟩
        have HBW3 := hid (HBW.out.trans (eY.mono HBW.out.size))
        clear eY hcl
        go_wp2_with fail
        go_ret
        exact ⟨_, rfl, by rw [HBAD.out]; exact decide_eq_true (by omega), HBW3.out⟩
    · have hnx : ∀ ty, (Instr.next (.pointer (some ⟨w.heap.size, 0, none⟩)) true ty).run Try.prog wr = _ := fun ty => Lib.run_next_end_at wr w.heap.size s pos ty hit hps
      have hfull : s.data.toList.take pos = s.data.toList := List.take_of_length_le (by rw [HLL.out]; have := HN.out; omega)
      have hall2 := hall.out
      rw [hfull] at hall2
      have HALL := hid hall2
      have HBW := hid hbw
      clear hit hbw hall hall2 hfull
      go_wp2_with fail
      go_ret
      exact ⟨_, rfl, by rw [HALL.out]; rfl, HBW.out⟩
end

section
open Go Go.RowKit

set_option maxRecDepth 100000 in
set_option maxHeartbeats 1000000 in
theorem containsFunc_c (s : ByteArray) (w : World) :
    Calls Try.prog 149 #[.string s, predV] w fun e w' => e = .returned (.bool (!(s.data.toList.all nameOct))) ∧ Ext w w' := by
  have hi := hid (fun w' => indexFunc_c s w')
  generalize s.data.toList.all nameOct = b at *
  generalize predV = pv at *
  have hj : Hid (∀ w, Calls Try.prog 160 #[.string s, pv] w fun e w' => ∃ z : Int, e = .returned (.int .i64 z) ∧ decide (0 ≤ z) = (!b) ∧ Ext w w') := by
    refine hid fun w => ?_
    go_enter Try.func160, Try.ntmps160
    go_wp2_with fail
    refine (hi.out w).mono ?_
    rintro e w1 ⟨z, rfl, hz, e1⟩
    have E1 := hid e1
    have HZ := hid hz
    clear e1 hi hz
    go_wp2_with fail
    go_ret
    exact ⟨z, rfl, HZ.out, E1.out⟩
  clear hi
  go_enter Try.func149, Try.ntmps149
  go_wp2_with fail
  refine (hj.out w).mono ?_
  rintro e w1 ⟨z, rfl, hz, e1⟩
  have E1 := hid e1
  clear e1 hj
  go_wp2_with fail
  go_ret
  exact ⟨by first | rfl | rw [hz], E1.out⟩

set_option maxRecDepth 100000 in
set_option maxHeartbeats 1000000 in
theorem risName_c (s : ByteArray) (w : World) (hn : s.size ≤ 9223372036854775807) :
    Calls Try.prog 130 #[.string s] w fun e w' => e = .returned (.bool (isNameL s.data.toList)) ∧ Ext w w' := by
  have hc := hid (fun w' => containsFunc_c s w')
  obtain ⟨n, hsn⟩ : ∃ n, s.size = n := ⟨_, rfl⟩
  have hll : s.data.toList.length = n := by rw [← hsn, Array.length_toList]; rfl
  obtain ⟨R, hR⟩ : ∃ R, isNameL s.data.toList = R := ⟨_, rfl⟩
  rw [hR]
  unfold isNameL at hR
  have hem : s.data.toList.isEmpty = decide (n = 0) := by
    rw [Bool.eq_iff_iff, List.isEmpty_iff, decide_eq_true_eq, ← hll, List.length_eq_zero_iff]
  have hse : s = ByteArray.empty ↔ n = 0 := by
    constructor
    · rintro rfl; rw [← hsn]; rfl
    · intro h
      have : s.data.toList = [] := List.length_eq_zero_iff.1 (by rw [hll]; exact h)
      cases s with
      | mk d => cases d with
        | mk l => simp at this; subst this; rfl
  rw [hem, hll] at hR
  generalize s.data.toList.all nameOct = b at *
  by_cases h0 : n = 0
  · have hs := hse.2 h0
    subst hs
    subst h0
    simp at hR
    subst hR
    clear hc hse hem hll hsn
    go_enter Try.func130, Try.ntmps130
    go_wp2
    go_ret
    exact ⟨rfl, Ext.refl _⟩
  · have hsne : ¬ s = ByteArray.empty := fun h => h0 (hse.1 h)
    have hne1 : s.toList.isEmpty = false := by
      have := decide_eq_emptyBytes s
      rw [decide_eq_false hsne] at this
      exact this.symm
    have hne2 : ¬ s.toList = [] := by
      intro h
      rw [h] at hne1
      cases hne1
    rw [decide_eq_false h0] at hR
    by_cases h32 : n ≤ 32
    · have g1 : decide ((n : Int) ≤ 32) = true := decide_eq_true (by omega)
      have g2 : decide (n ≤ 32) = true := decide_eq_true h32
      rw [g2] at hR
      simp at hR
      subst hR
      clear hse hem hll
      unfold predV at hc
      go_enter Try.func130, Try.ntmps130
      go_wp2_with fail
      refine (hc.out w).mono ?_
      rintro e w1 ⟨rfl, e1⟩
      have E1 := hid e1
      clear e1 hc
      go_wp2_with fail
      go_ret
      exact ⟨by first | rfl | simp, E1.out⟩
    · have g1 : decide ((n : Int) ≤ 32) = false := decide_eq_false (by omega)
      have g2 : decide (n ≤ 32) = false := decide_eq_false h32
      rw [g2] at hR
      simp at hR
      subst hR
      clear hc hse hem hll
      go_enter Try.func130, Try.ntmps130
      go_wp2
      go_ret
      exact ⟨rfl, Ext.refl _⟩
end

section
open Go Go.RowKit

def nameL (k : List UInt8) : List UInt8 := (sumL 10 k).take 16
theorem nameL_length (k : List UInt8) : (nameL k).length = 16 := by rw [nameL, List.length_take, sumL_length]; rfl
end

section
open Go Go.RowKit

/-- the key of a key -/
def deriveL (k s : List UInt8) (ep : Nat) : List UInt8 := sumL 7 (k ++ s ++ [0] ++ longL (UInt64.ofNat ep))
def deriveV (k s : List UInt8) (b : Bool) (ep : Int) : Value :=
  if b = false then .tuple #[zeros 32, .int .i64 6] else if ep < 0 ∨ 4294967295 < ep then .tuple #[zeros 32, .int .i64 4] else .tuple #[.agg ((deriveL k s ep.toNat).map u8v).toArray, .int .i64 0]
end

section
open Go Go.RowKit

section
variable {P : Program} {ops : Array Oper} {Q : Exit → Act → World → Prop} {S : World → Prop}
/-- two operations that may come up in either order, each of which makes something that stays -/
theorem held_par {i j : Nat} {oi oj : Oper} {ri rj : List Oper} {f : Nat} {listed : Array Bool} {a : Act} {w : World} {βi βj : Type} (vi : βi → Value) (vj : βj → Value) (Φi : βi → World → Prop) (Φj : βj → World → Prop)
    (hr : Region.ready .any ops listed = [i, j]) (hri : Region.ready .any ops (listed.setIfInBounds i true) = [j]) (hrj : Region.ready .any ops (listed.setIfInBounds j true) = [i]) (hne : (i == j) = false)
    (hoi : ops.toList.drop i = oi :: ri) (hoj : ops.toList.drop j = oj :: rj) (hSx : ∀ w w', S w → Ext w w' → S w') (hΦi : ∀ b w w', Φi b w → Ext w w' → Φi b w') (hΦj : ∀ b w w', Φj b w → Ext w w' → Φj b w')
    (hcm : ∀ x y, (a.put oj.dst y).put oi.dst x = (a.put oi.dst x).put oj.dst y)
    (hi : ∀ a', (a' = a ∨ ∃ b, a' = a.put oj.dst (vj b)) → ∀ w, S w → ∀ Q' : Exit → Act → World → Prop, (∀ b w', Ext w w' → Φi b w' → Q' .normal (a'.put oi.dst (vi b)) w') → wpList P ops Q' [oi] a' w)
    (hj : ∀ a', (a' = a ∨ ∃ b, a' = a.put oi.dst (vi b)) → ∀ w, S w → ∀ Q' : Exit → Act → World → Prop, (∀ b w', Ext w w' → Φj b w' → Q' .normal (a'.put oj.dst (vj b)) w') → wpList P ops Q' [oj] a' w)
    (hS : S w)
    (h : ∀ bi bj w', S w' → Φi bi w' → Φj bj w' → wpAnyH P .any ops Q S f ((listed.setIfInBounds i true).setIfInBounds j true) ((a.put oi.dst (vi bi)).put oj.dst (vj bj)) w') :
    wpAnyH P .any ops Q S (f + 2) listed a w := by
  have hne' : i ≠ j := by simpa using hne
  refine wpAnyH_all hr (by simp) fun k hk => ?_
  have hk' : k = i ∨ k = j := by simpa using hk
  rcases hk' with rfl | rfl
  · refine wpOp_of_list (op_of_drop hoi) (hi a (.inl rfl) w hS _ fun bi w1 e1 h1 => ?_)
    have hS1 := hSx _ _ hS e1
    refine ⟨hS1, ?_⟩
    refine held_one hri hoj fun Q' hQ => ?_
    refine hj _ (.inr ⟨bi, rfl⟩) w1 hS1 _ fun bj w2 e2 h2 => ?_
    exact hQ _ _ (hSx _ _ hS1 e2) (h bi bj w2 (hSx _ _ hS1 e2) (hΦi _ _ _ h1 e2) h2)
  · refine wpOp_of_list (op_of_drop hoj) (hj a (.inl rfl) w hS _ fun bj w1 e1 h1 => ?_)
    have hS1 := hSx _ _ hS e1
    refine ⟨hS1, ?_⟩
    refine held_one hrj hoi fun Q' hQ => ?_
    refine hi _ (.inr ⟨bj, rfl⟩) w1 hS1 _ fun bi w2 e2 h2 => ?_
    refine hQ _ _ (hSx _ _ hS1 e2) ?_
    rw [hcm, Array.setIfInBounds_comm _ _ (Ne.symm hne')]
    exact h bi bj w2 (hSx _ _ hS1 e2) h2 (hΦj _ _ _ h1 e2)
end

theorem wpl_stepA {P : Program} {ops : Array Oper} {rest : List Oper} {o : Oper} {a : Act} {w w' : World} {Q : Exit → Act → World → Prop} {v : Value} (hgd : o.guard = none) (hr : (execOp a.eval o).run P w = .ok (.value v) w') (h : wpList P ops Q rest (a.put o.dst v) w') : wpList P ops Q (o :: rest) a w :=
  wpList_plain hgd fun K hK => by
    unfold Oper.wp
    rw [hr, Oper.upon_value]
    exact hK _ _ h
theorem exec_toBytes {o : Oper} {a : Act} {x : Operand} {s : ByteArray} (ho : o.op = .convert 9 28 x) (hx : a.eval x = .string s) (w : World) :
    (execOp a.eval o).run Try.prog w = .ok (.value (.slice (some ⟨w.heap.size, 0, none⟩) s.size (grownCap w s.size 0 5)))
      (w.drew.alloc (.cells (bytesRow s (grownCap w s.size 0 5)) 5 ((bytesRow s (grownCap w s.size 0 5)).size, (bytesRow s (grownCap w s.size 0 5)).size + 1))) := by
  unfold execOp
  simp only [ho, hx, Sem.run_bind, run_bytes_of_string w _ _ _ s Try.underlying9 Try.underlying28 Try.underlying5, Result.andThen_ok, Sem.run_pure]
theorem cells_toBytes (s : ByteArray) (c : Nat) (w : World) (z : Nat × Nat) : Cells (w.drew.alloc (.cells (bytesRow s c) 5 z)) (some ⟨w.heap.size, 0, none⟩) (s.data.toList.map u8v) := by
  refine .inr ⟨w.heap.size, 0, rfl, fun i u hu => ?_⟩
  have hi : i < s.data.size := by
    have := (List.getElem?_eq_some_iff.1 hu).1
    rw [List.length_map, Array.length_toList] at this; exact this
  have hh : (w.drew.alloc (.cells (bytesRow s c) 5 z)).heap[w.heap.size]? = some (.cells (bytesRow s c) 5 z) := by
    show (w.heap.push _)[w.heap.size]? = _
    simp
  rw [Nat.zero_add]
  have hb : (bytesRow s c)[i]? = some u := by
    unfold bytesRow
    rw [Array.getElem?_append_left (by simpa using hi), Array.getElem?_map]
    rw [List.getElem?_map, Array.getElem?_toList] at hu
    exact hu
  simp only [World.cell?, hh]
  exact hb
end

section
open Go Go.RowKit

/-- a row of octets of one's own, marked nowhere or behind its end -/
def OwnM (w : World) (base : Nat) (v : Value) (n : Nat) (xs : List UInt8) : Prop :=
  xs.length = n ∧ ((v = .slice none 0 0 ∧ n = 0) ∨
   ∃ g cap cur fz, v = .slice (some ⟨g, 0, none⟩) n cap ∧ base ≤ g ∧ w.heap[g]? = some (.cells cur 5 fz) ∧ (fz.2 = 0 ∨ cap ≤ fz.1) ∧ n ≤ cap ∧ cap ≤ maxLen ∧ cur.size = cap ∧ cur.toList.take n = xs.map u8v)
theorem OwnM.of {w : World} {base : Nat} {v : Value} {n : Nat} {xs : List UInt8} (h : w.ownsRow base 5 1 v n (xs.map u8v)) : OwnM w base v n xs := by
  obtain ⟨hl, h⟩ := h
  rw [List.length_map, Nat.mul_one] at hl
  refine ⟨hl, ?_⟩
  rcases h with h | ⟨g, cap, cur, h1, h2, h3, h4, h5, h6, h7⟩
  · exact .inl h
  · exact .inr ⟨g, cap, cur, (0, 0), h1, h2, h3, .inl rfl, h4, h5, by omega, by rw [Nat.mul_one] at h7; exact h7⟩
theorem OwnM.turn {w w' : World} {B : Nat} {v : Value} {n : Nat} {xs : List UInt8} (h : OwnM w B v n xs) (k : ∀ i, B ≤ i → i < w.heap.size → w'.heap[i]? = w.heap[i]?) : OwnM w' B v n xs := by
  refine ⟨h.1, ?_⟩
  rcases h.2 with h | ⟨g, cap, cur, fz, h1, h2, h3, h4⟩
  · exact .inl h
  · exact .inr ⟨g, cap, cur, fz, h1, h2, (k g h2 (Array.getElem?_eq_some_iff.1 h3).1).trans h3, h4⟩
theorem OwnM.ext {w w' : World} {B : Nat} {v : Value} {n : Nat} {xs : List UInt8} (h : OwnM w B v n xs) (e : Ext w w') : OwnM w' B v n xs := h.turn fun i _ hi => e.block i hi
theorem OwnM.lower {w : World} {B B' : Nat} {v : Value} {n : Nat} {xs : List UInt8} (h : OwnM w B v n xs) (hb : B' ≤ B) : OwnM w B' v n xs := by
  refine ⟨h.1, ?_⟩
  rcases h.2 with h | ⟨g, cap, cur, fz, h1, h2, h3⟩
  · exact .inl h
  · exact .inr ⟨g, cap, cur, fz, h1, Nat.le_trans hb h2, h3⟩
theorem OwnM.block_ge {w : World} {B : Nat} {v : Value} {n : Nat} {xs : List UInt8} (h : OwnM w B v n xs) : ∀ g, v.ownBlock = some g → B ≤ g := by
  intro g hg
  rcases h.2 with ⟨rfl, _⟩ | ⟨g', cap, cur, fz, rfl, hb, _⟩
  · cases hg
  · simp [Value.ownBlock] at hg; omega
theorem OwnM.slice {w : World} {B : Nat} {v : Value} {n : Nat} {xs : List UInt8} (h : OwnM w B v n xs) :
    ∃ a c, v = .slice a n c ∧ n ≤ c ∧ c ≤ maxLen ∧ (a = none → c = 0) ∧ Cells w a (xs.map u8v) := by
  obtain ⟨hl, h⟩ := h
  rcases h with ⟨rfl, rfl⟩ | ⟨g, cap, cur, fz, rfl, hb, hg, h0, h1, h2, h3, h4⟩
  · refine ⟨none, 0, rfl, Nat.le_refl _, by unfold maxLen; omega, fun _ => rfl, .inl ?_⟩
    rw [List.length_eq_zero_iff.1 hl]; rfl
  · refine ⟨_, cap, rfl, h1, h2, (fun h => by cases h), .inr ⟨g, 0, rfl, fun i u hu => ?_⟩⟩
    rw [← h4] at hu
    have hi : i < n := by
      have := (List.getElem?_eq_some_iff.1 hu).1
      simp only [List.length_take] at this; omega
    rw [List.getElem?_take_of_lt hi] at hu
    rw [Nat.zero_add, cell_of_row w g i cur _ fz hg]
    simpa using hu
theorem run_storeCells_atM (P : Program) (g o : Nat) (t : TypeId) (fz : Nat × Nat) : ∀ (vs : List Value) (i : Nat) (cur : Array Value) (w : World), w.heap[g]? = some (.cells cur t fz) → (fz.2 = 0 ∨ o + i + vs.length ≤ fz.1) → o + i + vs.length ≤ cur.size → (∀ v ∈ vs, v.oneCell' = true) →
    (storeCells ⟨g, o, none⟩ vs i).run P w = .ok () (w.setRow g (cur.toList.take (o + i) ++ vs ++ cur.toList.drop (o + i + vs.length)).toArray)
  | [], i, cur, w, hg, _, _, _ => by
    simp only [storeCells, List.append_nil, List.length_nil, Nat.add_zero, List.take_append_drop, Array.toArray_toList]
    rw [setRow_self w g cur t fz hg]
    rfl
  | v :: rest, i, cur, w, hg, hfz, hl, h1 => by
    have hi : o + i < cur.size := by simp at hl; omega
    have hadd : (⟨g, o, none⟩ : Addr).add i = ⟨g, o + i, none⟩ := by unfold Addr.add; split <;> simp_all
    have hcell : w.cell? ⟨g, o + i, none⟩ = some cur[o + i] := by simp [World.cell?, hg, hi]
    have hfro : w.frozen? ⟨g, o + i, none⟩ = false := by
      obtain ⟨lo, hi'⟩ := fz
      simp only [World.frozen?, hg, Bool.and_eq_false_iff, decide_eq_false_iff_not]
      simp only [List.length_cons] at hfz
      omega
    have hst : (store ((⟨g, o, none⟩ : Addr).add i) v).run P w = .ok () (w.setRow g (cur.setIfInBounds (o + i) v)) := by
      rw [hadd, run_store P w _ v _ (h1 v (by simp)), hcell]
      simp [hfro, setCell_eq_setRow w g (o + i) cur t fz v hg]
    have ih := run_storeCells_atM P g o t fz rest (i + 1) (cur.setIfInBounds (o + i) v) (w.setRow g (cur.setIfInBounds (o + i) v)) (setRow_heap w g cur _ t _ hg) (by simp only [List.length_cons] at hfz; omega) (by simp at hl ⊢; omega) (fun x hx => h1 x (by simp [hx]))
    simp only [storeCells, Sem.run_bind, hst, Result.andThen_ok, ih, setRow_setRow]
    congr 3
    have e := list_seg_step cur.toList (o + i) v rest (by simp at hl ⊢; omega)
    simpa [Array.toList_setIfInBounds, Nat.add_assoc] using e
theorem ownM_room {w : World} {base g cap n : Nat} {cur : Array Value} {fz : Nat × Nat} {xs ys : List UInt8} (hl : xs.length = n) (hb : base ≤ g) (hg : w.heap[g]? = some (.cells cur 5 fz)) (hfz : fz.2 = 0 ∨ cap ≤ fz.1) (hcm : cap ≤ maxLen) (hcs : cur.size = cap) (ht : cur.toList.take n = xs.map u8v) (hr : n + ys.length ≤ cap) :
    OwnM (w.setRow g (cur.toList.take n ++ ys.map u8v ++ cur.toList.drop (n + ys.length)).toArray) base (.slice (some ⟨g, 0, none⟩) (n + ys.length) cap) (n + ys.length) (xs ++ ys) := by
  refine ⟨by rw [List.length_append, hl], .inr ⟨g, cap, _, fz, rfl, hb, setRow_heap w g cur _ _ _ hg, hfz, hr, hcm, ?_, ?_⟩⟩
  · simp only [List.size_toArray, List.length_append, List.length_take, List.length_drop, Array.length_toList, List.length_map]
    omega
  · rw [ht, ← List.map_append]
    have : (List.map u8v (xs ++ ys)).length = n + ys.length := by rw [List.length_map, List.length_append, hl]
    exact List.take_left' this
theorem grown_setRow (w : World) (g : Nat) (cs : Array Value) : w.grownBy (w.setRow g cs) (some g) := ⟨rfl, rfl, rfl, by simp, fun k _ hk => setRow_other w g k _ (fun e => hk (by rw [e]))⟩
theorem run_appendM (w : World) (base : Nat) (ty : TypeId) {v : Value} {n m c : Nat} {xs ys : List UInt8} {y : Addr} (hown : OwnM w base v n xs) (hm : ys.length = m) (hc : ∀ j u, (ys.map u8v)[j]? = some u → w.cell? (y.add j) = some u) (hb : n + m ≤ 140737488355328) (hbase : base ≤ w.heap.size) :
    ∃ v' w', (Builtin.append_ #[28, 28] ty #[v, .slice (some y) m c]).run Try.prog w = .ok v' w' ∧ OwnM w' base v' (n + m) (xs ++ ys) ∧ w.grownBy w' v.ownBlock := by
  obtain ⟨i0, hi, hz, hsz, hb1⟩ := info_parts info_u8
  rcases hown.2 with ⟨rfl, rfl⟩ | ⟨g, cap, cur, fz, rfl, hbg, hg, hfz, hnc, hcm, hcs, htake⟩
  · have hx : xs = [] := List.length_eq_zero_iff.1 hown.1
    subst hx
    obtain ⟨v', w', h1, h2, h3, _⟩ := run_append_own (P := Try.prog) w base 28 ty 5 i0 _ 1 1 Try.underlying28 hi hz hsz hb1 rfl (by decide) (.slice none 0 0) 0 [] (World.ownsRow_nil w base _ 1) y m c (ys.map u8v) (by rw [List.length_map, hm, Nat.mul_one]) hc (one_u8 _) (by unfold maxLen; omega) (by omega) hbase
    exact ⟨v', w', h1, OwnM.of (by simpa using h2), h3⟩
  · by_cases hroom : n + m ≤ cap
    · subst hm
      have hf := run_firstCells_some (P := Try.prog) w 1 ys.length y ys.length c (ys.map u8v) (by rw [List.length_map, Nat.mul_one]) hc
      have hst := run_storeCells_atM Try.prog g n 5 fz (ys.map u8v) 0 cur w hg (by rw [List.length_map]; omega) (by rw [List.length_map]; omega) (one_u8 _)
      simp only [Nat.add_zero, List.length_map] at hst
      refine ⟨_, _, ?_, ownM_room hown.1 hbg hg hfz hcm hcs htake hroom, grown_setRow w g _⟩
      simp [Builtin.append_, run_underlying Try.underlying28, sizeOf, typeInfo, hi, hsz, Builtin.lenOf, hroom, hf, Addr.add_lit, hst]
    · obtain ⟨a', c', hv, _, _, _, hcl⟩ := hown.slice
      injection hv with hv _ _
      have holds : ∀ j u, (xs.map u8v)[j]? = some u → w.cell? ((⟨g, 0, none⟩ : Addr).add j) = some u := by
        rw [← hv] at hcl; exact news_cells hcl
      have hr := run_append_grow (P := Try.prog) w 28 ty 5 i0 _ Try.underlying28 hi hz ⟨g, 0, none⟩ n cap (xs.map u8v) (by rw [hsz, List.length_map, hown.1, Nat.mul_one]) holds y m c (ys.map u8v) (by rw [hsz, List.length_map, hm, Nat.mul_one]) hc (by omega) (by omega) (by rw [hb1]; exact growslice_fits (by omega) (by omega))
      have hge := grownCap_ge w (n + m) cap 5
      have hcm2 : grownCap w (n + m) cap 5 ≤ maxLen := grownCap_le_maxLen w (n + m) cap _ (by unfold maxLen; omega)
      refine ⟨_, _, hr, ⟨by rw [List.length_append, hown.1, hm], .inr ⟨w.heap.size, _, _, (0, 0), rfl, hbase, heap_alloc_new w.drew _, .inl rfl, hge, hcm2, ?_, ?_⟩⟩, ⟨rfl, rfl, rfl, by simp, fun k hk _ => ((Ext.refl w.drew).alloc _).block k hk⟩⟩
      · have hz1 : (Value.int IntKind.u8 0).cells.size = 1 := rfl
        simp only [Array.size_append, List.size_toArray, size_zeroCells, hz1, List.length_map, hown.1, hm]
        omega
      · simp only [Array.toList_append, List.append_assoc]
        rw [← List.append_assoc, ← List.map_append]
        exact List.take_left' (by rw [List.length_map, List.length_append, hown.1, hm])
theorem strCells_u8v (s : ByteArray) : Lib.strCells s = s.data.toList.map u8v := rfl
theorem run_appendMS (w : World) (base : Nat) (ty : TypeId) {v : Value} {n : Nat} {xs : List UInt8} (s : ByteArray) (hown : OwnM w base v n xs) (hb : n + s.size ≤ 140737488355328) (hbase : base ≤ w.heap.size) :
    ∃ v' w', (Builtin.append_ #[28, 9] ty #[v, .string s]).run Try.prog w = .ok v' w' ∧ OwnM w' base v' (n + s.size) (xs ++ s.data.toList) ∧ w.grownBy w' v.ownBlock := by
  obtain ⟨i0, hi, hz, hsz, hb1⟩ := info_parts info_u8
  have hsl : s.data.toList.length = s.size := by rw [Array.length_toList]; rfl
  rcases hown.2 with ⟨rfl, rfl⟩ | ⟨g, cap, cur, fz, rfl, hbg, hg, hfz, hnc, hcm, hcs, htake⟩
  · have hx : xs = [] := List.length_eq_zero_iff.1 hown.1
    subst hx
    obtain ⟨v', w', h1, h2, h3, _⟩ := Lib.run_append_own_string (P := Try.prog) w base 28 9 ty 5 i0 Try.underlying28 Try.underlying9 hi hz hsz hb1 (.slice none 0 0) 0 [] (World.ownsRow_nil w base _ 1) s (by unfold maxLen; omega) (by omega) hbase
    exact ⟨v', w', h1, OwnM.of (by simpa [strCells_u8v] using h2), h3⟩
  · by_cases hroom : n + s.size ≤ cap
    · have hf := Lib.run_firstCells_string (P := Try.prog) w 1 s
      have hst := run_storeCells_atM Try.prog g n 5 fz (Lib.strCells s) 0 cur w hg (by rw [Lib.strCells_length]; omega) (by rw [Lib.strCells_length]; omega) (Lib.strCells_oneCell s)
      simp only [Nat.add_zero, Lib.strCells_length] at hst
      have ho := ownM_room (ys := s.data.toList) hown.1 hbg hg hfz hcm hcs htake (by rw [hsl]; exact hroom)
      rw [hsl, ← strCells_u8v] at ho
      refine ⟨_, _, ?_, ho, grown_setRow w g _⟩
      simp [Builtin.append_, run_underlying Try.underlying28, run_underlying Try.underlying9, sizeOf, typeInfo, hi, hsz, Builtin.lenOf, hroom, hf, Addr.add_lit, hst]
    · obtain ⟨a', c', hv, _, _, _, hcl⟩ := hown.slice
      injection hv with hv _ _
      have holds : ∀ j u, (xs.map u8v)[j]? = some u → w.cell? ((⟨g, 0, none⟩ : Addr).add j) = some u := by
        rw [← hv] at hcl; exact news_cells hcl
      have hr := Lib.run_append_grow_string (P := Try.prog) w 28 9 ty 5 i0 _ Try.underlying28 Try.underlying9 hi hz ⟨g, 0, none⟩ n cap (xs.map u8v) (by rw [hsz, List.length_map, hown.1, Nat.mul_one]) holds s (by omega) (by omega) (by rw [hb1]; exact growslice_fits (by omega) (by omega))
      have hge := grownCap_ge w (n + s.size) cap 5
      have hcm2 : grownCap w (n + s.size) cap 5 ≤ maxLen := grownCap_le_maxLen w (n + s.size) cap _ (by unfold maxLen; omega)
      refine ⟨_, _, hr, ⟨by rw [List.length_append, hown.1, hsl], .inr ⟨w.heap.size, _, _, (0, 0), rfl, hbase, heap_alloc_new w.drew _, .inl rfl, hge, hcm2, ?_, ?_⟩⟩, ⟨rfl, rfl, rfl, by simp, fun k hk _ => ((Ext.refl w.drew).alloc _).block k hk⟩⟩
      · have hz1 : (Value.int IntKind.u8 0).cells.size = 1 := rfl
        simp only [Array.size_append, List.size_toArray, size_zeroCells, hz1, List.length_map, hown.1, Lib.strCells_length]
        omega
      · simp only [Array.toList_append, List.append_assoc]
        rw [← List.append_assoc, strCells_u8v, ← List.map_append]
        exact List.take_left' (by rw [List.length_map, List.length_append, hown.1, hsl])
theorem wpl_appendM {ops : Array Oper} {rest : List Oper} {o : Oper} {a : Act} {w : World} {Q : Exit → Act → World → Prop} (hgd : o.guard = none) (s x : Operand)
    (ho : o.op = .call { callee := .builtin .append, args := #[s, x], argTypes := #[28, 28] }) (base : Nat) {v : Value} {n m c : Nat} {xs ys : List UInt8} {y : Addr}
    (hs : a.eval s = v) (hx : a.eval x = .slice (some y) m c) (hown : OwnM w base v n xs) (hm : ys.length = m) (hc : ∀ j u, (ys.map u8v)[j]? = some u → w.cell? (y.add j) = some u)
    (hb : n + m ≤ 140737488355328) (hbase : base ≤ w.heap.size)
    (h : ∀ v' w', OwnM w' base v' (n + m) (xs ++ ys) → w.grownBy w' v.ownBlock → wpList Try.prog ops Q rest (a.put o.dst v') w') : wpList Try.prog ops Q (o :: rest) a w := by
  obtain ⟨v', w', hr, h1, h2⟩ := run_appendM w base o.type (c := c) hown hm hc hb hbase
  exact wpList_plain hgd fun K hK => Lib.wp_append_run w s x _ _ ho v _ hs hx v' w' hr (hK _ _ (h v' w' h1 h2))
theorem wpl_appendMS {ops : Array Oper} {rest : List Oper} {o : Oper} {a : Act} {w : World} {Q : Exit → Act → World → Prop} (hgd : o.guard = none) (sl x : Operand)
    (ho : o.op = .call { callee := .builtin .append, args := #[sl, x], argTypes := #[28, 9] }) (base : Nat) {v : Value} {n : Nat} {xs : List UInt8} {s : ByteArray}
    (hs : a.eval sl = v) (hx : a.eval x = .string s) (hown : OwnM w base v n xs)
    (hb : n + s.size ≤ 140737488355328) (hbase : base ≤ w.heap.size)
    (h : ∀ v' w', OwnM w' base v' (n + s.size) (xs ++ s.data.toList) → w.grownBy w' v.ownBlock → wpList Try.prog ops Q rest (a.put o.dst v') w') : wpList Try.prog ops Q (o :: rest) a w := by
  obtain ⟨v', w', hr, h1, h2⟩ := run_appendMS w base o.type s hown hb hbase
  exact wpList_plain hgd fun K hK => Lib.wp_append_run w sl x _ _ ho v _ hs hx v' w' hr (hK _ _ (h v' w' h1 h2))
/-- a string made octets is such a row -/
theorem ownM_bytes (w : World) (s : ByteArray) (c : Nat) (h : s.size ≤ c) (hc : c ≤ maxLen) (base : Nat) (hb : base ≤ w.heap.size) :
    OwnM (w.drew.alloc (.cells (bytesRow s c) 5 ((bytesRow s c).size, (bytesRow s c).size + 1))) base (.slice (some ⟨w.heap.size, 0, none⟩) s.size c) s.size s.data.toList := by
  have hsz : (bytesRow s c).size = c := by
    unfold bytesRow
    have : s.data.size = s.size := rfl
    simp; omega
  refine ⟨by rw [Array.length_toList]; rfl, .inr ⟨w.heap.size, c, bytesRow s c, _, rfl, hb, heap_alloc_new w.drew _, .inr (by rw [hsz]; exact Nat.le_refl _), h, hc, hsz, ?_⟩⟩
  apply List.ext_getElem?
  intro j
  by_cases hj : j < s.size
  · have hj' : j < s.data.size := hj
    rw [List.getElem?_take_of_lt hj, Array.getElem?_toList, bytesRow_at s c j hj', List.getElem?_map, Array.getElem?_toList, Array.getElem?_eq_getElem hj']
    rfl
  · have h1 : s.data.size ≤ j := Nat.le_of_not_lt hj
    rw [List.getElem?_eq_none (by rw [List.length_take]; omega), List.getElem?_eq_none (by rw [List.length_map, Array.length_toList]; exact h1)]
theorem run_appendMB (w : World) (base : Nat) (ty : TypeId) {v : Value} {n m c : Nat} {xs ys : List UInt8} {y : Addr} (hown : OwnM w base v n xs) (hm : ys.length = m) (hc : ∀ j u, (ys.map u8v)[j]? = some u → w.cell? (y.add j) = some u) (hb : n + m ≤ 140737488355328) (hbase : base ≤ w.heap.size) :
    ∃ v' w', (Builtin.append_ #[28, 28] ty #[v, .slice (some y) m c]).run Try.prog w = .ok v' w' ∧ OwnM w' base v' (n + m) (xs ++ ys) ∧ w.grownBy w' v.ownBlock ∧ (v'.ownBlock = v.ownBlock ∨ v'.ownBlock = some w.heap.size) := by
  obtain ⟨i0, hi, hz, hsz, hb1⟩ := info_parts info_u8
  obtain ⟨v', w', h1, h2, h3⟩ := run_appendM w base ty (c := c) hown hm hc hb hbase
  refine ⟨v', w', h1, h2, h3, ?_⟩
  rcases hown.2 with ⟨rfl, rfl⟩ | ⟨g, cap, cur, fz, rfl, hbg, hg, hfz, hnc, hcm, hcs, htake⟩
  · by_cases h0 : m = 0
    · obtain ⟨v2, w2, k1, _, _, k4⟩ := run_append_own (P := Try.prog) w base 28 ty 5 i0 _ 1 1 Try.underlying28 hi hz hsz hb1 rfl (by decide) (.slice none 0 0) 0 [] (World.ownsRow_nil w base _ 1) y m c (ys.map u8v) (by rw [List.length_map, hm, Nat.mul_one]) hc (one_u8 _) (by unfold maxLen; omega) (by omega) hbase
      have hv := k4.2 ⟨rfl, h0⟩
      exact .inl (ok_block k1 h1 (by rw [hv]))
    · have hr := run_append_nil (P := Try.prog) w 28 ty 5 i0 _ Try.underlying28 hi hz y m c (ys.map u8v) (by rw [hsz, List.length_map, hm, Nat.mul_one]) hc (by omega) (by omega) (by rw [hb1]; omega)
      exact .inr (ok_block hr h1 rfl)
  · by_cases hroom : n + m ≤ cap
    · subst hm
      have hf := run_firstCells_some (P := Try.prog) w 1 ys.length y ys.length c (ys.map u8v) (by rw [List.length_map, Nat.mul_one]) hc
      have hst := run_storeCells_atM Try.prog g n 5 fz (ys.map u8v) 0 cur w hg (by rw [List.length_map]; omega) (by rw [List.length_map]; omega) (one_u8 _)
      simp only [Nat.add_zero, List.length_map] at hst
      have hr : (Builtin.append_ #[28, 28] ty #[.slice (some ⟨g, 0, none⟩) n cap, .slice (some y) ys.length c]).run Try.prog w = .ok (.slice (some ⟨g, 0, none⟩) (n + ys.length) cap) (w.setRow g (cur.toList.take n ++ ys.map u8v ++ cur.toList.drop (n + ys.length)).toArray) := by
        simp [Builtin.append_, run_underlying Try.underlying28, sizeOf, typeInfo, hi, hsz, Builtin.lenOf, hroom, hf, Addr.add_lit, hst]
      exact .inl (ok_block hr h1 rfl)
    · obtain ⟨a', c', hv, _, _, _, hcl⟩ := hown.slice
      injection hv with hv _ _
      have holds : ∀ j u, (xs.map u8v)[j]? = some u → w.cell? ((⟨g, 0, none⟩ : Addr).add j) = some u := by
        rw [← hv] at hcl; exact news_cells hcl
      have hr := run_append_grow (P := Try.prog) w 28 ty 5 i0 _ Try.underlying28 hi hz ⟨g, 0, none⟩ n cap (xs.map u8v) (by rw [hsz, List.length_map, hown.1, Nat.mul_one]) holds y m c (ys.map u8v) (by rw [hsz, List.length_map, hm, Nat.mul_one]) hc (by omega) (by omega) (by rw [hb1]; exact growslice_fits (by omega) (by omega))
      exact .inr (ok_block hr h1 rfl)
theorem wpl_appendMB {ops : Array Oper} {rest : List Oper} {o : Oper} {a : Act} {w : World} {Q : Exit → Act → World → Prop} (hgd : o.guard = none) (s x : Operand)
    (ho : o.op = .call { callee := .builtin .append, args := #[s, x], argTypes := #[28, 28] }) (base : Nat) {v : Value} {n m c : Nat} {xs ys : List UInt8} {y : Addr}
    (hs : a.eval s = v) (hx : a.eval x = .slice (some y) m c) (hown : OwnM w base v n xs) (hm : ys.length = m) (hc : ∀ j u, (ys.map u8v)[j]? = some u → w.cell? (y.add j) = some u)
    (hb : n + m ≤ 140737488355328) (hbase : base ≤ w.heap.size)
    (h : ∀ v' w', OwnM w' base v' (n + m) (xs ++ ys) → w.grownBy w' v.ownBlock → (v'.ownBlock = v.ownBlock ∨ v'.ownBlock = some w.heap.size) → wpList Try.prog ops Q rest (a.put o.dst v') w') : wpList Try.prog ops Q (o :: rest) a w := by
  obtain ⟨v', w', hr, h1, h2, h3⟩ := run_appendMB w base o.type (c := c) hown hm hc hb hbase
  exact wpList_plain hgd fun K hK => Lib.wp_append_run w s x _ _ ho v _ hs hx v' w' hr (hK _ _ (h v' w' h1 h2 h3))
theorem OwnM.block_lt {w : World} {B : Nat} {v : Value} {n : Nat} {xs : List UInt8} (h : OwnM w B v n xs) : ∀ g, v.ownBlock = some g → g < w.heap.size := by
  intro g hg
  rcases h.2 with ⟨rfl, _⟩ | ⟨g', cap, cur, fz, rfl, hb, h3, _⟩
  · cases hg
  · simp [Value.ownBlock] at hg; subst hg; exact (Array.getElem?_eq_some_iff.1 h3).1
end

section
open Go Go.RowKit

set_option maxRecDepth 100000 in
set_option maxHeartbeats 2000000 in
theorem putTextM_c (l : List UInt8) (s : ByteArray) (v : Value) (n B : Nat) (w : World) (own : OwnM w B v n l) (hB : B ≤ w.heap.size) (hn : n + s.size + 1 ≤ 140737488355328) :
    Calls Try.prog 77 #[v, .string s] w fun e w' => ∃ v', e = .returned v' ∧ OwnM w' B v' (n + (s.size + 1)) (l ++ textL s) ∧ Below B w w' := by
  obtain ⟨o, ho⟩ : ∃ o : UInt8, UInt8.ofNat s.size = o := ⟨_, rfl⟩
  have hw := wrap_u8_nat s.size
  have htl : textL s = o :: s.data.toList := by unfold textL; rw [ho]
  rw [ho] at hw
  have HTL := hid htl
  clear htl ho
  obtain ⟨N, hN⟩ : ∃ N, s.size = N := ⟨_, rfl⟩
  have HN := hid hN
  rw [hN] at hw
  have zB : Blk (w.alloc (.cells #[.int .u8 o.toNat] 5)) w.heap.size (([o] : List UInt8).map u8v) 5 := Blk.mk_alloc rfl rfl
  have eB : Ext w (w.alloc (.cells #[.int .u8 o.toNat] 5)) := (Ext.refl w).alloc _
  have ZB := hid zB
  have O1 := hid (own.ext eB)
  have E1 := hid ((Below.refl B w).alloc hB (.cells #[.int .u8 o.toNat] 5))
  have hb1' : B ≤ (w.alloc (.cells #[.int .u8 o.toNat] 5)).heap.size := Nat.le_trans hB eB.size
  clear zB eB own
  go_enter Try.func77, Try.ntmps77
  go_wp2_with (first | (at_builtin; refine wpl_appendM rfl _ _ rfl B (ys := [o]) rfl rfl O1.out rfl (news_blk ZB.out) (by omega) hb1' ?_))
  intro v3 w3 own3 g3
  have O3 := hid own3
  have hv3 := O1.out.block_ge
  have E3 := hid (E1.out.grown g3 hb1' (by intro q hq; exact hv3 _ hq))
  have hb3 : B ≤ w3.heap.size := Nat.le_trans hb1' g3.size
  clear own3 g3 hv3 O1 E1 ZB
  go_wp2_with (first | (at_builtin; refine wpl_appendMS rfl _ _ rfl B rfl rfl O3.out (by omega) hb3 ?_))
  intro v4 w4 own4 g4
  have own4' : OwnM w4 B v4 (n + (N + 1)) (l ++ textL s) := by
    rw [HTL.out, show n + (N + 1) = n + 1 + N by omega]
    exact own4
  have hv4 := O3.out.block_ge
  have E4 := hid (E3.out.grown g4 hb3 (by intro q hq; exact hv4 _ hq))
  have O4 := hid own4'
  clear own4 own4' g4 hv4 O3 E3
  go_wp2_with fail
  go_ret
  exact ⟨v4, rfl, by rw [HN.out]; exact O4.out, E4.out⟩

theorem printL_snoc (sq : List Nat) (i : Nat) (x : BodyP) : printL (sq ++ [i]) x = printL sq x ++ fieldL i x := by unfold printL; simp
theorem wrap_octI (n : Int) : IntKind.u8.wrap n = ((octI n).toNat : Int) := by
  unfold octI
  rw [UInt8.toNat_ofNat']
  show n % 256 = _
  omega
theorem octI_nat (n : Nat) : octI (n : Int) = UInt8.ofNat n := by
  unfold octI
  apply UInt8.toNat_inj.1
  rw [UInt8.toNat_ofNat', UInt8.toNat_ofNat']
  omega
/-- the sizes of a body that is right -/
structure Small (b : BodyR) : Prop where
  t : b.text.size ≤ 32768
  rn : b.rn ≤ 16
  hn : b.hn ≤ 32
  rs : ∀ s ∈ b.roles, s.size ≤ 32
  l : b.label.size ≤ 32
  e : 0 ≤ b.epoch ∧ b.epoch ≤ 4294967295
  c : 0 ≤ b.count ∧ b.count ≤ 65536
/-- what holds of the world while a body is printed -/
structure PInv (w0 : World) (gn B : Nat) (bs : List Bool) (b : BodyR) (N : Nat) (sq : List Nat) (v : Value) (w : World) : Prop where
  body : Blk w w0.heap.size b.v 72
  needs : Blk w gn (bs.map .bool) 118
  own : OwnM w B v (printL sq b.p).length (printL sq b.p)
  len : (printL sq b.p).length ≤ N
  ext : Ext w0 w
  le : B ≤ w.heap.size
theorem Below.blkB {B : Nat} {w w' : World} {g : Nat} {vs : List Value} {T : TypeId} (h : Below B w w') (hg : g < B) (hb : Blk w g vs T) : Blk w' g vs T := by
  unfold Blk at *
  rw [h.block g hg]; exact hb
theorem PInv.next {w0 : World} {gn B : Nat} {bs : List Bool} {b : BodyR} {N M i : Nat} {sq : List Nat} {v v3 : Value} {w w3 : World} (h : PInv w0 gn B bs b N sq v w) (h0 : w0.heap.size < B) (hn : gn < B) (e : Below B w w3) {m : Nat} (own : OwnM w3 B v3 m (printL sq b.p ++ fieldL i b.p)) (hf : (fieldL i b.p).length ≤ M) : PInv w0 gn B bs b (N + M) (sq ++ [i]) v3 w3 where
  body := Below.blkB e h0 h.body
  needs := Below.blkB e hn h.needs
  own := by
    have hm := own.1
    rw [printL_snoc]; rw [hm]; exact own
  len := by
    have := h.len
    rw [printL_snoc, List.length_append]; omega
  ext := Below.trans h.ext (e.mono (by omega))
  le := Nat.le_trans h.le e.size
theorem PInv.skip {w0 : World} {gn B : Nat} {bs : List Bool} {b : BodyR} {N i M : Nat} {sq : List Nat} {v : Value} {w : World} (h : PInv w0 gn B bs b N sq v w) : PInv w0 gn B bs b (N + M) (sq ++ if (false = true) then [i] else []) v w := by
  rw [sq_false]
  exact ⟨h.body, h.needs, h.own, Nat.le_trans h.len (Nat.le_add_right _ _), h.ext, h.le⟩
theorem PInv.seq {w0 : World} {gn B : Nat} {bs : List Bool} {b : BodyR} {N : Nat} {sq sq2 : List Nat} {v : Value} {w : World} (h : PInv w0 gn B bs b N sq v w) (e : sq = sq2) : PInv w0 gn B bs b N sq2 v w := e ▸ h
end

section
open Go Go.RowKit

/-- the fields that an act does not need are zero -/
structure Zeros (b : BodyR) (act : Int) : Prop where
  t : needAt act 0 = false → b.text = ⟨#[]⟩
  m : needAt act 1 = false → b.member = List.replicate 16 0
  r : needAt act 2 = false → b.rn = 0
  l : needAt act 3 = false → b.label = ⟨#[]⟩
  c : needAt act 4 = false → b.commit = List.replicate 32 0
  e : needAt act 5 = false → b.epoch = 0
  p : needAt act 6 = false → b.purpose = 0
  a : needAt act 7 = false → b.reason = 0
  n : needAt act 8 = false → b.need = 0
  h : needAt act 9 = false → b.hn = 0
  v : needAt act 10 = false → b.version = 0
  k : needAt act 11 = false → b.count = 0
theorem empty_of {s : ByteArray} (h : s.toList.isEmpty = true) : s = ⟨#[]⟩ := by
  rw [List.isEmpty_iff, ByteArray.toList_eq] at h
  apply ByteArray.ext
  exact Array.toList_eq_nil_iff.1 h
theorem zeros_of {b : BodyR} {act : Int} (h : extraB b (needsL act) = false) : Zeros b act := by
  obtain ⟨b0, b1, b2, b3, b4, b5, b6, b7, b8, b9, b10, b11, hL⟩ := list12 (needsL_len act)
  rw [hL] at h
  simp only [extraB, BodyR.set, List.zip_cons_cons, List.zip_nil_right, List.any_cons, List.any_nil, Bool.or_false, Bool.or_eq_false_iff] at h
  obtain ⟨h0, h1, h2, h3, h4, h5, h6, h7, h8, h9, h10, h11⟩ := h
  have hat : ∀ i, needAt act i = [b0, b1, b2, b3, b4, b5, b6, b7, b8, b9, b10, b11].getD i false := fun i => by unfold needAt; rw [hL]
  refine ⟨fun q => ?_, fun q => ?_, fun q => ?_, fun q => ?_, fun q => ?_, fun q => ?_, fun q => ?_, fun q => ?_, fun q => ?_, fun q => ?_, fun q => ?_, fun q => ?_⟩ <;> rw [hat] at q <;> simp only [List.getD_cons_zero, List.getD_cons_succ] at q <;> subst q
  · exact empty_of (by simpa using h0)
  · simpa using h1
  · simpa using h2
  · exact empty_of (by simpa using h3)
  · simpa using h4
  · simpa using h5
  · simpa using h6
  · simpa using h7
  · simpa using h8
  · simpa using h9
  · simpa using h10
  · simpa using h11
theorem roles_names : ∀ (p : Option ByteArray) (ls : List ByteArray), rolesF p ls = 0 → ∀ s ∈ ls, isNameL s.data.toList = true
  | _, [], _, s, hs => by cases hs
  | p, x :: ls, h, s, hs => by
    rw [rolesF] at h
    cases hx : isNameL x.data.toList with
    | false => rw [hx] at h; simp at h
    | true =>
      rw [hx, if_pos rfl] at h
      split at h
      · rcases List.mem_cons.1 hs with rfl | hs
        · exact hx
        · exact roles_names _ ls h s hs
      · cases h
theorem name_size {s : ByteArray} (h : isNameL s.data.toList = true) : s.size ≤ 32 := by
  unfold isNameL at h
  simp only [Bool.and_eq_true, decide_eq_true_eq] at h
  have := h.2
  rw [Array.length_toList] at this
  exact this
structure Right (b : BodyR) (act : Int) : Prop where
  isa : lactB act = true
  zeros : Zeros b act
  t : b.text.size ≤ 32768
  rn : b.rn ≤ 16
  hn : b.hn ≤ 32
  roles : rolesE b.roles = 0
  label : needAt act 3 = true → isNameL b.label.data.toList = true
  range : rangeB act b = false
  rises : risHB b.holders = true
theorem right_of {b : BodyR} {act : Int} (h : bodyE act b = 0) : Right b act := by
  unfold bodyE at h
  split at h
  · cases h
  · rename_i h1
    split at h
    · cases h
    · rename_i h2
      split at h
      · cases h
      · rename_i h3
        split at h
        · rename_i h4
          rw [h] at h4; cases h4
        · rename_i h4
          split at h
          · cases h
          · rename_i h5
            split at h
            · cases h
            · rename_i h6
              split at h
              · cases h
              · rename_i h7
                simp only [Bool.or_eq_true, decide_eq_true_eq, not_or, Bool.not_eq_true', Bool.not_eq_true, Bool.not_eq_false, Bool.and_eq_true, not_and, bne_iff_ne, ne_eq, Decidable.not_not] at h1 h2 h3 h4 h5 h6 h7
                exact ⟨h1, zeros_of h2, by omega, by omega, by omega, h4, h5, h6, h7⟩
theorem Right.small {b : BodyR} {act : Int} (h : Right b act) : Small b := by
  have hr := h.range
  unfold rangeB at hr
  simp only [Bool.or_eq_false_iff, outB, decide_eq_false_iff_not, Bool.and_eq_false_imp] at hr
  refine ⟨h.t, h.rn, h.hn, fun s hs => name_size (roles_names none _ h.roles s hs), ?_, by omega, by omega⟩
  cases hn : needAt act 3 with
  | true => exact name_size (h.label hn)
  | false => rw [h.zeros.l hn]; decide
theorem wrap_u32_small {n : Int} (h : 0 ≤ n ∧ n ≤ 4294967295) : IntKind.u32.wrap n = ((UInt32.ofNat n.toNat).toNat : Int) := by
  rw [UInt32.toNat_ofNat']
  show n % 4294967296 = _
  omega
theorem longNat_small {n : Int} (h : 0 ≤ n ∧ n ≤ 65536) : longNat n = n.toNat := by unfold longNat; rw [if_neg (by omega)]
theorem flat_len {l : List (List UInt8)} {k : Nat} (h : ∀ x ∈ l, x.length ≤ k) : l.flatten.length ≤ l.length * k := by
  induction l with
  | nil => simp
  | cons a l ih =>
    have h1 := h a (by simp)
    have h2 := ih (fun x hx => h x (by simp [hx]))
    rw [List.flatten_cons, List.length_append, List.length_cons, Nat.add_mul, Nat.one_mul]; omega
theorem rolesL_len {b : BodyR} (h : Small b) (hl : b.roles.length = b.rn) : (rolesL b.roles).length ≤ 600 := by
  unfold rolesL
  rw [List.length_cons]
  have := flat_len (l := b.roles.map textL) (k := 33) (by
    intro x hx
    obtain ⟨s, hs, rfl⟩ := List.mem_map.1 hx
    rw [textL_len]
    have := h.rs s hs
    omega)
  rw [List.length_map, hl] at this
  have := h.rn
  omega
theorem roles_part {b : BodyR} (h : Small b) (k : Nat) (hk : k ≤ 16) : ((b.roles.take k).map textL).flatten.length ≤ 600 := by
  have := flat_len (l := (b.roles.take k).map textL) (k := 33) (by
    intro x hx
    obtain ⟨s, hs, rfl⟩ := List.mem_map.1 hx
    rw [textL_len]
    have := h.rs s (List.mem_of_mem_take hs)
    omega)
  rw [List.length_map, List.length_take] at this
  omega
theorem roles_step {ls : List ByteArray} {k : Nat} {x : ByteArray} (h : ls[k]? = some x) : ((ls.take (k + 1)).map textL).flatten = ((ls.take k).map textL).flatten ++ textL x := by
  rw [List.take_add_one, h]; simp
theorem holders_part {b : BodyR} (h16 : All16 b.holders) (k : Nat) (hk : k ≤ 32) : (b.holders.take k).flatten.length ≤ 600 := by
  have := flat_len (l := b.holders.take k) (k := 16) (fun x hx => by rw [h16 x (List.mem_of_mem_take hx)]; exact Nat.le_refl _)
  rw [List.length_take] at this
  omega
theorem holders_step {ls : List (List UInt8)} {k : Nat} {x : List UInt8} (h : ls[k]? = some x) : (ls.take (k + 1)).flatten = (ls.take k).flatten ++ x := by
  rw [List.take_add_one, h]; simp
theorem holdersL_len {b : BodyR} (h : Small b) (hl : b.holders.length = b.hn) (h16 : All16 b.holders) : (holdersL b.holders).length ≤ 600 := by
  unfold holdersL
  rw [List.length_cons]
  have := flat_len (l := b.holders) (k := 16) (fun x hx => by rw [h16 x hx]; exact Nat.le_refl _)
  rw [hl] at this
  have := h.hn
  omega
theorem printL_if (sq : List Nat) (q : Bool) (i : Nat) (x : BodyP) : printL (sq ++ if q = true then [i] else []) x = printL sq x ++ if q = true then fieldL i x else [] := by
  cases q with
  | true => simp only [if_true]; exact printL_snoc sq i x
  | false => simp
end
end Go.Proofs.Ytkcjdginoccgjaa
