/- Contracts and laws that the claim's row leans on (4 texts, joined): ledger.PrintBody; conditions: the body's memory. keyref1.uses; no condition. The reference's reader: take, one; what holds while a body is parsed; conditions: the sizes. keyref1.bodyForm; conditions: the body's memory. -/
import Derived.Test.YtkcjdginoccgjaaJ4
import Derived.Test.YtkcjdginoccgjaaB4
namespace Go.Proofs.Ytkcjdginoccgjaa
section
open Go Go.RowKit

def QS (b : BodyR) (q6 q7 q8 q10 : Bool) : List (Bool × Int) := [(q6, b.purpose), (q7, b.reason), (q8, b.need), (q10, b.version)]
def qcells (l : List (Bool × Int)) : List Value := (l.map fun p => [Value.bool p.1, .int .i64 p.2]).flatten
def qpiece (p : Bool × Int) : List UInt8 := if p.1 = true then [octI p.2] else []
theorem agg_q : AggT Try.prog 121 2 := ⟨⟨_, Try.underlying121, rfl⟩, by kernel_rfl⟩
theorem size_q : (Try.prog.info? 121).map (·.size) = some 2 := by kernel_rfl
theorem info_q : (Try.prog.info? 121).map (fun i => (i.zero, i.size, i.bytes)) = some (some (.agg #[.bool false, .int .i64 0]), 2, 16) := by kernel_rfl
theorem run_quads (b : BodyR) (q6 q7 q8 q10 : Bool) (w : World) : (Instr.buildSlice 122 4 #[(0, .agg #[.bool q6, .int .i64 b.purpose]), (1, .agg #[.bool q7, .int .i64 b.reason]), (2, .agg #[.bool q8, .int .i64 b.need]), (3, .agg #[.bool q10, .int .i64 b.version])]).run Try.prog w = .ok (.slice (some ⟨w.heap.size, 0, none⟩) 4 4) (w.alloc (.cells (qcells (QS b q6 q7 q8 q10)).toArray 121)) := by
  obtain ⟨i0, hi, hz, hsz, hb1⟩ := info_parts info_q
  refine run_buildSlice (P := Try.prog) w 122 121 4 _ (qcells (QS b q6 q7 q8 q10)).toArray i0 _ Try.underlying122 hi hz (by rw [hsz]; omega) (by rw [hsz]; omega) ?_
  have hf : ∀ cells : Array Value, cells.size = 8 → Instr.fill (fun i => some (i * 2, 2)) cells [(0, .agg #[.bool q6, .int .i64 b.purpose]), (1, .agg #[.bool q7, .int .i64 b.reason]), (2, .agg #[.bool q8, .int .i64 b.need]), (3, .agg #[.bool q10, .int .i64 b.version])] = some (qcells (QS b q6 q7 q8 q10)).toArray := by
    intro cells hc
    have h := Great.fill_whole (s := 2) (by omega) [.agg #[.bool q6, .int .i64 b.purpose], .agg #[.bool q7, .int .i64 b.reason], .agg #[.bool q8, .int .i64 b.need], .agg #[.bool q10, .int .i64 b.version]] cells (by intro v hv; simp only [List.mem_cons, List.not_mem_nil, or_false] at hv; rcases hv with rfl | rfl | rfl | rfl <;> rfl) (by simp [hc])
    simpa [Value.cells, qcells, QS] using h
  rw [hsz]
  exact hf _ (by simp [Builtin.zeroCells, Value.cells])
theorem qcells_at {l : List (Bool × Int)} {k : Nat} {p : Bool × Int} (h : l[k]? = some p) : ∀ j, j < 2 → (qcells l)[2 * k + j]? = ([Value.bool p.1, .int .i64 p.2] : List Value)[j]? := by
  intro j hj
  induction l generalizing k with
  | nil => cases h
  | cons a l ih =>
    have hc : qcells (a :: l) = [Value.bool a.1, .int .i64 a.2] ++ qcells l := rfl
    rw [hc]
    cases k with
    | zero =>
      cases h
      rw [List.getElem?_append_left (by simp; omega), Nat.mul_zero, Nat.zero_add]
    | succ k =>
      rw [List.getElem?_append_right (by simp; omega), show 2 * (k + 1) + j - [Value.bool a.1, .int .i64 a.2].length = 2 * k + j by simp; omega]
      exact ih (by simpa using h)

set_option maxRecDepth 100000 in
set_option maxHeartbeats 8000000 in
theorem lprintBody_c (act : Int) (b : BodyR) (w : World) (hr : b.Ok w) :
    Calls Try.prog 37 #[.int .i64 act, .agg b.v.toArray] w fun e w' => Ext w w' ∧ ((bodyE act b = 0 ∧ ∃ v, e = .returned (.tuple #[v, .int .i64 0]) ∧ OwnM w' w.heap.size v (printL (seqOf act) b.p).length (printL (seqOf act) b.p)) ∨ (bodyE act b ≠ 0 ∧ e = .returned (.tuple #[.slice none 0 0, .int .i64 (bodyE act b)]))) := by
  have HR := hid hr
  clear hr
  have hbf := hid (bodyFault_c act b)
  have hno := needsOf_c act
  unfold needsV at hno
  obtain ⟨q0, q1, q2, q3, q4, q5, q6, q7, q8, q9, q10, q11, hL⟩ := list12 (needsL_len act)
  rw [hL] at hno
  have hno := hid hno
  have hat : ∀ i, needAt act i = [q0, q1, q2, q3, q4, q5, q6, q7, q8, q9, q10, q11].getD i false := fun i => by unfold needAt; rw [hL]
  have HAT := hid hat
  clear hL hat
  go_enter Try.func37, Try.ntmps37
  go_upto_region 1 with (fail)
  generalize hwA : World.alloc w _ = wA
  have bA : Blk wA w.heap.size b.v 72 := by rw [← hwA]; exact Blk.mk_alloc rfl rfl
  have eA : Ext w wA := by rw [← hwA]; exact (Ext.refl w).alloc _
  have BA := hid bA
  have EA := hid eA
  have HLEN := hid (BodyR.len HR.out)
  clear hwA bA eA
  go_wp2_with (refine wpl_loadw rfl 72 (.tmp 3) rfl rfl BA.out agg_body HLEN.out ?_)
  refine (hbf.out wA (HR.out.ext EA.out)).mono ?_
  rintro e w2 ⟨rfl, e2⟩
  have BB := hid (BA.out.ext e2)
  have EB := hid (EA.out.ext e2)
  clear e2 BA EA hbf
  by_cases hE : bodyE act b = 0
  rotate_left
  · obtain ⟨E, hEE⟩ : ∃ E, bodyE act b = E := ⟨_, rfl⟩
    rw [hEE] at hE ⊢
    have d1 : (E != 0) = true := by simpa using hE
    have HE := hid hE
    have HEE := hid hEE
    clear hEE hE
    go_wp2_with fail
    go_ret2
    exact ⟨EB.out, .inr ⟨by rw [HEE.out]; exact HE.out, by rw [HEE.out]; rfl⟩⟩
  have RG := hid (right_of hE)
  have SM := hid (right_of hE).small
  have HE := hid hE
  rw [hE]
  clear hE
  go_wp2_with fail
  refine (hno.out w2).mono ?_
  rintro e w3 ⟨rfl, e3⟩
  have BC := hid (BB.out.ext e3)
  have EC := hid (EB.out.ext e3)
  clear e3 BB EB hno
  go_upto_region 5 with (fail)
  generalize hwD : World.alloc w3 _ = wD
  obtain ⟨gn, hgn⟩ : ∃ gn, w3.heap.size = gn := ⟨_, rfl⟩
  have nD : Blk wD gn ([q0, q1, q2, q3, q4, q5, q6, q7, q8, q9, q10, q11].map .bool) 118 := by rw [← hwD, ← hgn]; exact Blk.mk_alloc rfl rfl
  have eD : Ext w3 wD := by rw [← hwD]; exact (Ext.refl w3).alloc _
  have hsD : wD.heap.size = gn + 1 := by rw [← hwD, size_alloc, hgn]
  have h0n : w.heap.size < gn := by rw [← hgn]; exact BC.out.lt
  rw [hgn]
  have BD := hid (BC.out.ext eD)
  have ED := hid (EC.out.ext eD)
  have ND := hid nD
  have HSD := hid hsD
  clear hwD hgn nD eD BC EC hsD
  have k0 := BD.out.cell' (BodyR.at0 b)
  go_upto_region 6 with (refine wpl_stepA rfl (exec_toBytes rfl rfl _) ?_)
  generalize hwF : World.drew (World.alloc wD _) = wF
  have oF : OwnM wF (gn + 1) (.slice (some ⟨wD.heap.size, 0, none⟩) b.text.size (grownCap wD b.text.size 0 5)) b.text.size b.text.data.toList := by
    rw [← hwF]
    refine ownM_bytes wD b.text _ (grownCap_ge _ _ _ _) (grownCap_le_maxLen _ _ _ _ ?_) (gn + 1) (by rw [HSD.out]; exact Nat.le_refl _)
    have := SM.out.t; unfold maxLen; omega
  have eF : Ext wD wF := by rw [← hwF]; exact (Ext.refl wD).drew.alloc _
  generalize (Value.slice (some ⟨wD.heap.size, 0, none⟩) b.text.size (grownCap wD b.text.size 0 5)) = v0 at oF ⊢
  have hp0 : printL ([] ++ if q0 = true then [0] else []) b.p = b.text.data.toList := by
    cases hq : q0 with
    | true => unfold printL; simp [fieldL, BodyR.p]
    | false => rw [RG.out.zeros.t (by rw [HAT.out]; simpa using hq)]; rfl
  have I0 : PInv w gn (gn + 1) [q0, q1, q2, q3, q4, q5, q6, q7, q8, q9, q10, q11] b 32768 ([] ++ if q0 = true then [0] else []) v0 wF := by
    have hl : b.text.data.toList.length = b.text.size := by rw [Array.length_toList]; rfl
    exact ⟨BD.out.ext eF, ND.out.ext eF, by rw [hp0, hl]; exact oF, by rw [hp0, hl]; exact SM.out.t, ED.out.ext eF, by rw [← HSD.out]; exact eF.size⟩
  clear hwF oF eF hp0 BD ED ND HSD k0
  have h0B : w.heap.size < gn + 1 := by omega
  have hnB : gn < gn + 1 := by omega
  have N1 := I0.needs.cell' (i := 1) (v := .bool q1) rfl
  go_upto_if 27 with (fail)
  clear N1
  go_cut [8] (fun v wx => PInv w gn (gn + 1) [q0, q1, q2, q3, q4, q5, q6, q7, q8, q9, q10, q11] b 32784 (([] ++ if q0 = true then [0] else []) ++ if q1 = true then [1] else []) v wx)
  case first =>
    cases q1 with
    | false =>
      go_wp2_with fail
      go_meet
      exact I0.skip (M := 16)
    | true =>
      have hle := I0.le
      have own0 := I0.own
      have hln := I0.len
      obtain ⟨LL, hLL⟩ : ∃ LL, printL ([] ++ if q0 = true then [0] else []) b.p = LL := ⟨_, rfl⟩
      rw [hLL] at own0 hln
      have HLL := hid hLL
      have OWN := hid own0
      clear hLL own0
      have HCE := hid (BodyR.memb (HR.out.ext I0.ext) I0.body)
      have HML := hid HR.out.hm
      go_wp2_with (at_builtin; refine wpl_appendM rfl _ _ rfl (gn + 1) (ys := b.member) rfl rfl OWN.out HML.out HCE.out (by omega) hle ?_)
      intro v3 w3 own3 g3
      have e3 : Below (gn + 1) wF w3 := (Below.refl _ _).grown g3 hle OWN.out.block_ge
      rw [← HLL.out] at own3
      go_wp2_with fail
      go_meet
      exact (I0.next (i := 1) (M := 16) h0B hnB e3 own3 (by show b.member.length ≤ _; rw [HML.out]; decide)).seq (sq_true _ _).symm
  case rest =>
  have I1 := hcut
  obtain ⟨x1, y1, hv⟩ : ∃ x1 y1, u8 = x1 ∧ wc = y1 := ⟨_, _, rfl, rfl⟩
  rw [hv.1, hv.2] at I1 ⊢
  clear hcut hv I0
  have N2 := I1.needs.cell' (i := 2) (v := .bool q2) rfl
  go_upto_if 33 with (fail)
  clear N2
  go_cut [8] (fun v wx => PInv w gn (gn + 1) [q0, q1, q2, q3, q4, q5, q6, q7, q8, q9, q10, q11] b 33384 ((([] ++ if q0 = true then [0] else []) ++ if q1 = true then [1] else []) ++ if q2 = true then [2] else []) v wx)
  case first =>
    cases q2 with
    | false =>
      go_wp2_with fail
      go_meet
      exact I1.skip (M := 600)
    | true =>
      have hle := I1.le
      have own0 := I1.own
      have hln := I1.len
      obtain ⟨LL, hLL⟩ : ∃ LL, printL (([] ++ if q0 = true then [0] else []) ++ if q1 = true then [1] else []) b.p = LL := ⟨_, rfl⟩
      rw [hLL] at own0 hln
      have HLL := hid hLL
      have OWN := hid own0
      clear hLL own0
      have c17 := I1.body.cell' (BodyR.at17 (HR.out.ext I1.ext))
      have hrn := SM.out.rn
      have hrl := HR.out.rl
      have hwn : IntKind.u8.wrap (b.rn : Int) = ((octI (b.rn : Int)).toNat : Int) := wrap_octI _
      obtain ⟨oc, hoc⟩ : ∃ oc, octI (b.rn : Int) = oc := ⟨_, rfl⟩
      rw [hoc] at hwn
      have HOC := hid hoc
      have HRL := hid hrl
      clear hoc hrl
      go_upto_region 9 with (fail)
      go_wp2_with (first | (at_builtin; refine wpl_appendM rfl _ _ rfl (gn + 1) (ys := [oc]) rfl rfl (OWN.out.ext ((Ext.refl _).alloc _)) rfl (news_blk (Blk.mk_alloc rfl rfl)) (by omega) (Nat.le_trans hle (by rw [size_alloc]; exact Nat.le_succ _)) ?_))
      intro v3 w3 own3 g3
      have e3 : Below (gn + 1) y1 w3 := ((Below.refl _ _).alloc hle _).grown g3 (Nat.le_trans hle (by rw [size_alloc]; exact Nat.le_succ _)) OWN.out.block_ge
      have hle3 : gn + 1 ≤ w3.heap.size := Nat.le_trans hle e3.size
      have O3 := hid own3
      have E3 := hid e3
      have RC := hid ((HR.out.ext I1.ext).rcell)
      have c17b := (Below.blkB e3 h0B I1.body).cell' (BodyR.at17 (HR.out.ext I1.ext))
      clear own3 g3 e3 c17 hwn
      go_wp2_with fail
      go_loopw [8, 44] (fun v i wr => ∃ k : Nat, k ≤ b.rn ∧ i = .int .i64 (k : Int) ∧ OwnM wr (gn + 1) v (LL.length + 1 + ((b.roles.take k).map textL).flatten.length) ((LL ++ [oc]) ++ ((b.roles.take k).map textL).flatten) ∧ Below (gn + 1) y1 wr) (fun _ i _ => b.rn - (intOf i).toNat)
      case atStart => exact ⟨0, by omega, rfl, by simpa using O3.out, E3.out⟩
      case round =>
        obtain ⟨k, hk, rfl, own4, e4⟩ := hrel
        have ew : Ext w wr := Below.trans I1.ext (e4.mono (by omega))
        have hlen4 := roles_part SM.out k (by omega)
        by_cases hlt : k < b.rn
        · have d1 : decide ((k : Int) < (b.rn : Int)) = true := decide_eq_true (by omega)
          have d2 : decide (k < b.rn) = true := decide_eq_true hlt
          have HRL2 := HRL.out
          obtain ⟨x, hxk⟩ : ∃ x, b.roles[k]? = some x := ⟨b.roles[k]'(by omega), List.getElem?_eq_getElem _⟩
          obtain ⟨A, hA, hcx⟩ := strs_at (HR.out.rcell.ext ew) hxk
          have HCX := hid hcx
          have HA := hid hA
          have hxs := SM.out.rs x (List.mem_of_getElem? hxk)
          have HST := hid (roles_step hxk)
          obtain ⟨P, hP⟩ : ∃ P, ((b.roles.take k).map textL).flatten = P := ⟨_, rfl⟩
          rw [hP] at own4 hlen4 HST
          have O4 := hid own4
          have E4 := hid e4
          have hle4 : gn + 1 ≤ wr.heap.size := Nat.le_trans hle e4.size
          clear hcx hA hxk hP own4 e4 HRL2 c17b
          go_wp2_with (first | (refine wpg_run rfl (exec_index (p := A) (i := k) rfl (by show Value.slice b.ra b.rn b.rc = _; rw [HA.out]) rfl Try.underlying69 size_str hlt _) ?_) | (refine wpg_run rfl (exec_load_oneU rfl rfl HCX.out one_str) ?_))
          refine (putTextM_c _ x _ _ (gn + 1) wr O4.out hle4 (by omega)).mono ?_
          rintro e w5 ⟨v5, rfl, own5, e5⟩
          have O5 := hid own5
          have E5 := hid (Below.trans E4.out e5)
          clear own5 e5 O4 E4
          go_wp2_with fail
          go_roundw
          case rel => exact ⟨k + 1, by omega, by go_num, by rw [HST.out, List.length_append, textL_len, ← List.append_assoc]; have h9 := O5.out; have h8 := h9.1; rw [show LL.length + 1 + (P.length + (x.size + 1)) = LL.length + 1 + P.length + (x.size + 1) by omega]; exact h9, E5.out⟩
          case measure => simp [intOf]; omega
        · have d1 : decide ((k : Int) < (b.rn : Int)) = false := decide_eq_false (by omega)
          have d2 : decide (k < b.rn) = false := decide_eq_false hlt
          have htk : b.roles.take k = b.roles := List.take_of_length_le (by rw [HRL.out]; omega)
          rw [htk] at own4
          have hfl : (LL ++ [oc]) ++ (b.roles.map textL).flatten = printL (([] ++ if q0 = true then [0] else []) ++ if q1 = true then [1] else []) b.p ++ fieldL 2 b.p := by
            rw [HLL.out, ← HOC.out, octI_nat, ← HRL.out]
            show _ = LL ++ rolesL b.roles
            unfold rolesL; simp
          rw [hfl] at own4
          have O4 := hid own4
          have E4 := hid e4
          clear own4 e4 hfl htk c17b
          go_wp2_with fail
          go_meet
          exact (I1.next (i := 2) (M := 600) h0B hnB E4.out O4.out (rolesL_len SM.out HRL.out)).seq (sq_true _ _).symm
  case rest =>
  have I2 := hcut
  obtain ⟨x2, y2, hv⟩ : ∃ x2 y2, u8 = x2 ∧ wc = y2 := ⟨_, _, rfl, rfl⟩
  rw [hv.1, hv.2] at I2 ⊢
  clear hcut hv I1
  have N3 := I2.needs.cell' (i := 3) (v := .bool q3) rfl
  go_upto_if 53 with (fail)
  clear N3
  go_cut [8] (fun v wx => PInv w gn (gn + 1) [q0, q1, q2, q3, q4, q5, q6, q7, q8, q9, q10, q11] b 33417 (((([] ++ if q0 = true then [0] else []) ++ if q1 = true then [1] else []) ++ if q2 = true then [2] else []) ++ if q3 = true then [3] else []) v wx)
  case first =>
    cases q3 with
    | false =>
      go_wp2_with fail
      go_meet
      exact I2.skip (M := 33)
    | true =>
      have hle := I2.le
      have hln := I2.len
      have hsl := SM.out.l
      have k18 := I2.body.cell' (BodyR.at18 (HR.out.ext I2.ext))
      go_wp2_with fail
      refine (putTextM_c _ b.label x2 _ (gn + 1) y2 I2.own hle (by omega)).mono ?_
      rintro e w3 ⟨v3, rfl, own3, e3⟩
      go_wp2_with fail
      go_meet
      exact (I2.next (i := 3) (M := 33) h0B hnB e3 own3 (by show (textL b.label).length ≤ _; rw [textL_len]; omega)).seq (sq_true _ _).symm
  case rest =>
  have I3 := hcut
  obtain ⟨x3, y3, hv⟩ : ∃ x3 y3, u8 = x3 ∧ wc = y3 := ⟨_, _, rfl, rfl⟩
  rw [hv.1, hv.2] at I3 ⊢
  clear hcut hv I2
  have c6 := I3.needs.cell' (i := 6) (v := .bool q6) rfl
  have c7 := I3.needs.cell' (i := 7) (v := .bool q7) rfl
  have c8 := I3.needs.cell' (i := 8) (v := .bool q8) rfl
  have c10 := I3.needs.cell' (i := 10) (v := .bool q10) rfl
  have p52 := I3.body.cell' (BodyR.at52 (HR.out.ext I3.ext))
  have p53 := I3.body.cell' (BodyR.at53 (HR.out.ext I3.ext))
  have p54 := I3.body.cell' (BodyR.at54 (HR.out.ext I3.ext))
  have p55 := I3.body.cell' (BodyR.at55 (HR.out.ext I3.ext))
  have hrq := run_quads b q6 q7 q8 q10
  go_upto_block 2 with (fail)
  generalize hwG : World.alloc y3 _ = wG
  have qG : Blk wG y3.heap.size (qcells (QS b q6 q7 q8 q10)) 121 := by rw [← hwG]; exact Blk.mk_alloc rfl rfl
  have eG : Ext y3 wG := by rw [← hwG]; exact (Ext.refl _).alloc _
  have hblt := I3.own.block_lt
  obtain ⟨qg, hqg⟩ : ∃ qg, y3.heap.size = qg := ⟨_, rfl⟩
  have hleq : gn + 1 ≤ qg := by rw [← hqg]; exact I3.le
  have hql := qG.lt
  have hlq : (QS b q6 q7 q8 q10).length = 4 := rfl
  rw [hqg] at qG hblt hql ⊢
  have JG : PInv w gn (gn + 1) [q0, q1, q2, q3, q4, q5, q6, q7, q8, q9, q10, q11] b 33417 (((([] ++ if q0 = true then [0] else []) ++ if q1 = true then [1] else []) ++ if q2 = true then [2] else []) ++ if q3 = true then [3] else []) x3 wG := ⟨I3.body.ext eG, I3.needs.ext eG, I3.own.ext eG, I3.len, I3.ext.ext eG, Nat.le_trans I3.le eG.size⟩
  have hvq : x3.ownBlock ≠ some qg := fun h => Nat.lt_irrefl _ (hblt _ h)
  have QG := hid qG
  clear hwG eG c6 c7 c8 c10 p52 p53 p54 p55 hrq hqg hblt qG I3
  go_cut [8] (fun v wx => PInv w gn (gn + 1) [q0, q1, q2, q3, q4, q5, q6, q7, q8, q9, q10, q11] b 33421 (((((((([] ++ if q0 = true then [0] else []) ++ if q1 = true then [1] else []) ++ if q2 = true then [2] else []) ++ if q3 = true then [3] else []) ++ if q6 = true then [6] else []) ++ if q7 = true then [7] else []) ++ if q8 = true then [8] else []) ++ if q10 = true then [10] else []) v wx)
  case first =>
    have hln := JG.len
    have own0 := JG.own
    have hle := JG.le
    obtain ⟨LL, hLL⟩ : ∃ LL, printL (((([] ++ if q0 = true then [0] else []) ++ if q1 = true then [1] else []) ++ if q2 = true then [2] else []) ++ if q3 = true then [3] else []) b.p = LL := ⟨_, rfl⟩
    rw [hLL] at own0 hln
    have HLL := hid hLL
    have OWN := hid own0
    obtain ⟨qs, hqs⟩ : ∃ qs, QS b q6 q7 q8 q10 = qs := ⟨_, rfl⟩
    rw [hqs] at QG hlq
    have HQS := hid hqs
    have HLQ := hid hlq
    clear hLL own0 hqs hlq
    go_wp2_with fail
    go_loopw [8, 80] (fun v i wr => ∃ k : Nat, k ≤ 4 ∧ i = .int .i64 (k : Int) ∧ OwnM wr (gn + 1) v (LL ++ ((qs.take k).map qpiece).flatten).length (LL ++ ((qs.take k).map qpiece).flatten) ∧ ((qs.take k).map qpiece).flatten.length ≤ k ∧ v.ownBlock ≠ some qg ∧ Blk wr qg (qcells qs) 121 ∧ Below (gn + 1) wG wr) (fun _ i _ => 4 - (intOf i).toNat)
    case atStart => exact ⟨0, by omega, rfl, by simpa using OWN.out, by simp, hvq, QG.out, Below.refl _ _⟩
    case round =>
      obtain ⟨k, hk, rfl, own4, hfl, hv4, q4, e4⟩ := hrel
      by_cases hlt : k < 4
      · have d1 : decide ((k : Int) < (4 : Int)) = true := decide_eq_true (by omega)
        have d2 : decide (k < 4) = true := decide_eq_true hlt
        have HLQ2 := HLQ.out
        obtain ⟨p, hpk⟩ : ∃ p, qs[k]? = some p := ⟨qs[k]'(by omega), List.getElem?_eq_getElem _⟩
        have hcp : CellsAt wr ((⟨qg, 0, none⟩ : Addr).add (k * 2)) [Value.bool p.1, .int .i64 p.2] := by
          intro j u hu
          have hj : j < 2 := (List.getElem?_eq_some_iff.1 hu).1
          rw [addr_add, addr_add]
          refine q4.cell' ?_
          rw [show 0 + k * 2 + j = 2 * k + j by omega, qcells_at hpk j hj]; exact hu
        have hst : ((qs.take (k + 1)).map qpiece).flatten = ((qs.take k).map qpiece).flatten ++ qpiece p := by rw [List.take_add_one, hpk]; simp
        obtain ⟨P, hP⟩ : ∃ P, ((qs.take k).map qpiece).flatten = P := ⟨_, rfl⟩
        rw [hP] at own4 hfl hst
        have HCP := hid hcp
        have HST := hid hst
        have O4 := hid own4
        have Q4 := hid q4
        have E4 := hid e4
        have hle4 : gn + 1 ≤ wr.heap.size := Nat.le_trans hle e4.size
        have hq4 := q4.lt
        obtain ⟨pb, pn⟩ := p
        simp only at HCP
        clear hcp hst hpk hP own4 q4 e4 HLQ2
        cases pb with
        | false =>
          go_wp2_with (first | (refine wpl_run rfl (exec_index (i := k) rfl rfl rfl Try.underlying122 size_q hlt _) ?_) | (refine wpl_run rfl (exec_load_at rfl rfl HCP.out agg_q rfl) ?_))
          go_roundw
          case rel =>
            have eN : Ext wr _ := (Ext.refl wr).alloc (.cells #[.bool false, .int .i64 pn] 121)
            exact ⟨k + 1, by omega, by go_num, by rw [HST.out]; simpa [qpiece] using O4.out.ext eN, by rw [HST.out]; simp [qpiece]; omega, hv4, Q4.out.ext eN, Below.trans E4.out (eN.mono hle4)⟩
          case measure => simp [intOf]; omega
        | true =>
          have hwo := wrap_octI pn
          obtain ⟨oc, hoc⟩ : ∃ oc, octI pn = oc := ⟨_, rfl⟩
          rw [hoc] at hwo
          have HOC := hid hoc
          clear hoc
          have hlz : (LL ++ P).length ≤ 40000 := by rw [List.length_append]; omega
          have O5 := hid ((O4.out.ext ((Ext.refl wr).alloc (.cells #[.bool true, .int .i64 pn] 121))).ext ((Ext.refl _).alloc (.cells #[.int .u8 oc.toNat] 5)))
          have E5 := hid (((Below.refl (gn + 1) wr).alloc hle4 (.cells #[.bool true, .int .i64 pn] 121)).alloc (Nat.le_trans hle4 (by rw [size_alloc]; exact Nat.le_succ _)) (.cells #[.int .u8 oc.toNat] 5))
          have hle5 := Nat.le_trans hle4 E5.out.size
          obtain ⟨LP, hLP⟩ : ∃ LP, LL ++ P = LP := ⟨_, rfl⟩
          rw [hLP] at O5 hlz
          have HLP := hid hLP
          clear hLP
          go_wp2_with (first | (refine wpl_run rfl (exec_index (i := k) rfl rfl rfl Try.underlying122 size_q hlt _) ?_) | (refine wpl_run rfl (exec_load_at rfl rfl HCP.out agg_q rfl) ?_) | (at_builtin; refine wpl_appendMB rfl _ _ rfl (gn + 1) (ys := [oc]) rfl rfl O5.out rfl (news_blk (Blk.mk_alloc (size_alloc _ _).symm rfl)) (by omega) hle5 ?_))
          intro v6 w6 own6 g6 b6
          have hge5 := O5.out.block_ge
          have q6' : Blk w6 qg (qcells qs) 121 := (((Q4.out.ext ((Ext.refl wr).alloc _)).ext ((Ext.refl _).alloc _)).grown g6 (fun h => hv4 h.symm))
          have e6 := E5.out.grown g6 hle5 hge5
          have hv6 : v6.ownBlock ≠ some qg := by
            rcases b6 with h | h
            · rw [h]; exact hv4
            · rw [h]; intro h2; injection h2 with h2; (try rw [size_alloc, size_alloc] at h2); omega
          have O6 := hid own6
          have Q6 := hid q6'
          have E6 := hid (Below.trans E4.out e6)
          clear own6 g6 b6 hge5 q6' e6 O4 Q4 E4 O5 E5
          go_wp2_with fail
          go_roundw
          case rel => exact ⟨k + 1, by omega, by go_num, by rw [HST.out]; have h9 := O6.out; rw [← HLP.out, ← HOC.out] at h9; have h8 := h9.1; simp only [qpiece, if_true]; rw [← List.append_assoc, h8]; exact h9, by rw [HST.out]; simp [qpiece]; omega, hv6, Q6.out, E6.out⟩
          case measure => simp [intOf]; omega
      · have d1 : decide ((k : Int) < (4 : Int)) = false := decide_eq_false (by omega)
        have d2 : decide (k < 4) = false := decide_eq_false hlt
        have htk : qs.take k = qs := List.take_of_length_le (by rw [HLQ.out]; omega)
        rw [htk] at own4 hfl
        have hfin : LL ++ (qs.map qpiece).flatten = printL (((((((([] ++ if q0 = true then [0] else []) ++ if q1 = true then [1] else []) ++ if q2 = true then [2] else []) ++ if q3 = true then [3] else []) ++ if q6 = true then [6] else []) ++ if q7 = true then [7] else []) ++ if q8 = true then [8] else []) ++ if q10 = true then [10] else []) b.p := by
          rw [printL_if, printL_if, printL_if, printL_if, HLL.out, ← HQS.out]
          simp only [QS, qpiece, List.map_cons, List.map_nil, List.flatten_cons, List.flatten_nil, List.append_nil, List.append_assoc]
          rfl
        have hln4 : (LL ++ (qs.map qpiece).flatten).length ≤ 33421 := by rw [List.length_append]; omega
        rw [hfin] at own4 hln4
        have O4 := hid own4
        have E4 := hid e4
        clear own4 e4 q4 htk hfin
        go_wp2_with fail
        go_meet
        exact ⟨Below.blkB E4.out h0B JG.body, Below.blkB E4.out hnB JG.needs, O4.out, hln4, Below.trans JG.ext (E4.out.mono (by omega)), Nat.le_trans hle E4.out.size⟩
  case rest =>
  have I4 := hcut
  obtain ⟨x4, y4, hv⟩ : ∃ x4 y4, u8 = x4 ∧ wc = y4 := ⟨_, _, rfl, rfl⟩
  rw [hv.1, hv.2] at I4 ⊢
  clear hcut hv JG QG hvq hql hlq hleq
  have N9 := I4.needs.cell' (i := 9) (v := .bool q9) rfl
  go_upto_if 94 with (fail)
  clear N9
  go_cut [8] (fun v wx => PInv w gn (gn + 1) [q0, q1, q2, q3, q4, q5, q6, q7, q8, q9, q10, q11] b 34021 ((((((((([] ++ if q0 = true then [0] else []) ++ if q1 = true then [1] else []) ++ if q2 = true then [2] else []) ++ if q3 = true then [3] else []) ++ if q6 = true then [6] else []) ++ if q7 = true then [7] else []) ++ if q8 = true then [8] else []) ++ if q10 = true then [10] else []) ++ if q9 = true then [9] else []) v wx)
  case first =>
    cases q9 with
    | false =>
      go_wp2_with fail
      go_meet
      exact I4.skip (M := 600)
    | true =>
      have hle := I4.le
      have own0 := I4.own
      have hln := I4.len
      obtain ⟨LL, hLL⟩ : ∃ LL, printL (((((((([] ++ if q0 = true then [0] else []) ++ if q1 = true then [1] else []) ++ if q2 = true then [2] else []) ++ if q3 = true then [3] else []) ++ if q6 = true then [6] else []) ++ if q7 = true then [7] else []) ++ if q8 = true then [8] else []) ++ if q10 = true then [10] else []) b.p = LL := ⟨_, rfl⟩
      rw [hLL] at own0 hln
      have HLL := hid hLL
      have OWN := hid own0
      clear hLL own0
      have c57 := I4.body.cell' (BodyR.at57 (HR.out.ext I4.ext))
      have hrn := SM.out.hn
      have hwn : IntKind.u8.wrap (b.hn : Int) = ((octI (b.hn : Int)).toNat : Int) := wrap_octI _
      obtain ⟨oc, hoc⟩ : ∃ oc, octI (b.hn : Int) = oc := ⟨_, rfl⟩
      rw [hoc] at hwn
      have HOC := hid hoc
      have HHL := hid HR.out.hl
      clear hoc
      go_wp2_with (first | (at_builtin; refine wpl_appendM rfl _ _ rfl (gn + 1) (ys := [oc]) rfl rfl (OWN.out.ext ((Ext.refl _).alloc _)) rfl (news_blk (Blk.mk_alloc rfl rfl)) (by omega) (Nat.le_trans hle (by rw [size_alloc]; exact Nat.le_succ _)) ?_))
      intro v3 w3 own3 g3
      have e3 : Below (gn + 1) y4 w3 := ((Below.refl _ _).alloc hle _).grown g3 (Nat.le_trans hle (by rw [size_alloc]; exact Nat.le_succ _)) OWN.out.block_ge
      have hle3 : gn + 1 ≤ w3.heap.size := Nat.le_trans hle e3.size
      have O3 := hid own3
      have E3 := hid e3
      have c57b := (Below.blkB e3 h0B I4.body).cell' (BodyR.at57 (HR.out.ext I4.ext))
      clear own3 g3 e3 c57 hwn
      go_wp2_with fail
      go_loopw [8, 105] (fun v i wr => ∃ k : Nat, k ≤ b.hn ∧ i = .int .i64 (k : Int) ∧ OwnM wr (gn + 1) v (LL.length + 1 + (b.holders.take k).flatten.length) ((LL ++ [oc]) ++ (b.holders.take k).flatten) ∧ Below (gn + 1) y4 wr) (fun _ i _ => b.hn - (intOf i).toNat)
      case atStart => exact ⟨0, by omega, rfl, by simpa using O3.out, E3.out⟩
      case round =>
        obtain ⟨k, hk, rfl, own4, e4⟩ := hrel
        have ew : Ext w wr := Below.trans I4.ext (e4.mono (by omega))
        have hlen4 := holders_part HR.out.h16 k (by omega)
        by_cases hlt : k < b.hn
        · have d1 : decide ((k : Int) < (b.hn : Int)) = true := decide_eq_true (by omega)
          have d2 : decide (k < b.hn) = true := decide_eq_true hlt
          have HHL2 := HHL.out
          obtain ⟨x, hxk⟩ : ∃ x, b.holders[k]? = some x := ⟨b.holders[k]'(by omega), List.getElem?_eq_getElem _⟩
          obtain ⟨A, hA, hrow⟩ := row16_at (HR.out.hcell.ext ew) HR.out.h16 hxk
          have HCX := hid (hrow k x hxk)
          have HA := hid hA
          have hx16 := HR.out.h16 x (List.mem_of_getElem? hxk)
          have HX := hid hx16
          have HXL := hid (show (x.map u8v).length = 16 by rw [List.length_map]; exact hx16)
          have HST := hid (holders_step hxk)
          obtain ⟨P, hP⟩ : ∃ P, (b.holders.take k).flatten = P := ⟨_, rfl⟩
          rw [hP] at own4 hlen4 HST
          have O4 := hid own4
          have E4 := hid e4
          have hle4 : gn + 1 ≤ wr.heap.size := Nat.le_trans hle e4.size
          clear hrow hA hxk hP own4 e4 HHL2 c57b hx16
          have hz16 : ((List.replicate 16 (0 : UInt8)).map u8v).length = 16 := by simp
          have HZ16 := hid hz16
          clear hz16
          go_wp2_with (first | (refine wpl_run rfl (exec_index (p := A) (i := k) rfl (by show Value.slice b.ha b.hn b.hc = _; rw [HA.out]) rfl Try.underlying70 size_id hlt _) ?_) | (refine wpl_run rfl (exec_load_at rfl rfl HCX.out agg_id HXL.out) ?_) | (refine wpl_storew rfl _ _ _ rfl rfl rfl (Blk.mk_alloc (vs := (List.replicate 16 (0 : UInt8)).map u8v) rfl rfl) agg_id HZ16.out (xs := x.map u8v) HXL.out (one_u8 x) ?_))
          intro w5 b5 u5
          have e5 : Below (gn + 1) wr w5 := ((Below.refl (gn + 1) wr).alloc hle4 _).trans ⟨u5.os, u5.tape, u5.output, by rw [u5.size]; exact Nat.le_refl _, fun i hi => u5.block i (by omega)⟩
          have x5 : Ext wr w5 := u5.ext ((Ext.refl wr).alloc _) (Nat.le_refl _)
          have O5 := hid (O4.out.ext x5)
          have B5 := hid b5
          have hle5 := Nat.le_trans hle4 x5.size
          have E5 := hid (Below.trans E4.out e5)
          clear b5 u5 e5 x5 O4 E4
          go_wp2_with (first | (at_builtin; refine wpl_appendM rfl _ _ rfl (gn + 1) (ys := x) rfl rfl O5.out HX.out (news_blk B5.out) (by omega) hle5 ?_))
          intro v6 w6 own6 g6
          have O6 := hid own6
          have E6 := hid (E5.out.grown g6 hle5 O5.out.block_ge)
          clear own6 g6 O5 E5
          go_wp2_with fail
          go_roundw
          case rel => exact ⟨k + 1, by omega, by go_num, by rw [HST.out, List.length_append, HX.out, ← List.append_assoc]; have h9 := O6.out; rw [show LL.length + 1 + (P.length + 16) = LL.length + 1 + P.length + 16 by omega]; simpa using h9, E6.out⟩
          case measure => simp [intOf]; omega
        · have d1 : decide ((k : Int) < (b.hn : Int)) = false := decide_eq_false (by omega)
          have d2 : decide (k < b.hn) = false := decide_eq_false hlt
          have htk : b.holders.take k = b.holders := List.take_of_length_le (by rw [HHL.out]; omega)
          rw [htk] at own4
          have hfl : (LL ++ [oc]) ++ b.holders.flatten = printL (((((((([] ++ if q0 = true then [0] else []) ++ if q1 = true then [1] else []) ++ if q2 = true then [2] else []) ++ if q3 = true then [3] else []) ++ if q6 = true then [6] else []) ++ if q7 = true then [7] else []) ++ if q8 = true then [8] else []) ++ if q10 = true then [10] else []) b.p ++ fieldL 9 b.p := by
            rw [HLL.out, ← HOC.out, octI_nat, ← HHL.out]
            show _ = LL ++ holdersL b.holders
            unfold holdersL; simp
          rw [hfl] at own4
          have O4 := hid own4
          have E4 := hid e4
          clear own4 e4 hfl htk c57b
          go_wp2_with fail
          go_meet
          exact (I4.next (i := 9) (M := 600) h0B hnB E4.out O4.out (holdersL_len SM.out HHL.out HR.out.h16)).seq (sq_true _ _).symm
  case rest =>
  have I5 := hcut
  obtain ⟨x5, y5, hv⟩ : ∃ x5 y5, u8 = x5 ∧ wc = y5 := ⟨_, _, rfl, rfl⟩
  rw [hv.1, hv.2] at I5 ⊢
  clear hcut hv I4
  have N5 := I5.needs.cell' (i := 5) (v := .bool q5) rfl
  go_upto_if 114 with (fail)
  clear N5
  go_cut [8] (fun v wx => PInv w gn (gn + 1) [q0, q1, q2, q3, q4, q5, q6, q7, q8, q9, q10, q11] b 34025 (((((((((([] ++ if q0 = true then [0] else []) ++ if q1 = true then [1] else []) ++ if q2 = true then [2] else []) ++ if q3 = true then [3] else []) ++ if q6 = true then [6] else []) ++ if q7 = true then [7] else []) ++ if q8 = true then [8] else []) ++ if q10 = true then [10] else []) ++ if q9 = true then [9] else []) ++ if q5 = true then [5] else []) v wx)
  case first =>
    cases q5 with
    | false =>
      go_wp2_with fail
      go_meet
      exact I5.skip (M := 4)
    | true =>
      have hle := I5.le
      have own0 := I5.own
      have hln := I5.len
      obtain ⟨LL, hLL⟩ : ∃ LL, printL ((((((((([] ++ if q0 = true then [0] else []) ++ if q1 = true then [1] else []) ++ if q2 = true then [2] else []) ++ if q3 = true then [3] else []) ++ if q6 = true then [6] else []) ++ if q7 = true then [7] else []) ++ if q8 = true then [8] else []) ++ if q10 = true then [10] else []) ++ if q9 = true then [9] else []) b.p = LL := ⟨_, rfl⟩
      rw [hLL] at own0 hln
      have HLL := hid hLL
      obtain ⟨a, c, hv, hnc, hcm, hn0, hcl⟩ := own0.slice
      have hwe := wrap_u32_small SM.out.e
      obtain ⟨ue, hue⟩ : ∃ ue, UInt32.ofNat b.epoch.toNat = ue := ⟨_, rfl⟩
      rw [hue] at hwe
      have HUE := hid hue
      have p51 := I5.body.cell' (BodyR.at51 (HR.out.ext I5.ext))
      have hpn := hid (putNumber_c LL a LL.length c ue y5 rfl (by omega) hcl hn0)
      have HV := hid hv
      clear hLL own0 hcl hue hv
      rw [HV.out]
      go_wp2_with fail
      refine hpn.out.mono ?_
      rintro e w3 ⟨v3, rfl, own3, e3⟩
      have own4 := OwnM.of (own_lower own3 hle)
      have e4 : Below (gn + 1) y5 w3 := e3.mono hle
      have h4 : fieldL 5 b.p = octL ue := by rw [← HUE.out]; rfl
      rw [← h4, ← HLL.out] at own4
      have O4 := hid own4
      have E4 := hid e4
      clear own3 own4 e3 e4 h4
      go_wp2_with fail
      go_meet
      exact (I5.next (i := 5) (M := 4) h0B hnB E4.out O4.out (by show (octL _).length ≤ _; simp [octL])).seq (sq_true _ _).symm
  case rest =>
  have I6 := hcut
  obtain ⟨x6, y6, hv⟩ : ∃ x6 y6, u8 = x6 ∧ wc = y6 := ⟨_, _, rfl, rfl⟩
  rw [hv.1, hv.2] at I6 ⊢
  clear hcut hv I5
  have N11 := I6.needs.cell' (i := 11) (v := .bool q11) rfl
  go_upto_if 121 with (fail)
  clear N11
  go_cut [8] (fun v wx => PInv w gn (gn + 1) [q0, q1, q2, q3, q4, q5, q6, q7, q8, q9, q10, q11] b 34033 ((((((((((([] ++ if q0 = true then [0] else []) ++ if q1 = true then [1] else []) ++ if q2 = true then [2] else []) ++ if q3 = true then [3] else []) ++ if q6 = true then [6] else []) ++ if q7 = true then [7] else []) ++ if q8 = true then [8] else []) ++ if q10 = true then [10] else []) ++ if q9 = true then [9] else []) ++ if q5 = true then [5] else []) ++ if q11 = true then [11] else []) v wx)
  case first =>
    cases q11 with
    | false =>
      go_wp2_with fail
      go_meet
      exact I6.skip (M := 8)
    | true =>
      have hle := I6.le
      have own0 := I6.own
      have hln := I6.len
      obtain ⟨LL, hLL⟩ : ∃ LL, printL (((((((((([] ++ if q0 = true then [0] else []) ++ if q1 = true then [1] else []) ++ if q2 = true then [2] else []) ++ if q3 = true then [3] else []) ++ if q6 = true then [6] else []) ++ if q7 = true then [7] else []) ++ if q8 = true then [8] else []) ++ if q10 = true then [10] else []) ++ if q9 = true then [9] else []) ++ if q5 = true then [5] else []) b.p = LL := ⟨_, rfl⟩
      rw [hLL] at own0 hln
      have HLL := hid hLL
      obtain ⟨a, c, hv, hnc, hcm, hn0, hcl⟩ := own0.slice
      have p56 := I6.body.cell' (BodyR.at56 (HR.out.ext I6.ext))
      have hpn := hid (putLong_c LL a LL.length c b.count y6 rfl (by omega) hcl hn0)
      have HV := hid hv
      clear hLL own0 hcl hv
      rw [HV.out]
      go_wp2_with fail
      refine hpn.out.mono ?_
      rintro e w3 ⟨v3, rfl, own3, e3⟩
      have own4 := OwnM.of (own_lower own3 hle)
      have e4 : Below (gn + 1) y6 w3 := e3.mono hle
      have h4 : fieldL 11 b.p = longL (UInt64.ofNat (longNat b.count)) := by rw [longNat_small SM.out.c]; rfl
      rw [← h4, ← HLL.out] at own4
      have O4 := hid own4
      have E4 := hid e4
      clear own3 own4 e3 e4 h4
      go_wp2_with fail
      go_meet
      exact (I6.next (i := 11) (M := 8) h0B hnB E4.out O4.out (by show (longL _).length ≤ _; rw [longL_length]; decide)).seq (sq_true _ _).symm
  case rest =>
  have I7 := hcut
  obtain ⟨x7, y7, hv⟩ : ∃ x7 y7, u8 = x7 ∧ wc = y7 := ⟨_, _, rfl, rfl⟩
  rw [hv.1, hv.2] at I7 ⊢
  clear hcut hv I6
  have N4 := I7.needs.cell' (i := 4) (v := .bool q4) rfl
  go_upto_if 127 with (fail)
  clear N4
  go_cut [8] (fun v wx => PInv w gn (gn + 1) [q0, q1, q2, q3, q4, q5, q6, q7, q8, q9, q10, q11] b 34065 (((((((((((([] ++ if q0 = true then [0] else []) ++ if q1 = true then [1] else []) ++ if q2 = true then [2] else []) ++ if q3 = true then [3] else []) ++ if q6 = true then [6] else []) ++ if q7 = true then [7] else []) ++ if q8 = true then [8] else []) ++ if q10 = true then [10] else []) ++ if q9 = true then [9] else []) ++ if q5 = true then [5] else []) ++ if q11 = true then [11] else []) ++ if q4 = true then [4] else []) v wx)
  case first =>
    cases q4 with
    | false =>
      go_wp2_with fail
      go_meet
      exact I7.skip (M := 32)
    | true =>
      have hle := I7.le
      have own0 := I7.own
      have hln := I7.len
      obtain ⟨LL, hLL⟩ : ∃ LL, printL ((((((((((([] ++ if q0 = true then [0] else []) ++ if q1 = true then [1] else []) ++ if q2 = true then [2] else []) ++ if q3 = true then [3] else []) ++ if q6 = true then [6] else []) ++ if q7 = true then [7] else []) ++ if q8 = true then [8] else []) ++ if q10 = true then [10] else []) ++ if q9 = true then [9] else []) ++ if q5 = true then [5] else []) ++ if q11 = true then [11] else []) b.p = LL := ⟨_, rfl⟩
      rw [hLL] at own0 hln
      have HLL := hid hLL
      have OWN := hid own0
      clear hLL own0
      have HCE := hid (BodyR.comm (HR.out.ext I7.ext) I7.body)
      have HML := hid HR.out.hcm
      go_wp2_with (at_builtin; refine wpl_appendM rfl _ _ rfl (gn + 1) (ys := b.commit) rfl rfl OWN.out HML.out HCE.out (by omega) hle ?_)
      intro v3 w3 own3 g3
      have e3 : Below (gn + 1) y7 w3 := (Below.refl _ _).grown g3 hle OWN.out.block_ge
      rw [← HLL.out] at own3
      go_wp2_with fail
      go_meet
      exact (I7.next (i := 4) (M := 32) h0B hnB e3 own3 (by show b.commit.length ≤ _; rw [HML.out]; decide)).seq (sq_true _ _).symm
  case rest =>
  have I8 := hcut
  obtain ⟨x8, y8, hv⟩ : ∃ x8 y8, u8 = x8 ∧ wc = y8 := ⟨_, _, rfl, rfl⟩
  rw [hv.1, hv.2] at I8 ⊢
  clear hcut hv I7
  have hseq : (((((((((((([] ++ if q0 = true then [0] else []) ++ if q1 = true then [1] else []) ++ if q2 = true then [2] else []) ++ if q3 = true then [3] else []) ++ if q6 = true then [6] else []) ++ if q7 = true then [7] else []) ++ if q8 = true then [8] else []) ++ if q10 = true then [10] else []) ++ if q9 = true then [9] else []) ++ if q5 = true then [5] else []) ++ if q11 = true then [11] else []) ++ if q4 = true then [4] else []) = seqOf act := by
    rw [← seq_code RG.out.isa]
    show _ = ([0] ++ [1] ++ [2] ++ [3] ++ [6] ++ [7] ++ [8] ++ [10] ++ [9] ++ [5] ++ [11] ++ [4] : List Nat).filter _
    simp only [List.filter_append, filt1, HAT.out, List.getD_cons_zero, List.getD_cons_succ, List.nil_append]
  have J := I8.seq hseq
  have HJ := hid (show Ext w y8 ∧ OwnM y8 w.heap.size x8 (printL (seqOf act) b.p).length (printL (seqOf act) b.p) from ⟨J.ext, J.own.lower (by omega)⟩)
  clear J hseq I8
  go_wp2_with fail
  go_ret2
  exact ⟨HJ.out.1, .inl ⟨HE.out, _, rfl, HJ.out.2⟩⟩
end

section
open Go Go.RowKit

/-- the letters of an act's fields -/
def usesTab : List (List UInt8) := [[], [116], [109, 114], [109], [108, 99], [101, 99], [112, 101, 99], [97], [99], [110, 104, 101, 99], [104, 101, 99], [118, 99], [118, 107, 99]]
def usesL (k : Nat) : List UInt8 := usesTab.getD k []
theorem uses_at {k : Nat} (hk : k < 13) : (usesTab.map fun l => Value.string ⟨l.toArray⟩)[k]? = some (.string ⟨(usesL k).toArray⟩) := by
  have : usesTab[k]? = some (usesL k) := by
    unfold usesL
    rw [List.getD_eq_getElem?_getD]
    have hl : k < usesTab.length := hk
    rw [List.getElem?_eq_getElem hl]; rfl
  rw [List.getElem?_map, this]; rfl

set_option maxRecDepth 100000 in
set_option maxHeartbeats 2000000 in
theorem uses_c (k : Nat) (w : World) (hk : k < 13) :
    Calls Try.prog 82 #[.int .i64 (k : Int)] w fun e w' => e = .returned (.string ⟨(usesL k).toArray⟩) ∧ Ext w w' := by
  have hrun : ∀ w, (Instr.buildSlice 69 13 #[(0, .string ⟨#[]⟩), (1, .string ⟨#[116]⟩), (2, .string ⟨#[109, 114]⟩), (3, .string ⟨#[109]⟩), (4, .string ⟨#[108, 99]⟩), (5, .string ⟨#[101, 99]⟩), (6, .string ⟨#[112, 101, 99]⟩), (7, .string ⟨#[97]⟩), (8, .string ⟨#[99]⟩), (9, .string ⟨#[110, 104, 101, 99]⟩), (10, .string ⟨#[104, 101, 99]⟩), (11, .string ⟨#[118, 99]⟩), (12, .string ⟨#[118, 107, 99]⟩)]).run Try.prog w = .ok (.slice (some ⟨w.heap.size, 0, none⟩) 13 13) (w.alloc (.cells (usesTab.map fun l => Value.string ⟨l.toArray⟩).toArray 9)) := by
    intro w
    kernel_rfl
  have hcell : (w.alloc (.cells (usesTab.map fun l => Value.string ⟨l.toArray⟩).toArray 9)).cell? ((⟨w.heap.size, 0, none⟩ : Addr).add (k * 1)) = some (.string ⟨(usesL k).toArray⟩) := by
    rw [addr_add]
    exact (Blk.alloc_new w _ _).cell' (by rw [Nat.zero_add, Nat.mul_one]; exact uses_at hk)
  have HC := hid hcell
  clear hcell
  obtain ⟨u, hu⟩ : ∃ u : ByteArray, (⟨(usesL k).toArray⟩ : ByteArray) = u := ⟨_, rfl⟩
  rw [hu] at HC ⊢
  clear hu
  go_enter Try.func82, Try.ntmps82
  go_wp2_with (first | (refine wpl_run rfl (exec_index (i := k) rfl rfl rfl Try.underlying69 size_str hk _) ?_) | (refine wpl_run rfl (exec_load_oneU rfl rfl HC.out one_str) ?_))
  go_ret
  exact ⟨rfl, (Ext.refl w).alloc _⟩
end

section
open Go Go.RowKit

abbrev OT : TypeId := 139
set_option maxRecDepth 100000 in
set_option maxHeartbeats 1000000 in
theorem rtake_c (l : List UInt8) (s : Bool) (D g m : Nat) (w : World) (hm : m ≤ 140737488355328) (hr : RdAt OT D w g l s) :
    Calls Try.prog 90 #[.pointer (some ⟨g, 0, none⟩), .int .i64 (m : Int)] w fun e w' => ∃ a c x l' s', e = .returned (.slice a m c) ∧ m ≤ c ∧ x.length = m ∧ CellsOff w' g a (x.map u8v) ∧ RdAt OT D w' g l' s' ∧ Took (takeP m) l s x l' s' ∧ l'.length ≤ l.length ∧ w.grownBy w' (some g) := by
  obtain ⟨a, n, c, hb, hn, hnc, hc, hD, hcl⟩ := hr
  have HB := hid hb
  have HN := hid hn
  have HCL := hid hcl
  have k0 := hb.cell' (i := 0) (v := .slice a n c) rfl
  have k1 := hb.cell' (i := 1) (v := .bool s) rfl
  have f1 := hb.frozen 1
  have f0 := hb.frozen 0
  have i0 := HB.out.lt
  clear hb hn hcl
  by_cases h : n < m
  · have d1 : decide (n < m) = true := decide_eq_true h
    have d2 : decide ((n : Int) < (m : Int)) = true := decide_eq_true (by omega)
    go_enter Try.func90, Try.ntmps90
    go_upto_region 3 with (fail)
    generalize hwA : World.setCell (World.setCell w _ _) _ _ = wA
    have bA : Blk wA g [.slice none 0 0, .bool true] OT := by rw [← hwA]; exact (HB.out.set 1 (.bool true)).set 0 (.slice none 0 0)
    have uA : Upd w g wA := by rw [← hwA]; exact (Upd.setCell _).trans (Upd.setCell _)
    have BA := hid bA
    have UA := hid uA
    clear hwA bA uA k0 k1 f0 f1
    have hmk := run_mk8 wA m hm
    go_wp2_with fail
    generalize hwB : World.alloc wA _ = wB
    have zB : Blk wB wA.heap.size ((List.replicate m (0 : UInt8)).map u8v) 5 := by rw [← hwB]; exact Blk.mk_alloc rfl (by simp)
    have eB : Ext wA wB := by rw [← hwB]; exact (Ext.refl wA).alloc _
    have hsz := UA.out.size
    go_wp2_with fail
    go_ret
    refine ⟨_, _, List.replicate m 0, [], true, rfl, Nat.le_refl _, by simp, ?_, ?_, ⟨fun h0 => (by cases h0), fun _ => .inr ?_⟩, Nat.zero_le _, ?_⟩
    · exact .inr ⟨wA.heap.size, 0, rfl, by omega, fun i u hu => by rw [Nat.zero_add]; exact zB.cell' hu⟩
    · have hsB := eB.size
      exact ⟨none, 0, 0, BA.out.ext eB, rfl, Nat.le_refl _, by omega, by omega, .inl rfl⟩
    · unfold takeP; rw [HN.out, if_pos h]
    · exact gby_ext (gby_upd (gby_self w (some g)) UA.out) eB
  · have d1 : decide (n < m) = false := decide_eq_false h
    have d2 : decide ((n : Int) < (m : Int)) = false := decide_eq_false (by omega)
    have hmc : m ≤ c := by omega
    have hmn : m ≤ n := by omega
    go_enter Try.func90, Try.ntmps90
    go_wp2_with (first | (refine wpl_run rfl (exec_sliceHead rfl rfl rfl Try.underlying28 size_u8 hmc rfl _) ?_) | (refine wpl_slice_low rfl _ _ _ _ rfl rfl rfl Try.underlying28 size_u8 hmn ?_))
    generalize hwA : World.setCell w _ _ = wA
    have bA : Blk wA g [.slice (shift a c m) (n - m) (c - m), .bool s] OT := by rw [← hwA]; exact HB.out.set 0 (.slice (shift a c m) (n - m) (c - m))
    have uA : Upd w g wA := by rw [← hwA]; exact Upd.setCell _
    have gA := gby_upd (gby_self w (some g)) uA
    go_ret
    have hl : (l.map u8v).length = n := by rw [List.length_map]; exact HN.out
    refine ⟨_, _, l.take m, l.drop m, s, rfl, hmc, ?_, ?_, ?_, ⟨fun h0 => ⟨h0, ?_⟩, fun h1 => .inl h1⟩, ?_, gA⟩
    · rw [List.length_take, HN.out]; omega
    · rw [List.map_take]; exact ((HCL.out.turn fun k _ hkg => uA.block k hkg).shift0 c m hmc).off
    · have hsA := uA.size
      refine ⟨_, _, _, bA, by rw [List.length_drop, HN.out], by omega, by omega, by omega, ?_⟩
      rw [List.map_drop]; exact (HCL.out.turn fun k _ hkg => uA.block k hkg).shiftL c m (by omega)
    · unfold takeP; rw [HN.out, if_neg h]
    · rw [List.length_drop]; omega

set_option maxRecDepth 100000 in
set_option maxHeartbeats 1000000 in
theorem rone_c (l : List UInt8) (s : Bool) (D g : Nat) (w : World) (hr : RdAt OT D w g l s) :
    Calls Try.prog 91 #[.pointer (some ⟨g, 0, none⟩)] w fun e w' => ∃ x : Nat, e = .returned (.int .i64 (x : Int)) ∧ x < 256 ∧ Reads OT D octP w g l s x w' := by
  have HR := hid hr
  clear hr
  go_enter Try.func91, Try.ntmps91
  go_wp2_with fail
  refine (rtake_c l s D g 1 w (by omega) HR.out).mono ?_
  rintro e w' ⟨a, cc, x, l', s', rfl, hcc, hx, hc, hr, ht, hl, hg⟩
  obtain ⟨b, off, rfl, h2⟩ := hc.cells.some_of (by rw [List.length_map, hx]; omega)
  obtain ⟨c, rfl⟩ : ∃ c, x = [c] := by
    match x, hx with
    | [c], _ => exact ⟨c, rfl⟩
  have h3 : w'.cell? ⟨b, off, none⟩ = some (.int .u8 (c.toNat : Int)) := h2 0 _ rfl
  have H3 := hid h3
  have HRD := hid hr
  have HT := hid ht
  have HG := hid hg
  have HL := hid hl
  clear hc h2 hr ht hg hl hx
  have hc8 := c.toNat_lt
  have q3 : IntKind.i64.wrap (c.toNat : Int) = (c.toNat : Int) := IntWalk.i64_in _ (by omega)
  go_wp2_with fail
  go_ret
  refine ⟨c.toNat, rfl, by omega, l', s', HRD.out, ?_, HL.out, HG.out⟩
  exact (HT.out.map (fun x => (x.headD 0).toNat)).congr rfl

/-- the count, as the reference reads it -/
def rcountF (l : List UInt8) : Int := w64 (natOf l)
theorem seq_nodup {act : Int} (h : lactB act = true) : (seqOf act).Nodup ∧ ∀ i ∈ seqOf act, i < 12 := by
  rcases acts12 h with rfl | rfl | rfl | rfl | rfl | rfl | rfl | rfl | rfl | rfl | rfl | rfl <;> decide
def letter (i : Nat) : UInt8 := [116, 109, 114, 108, 99, 101, 112, 97, 110, 104, 118, 107].getD i 0
theorem uses_seq {act : Int} (h : lactB act = true) : usesL act.toNat = (seqOf act).map letter := by
  rcases acts12 h with rfl | rfl | rfl | rfl | rfl | rfl | rfl | rfl | rfl | rfl | rfl | rfl <;> decide
/-- what holds of the world between the letters -/
structure RInv (w0 : World) (g gi B : Nat) (us : ByteArray) (l0 : List UInt8) (sq : List Nat) (w : World) (r : BodyR) (l : List UInt8) (s : Bool) : Prop where
  body : Blk w (w0.heap.size + 1) r.v 72
  res : Blk w w0.heap.size zeroR.v 72
  rd : RdAt OT w0.heap.size w g l s
  took : Took (runP rcountF sq zeroP) l0 false r.p l s
  ext : Ext w0 w
  fit : r.Fit
  rhi : CellsHi w B r.ra (r.roles.map encStr)
  hhi : CellsHi w B r.ha (rows r.holders)
  nr : 2 ∉ sq → NoRoles r
  nh : 9 ∉ sq → NoHolders r
  it : w.heap[gi]? = some (.stringIter us sq.length)
section
variable {w0 : World} {g gi B i : Nat} {us : ByteArray} {l0 : List UInt8} {sq : List Nat} {w : World} {r : BodyR} {l : List UInt8} {s : Bool}
/-- the iterator has gone on: all but its block is as it was -/
structure RMid (w0 : World) (g gi B : Nat) (us : ByteArray) (l0 : List UInt8) (sq : List Nat) (w : World) (r : BodyR) (l : List UInt8) (s : Bool) : Prop where
  body : Blk w (w0.heap.size + 1) r.v 72
  res : Blk w w0.heap.size zeroR.v 72
  rd : RdAt OT w0.heap.size w g l s
  took : Took (runP rcountF sq zeroP) l0 false r.p l s
  ext : Ext w0 w
  fit : r.Fit
  rhi : CellsHi w B r.ra (r.roles.map encStr)
  hhi : CellsHi w B r.ha (rows r.holders)
  nr : 2 ∉ sq → NoRoles r
  nh : 9 ∉ sq → NoHolders r
  it : w.heap[gi]? = some (.stringIter us (sq.length + 1))
theorem Ext.grownAt {W w w' : World} {k : Nat} (h : Ext W w) (g : w.grownBy w' (some k)) (hk : W.heap.size ≤ k) : Ext W w' := h.grown g (by intro q hq; injection hq with hq; omega)
theorem RMid.store (h : RMid w0 g gi B us l0 sq w r l s) {w2 w3 : World} {l2 : List UInt8} {s2 : Bool} {r2 : BodyR} (hg : w0.heap.size + 1 < g) (hgi : w0.heap.size + 1 < gi) (hne : gi ≠ g) (hB : w0.heap.size + 1 < B) (hgB : g < B) (gr : w.grownBy w2 (some g)) (rd : RdAt OT w0.heap.size w2 g l2 s2) (u : Upd w2 (w0.heap.size + 1) w3)
    (hb : Blk w3 (w0.heap.size + 1) r2.v 72) (tk : Took (runP rcountF (sq ++ [i]) zeroP) l0 false r2.p l2 s2) (fit : r2.Fit) (h1 : r2.ra = r.ra) (h1n : r2.rn = r.rn) (h1c : r2.rc = r.rc) (h2 : r2.roles = r.roles) (h3 : r2.ha = r.ha) (h3n : r2.hn = r.hn) (h3c : r2.hc = r.hc) (h4 : r2.holders = r.holders) : RInv w0 g gi B us l0 (sq ++ [i]) w3 r2 l2 s2 where
  body := hb
  res := (h.res.grown gr (by simp; omega)).upd u (by omega)
  rd := rd.upd u (by omega) (by omega)
  took := tk
  ext := u.ext (h.ext.grownAt gr (by omega)) (by omega)
  fit := fit
  rhi := by rw [h1, h2]; exact (h.rhi.grown gr hgB).upd u hB
  hhi := by rw [h3, h4]; exact (h.hhi.grown gr hgB).upd u hB
  nr := fun hn => by
    have := h.nr (fun hm => hn (by simp [hm]))
    exact ⟨h1.trans this.a, h1n.trans this.n, h1c.trans this.c, h2.trans this.l⟩
  nh := fun hn => by
    have := h.nh (fun hm => hn (by simp [hm]))
    exact ⟨h3.trans this.a, h3n.trans this.n, h3c.trans this.c, h4.trans this.l⟩
  it := by
    rw [u.block gi (by omega), gr.block gi (Array.getElem?_eq_some_iff.1 h.it).1 (by simpa using hne), h.it, List.length_append]; rfl
theorem RMid.body2 (h : RMid w0 g gi B us l0 sq w r l s) {w2 : World} (hg : w0.heap.size + 1 < g) (gr : w.grownBy w2 (some g)) : Blk w2 (w0.heap.size + 1) r.v 72 := h.body.grown gr (by simp; omega)
theorem RInv.next (h : RInv w0 g gi B us l0 sq w r l s) {w2 : World} (hg : w0.heap.size + 1 < g) (hgi : w0.heap.size + 1 < gi) (hne : gi ≠ g) (hgB : gi < B) (u : ∀ k, k ≠ gi → w2.heap[k]? = w.heap[k]?) (hs : w2.heap.size = w.heap.size) (ho : w2.os = w.os ∧ w2.tape = w.tape ∧ w2.output = w.output) (hi : w2.heap[gi]? = some (.stringIter us (sq.length + 1))) : RMid w0 g gi B us l0 sq w2 r l s where
  body := by unfold Blk; rw [u _ (by omega)]; exact h.body
  res := by unfold Blk; rw [u _ (by omega)]; exact h.res
  rd := h.rd.same ⟨by omega, fun k hk => u k (by omega), u g (by omega)⟩
  took := h.took
  ext := ⟨ho.1.trans h.ext.os, ho.2.1.trans h.ext.tape, ho.2.2.trans h.ext.output, by have := h.ext.size; omega, fun k hk => (u k (by omega)).trans (h.ext.block k hk)⟩
  fit := h.fit
  rhi := h.rhi.turn fun k hk _ => u k (by omega)
  hhi := h.hhi.turn fun k hk _ => u k (by omega)
  nr := h.nr
  nh := h.nh
  it := hi
end
end

section
open Go Go.RowKit

theorem has_letter : ∀ (a : Fin 13) (k : Fin 12), 1 ≤ a.val → decide (0 ≤ Lib.indexByte (usesL a.val) (letter k.val)) = (needsL (a.val : Int)).getD k.val false := by decide +kernel
theorem has_c (act : Int) (k : Nat) (w : World) (h : lactB act = true) (hk : k < 12) :
    Calls Try.prog 128 #[.string ⟨(usesL act.toNat).toArray⟩, .string ⟨#[letter k]⟩] w fun e w' => e = .returned (.bool (needAt act k)) ∧ w = w' := by
  refine (strings_Contains_one ⟨(usesL act.toNat).toArray⟩ (letter k) w).mono ?_
  rintro e w' ⟨rfl, rfl⟩
  refine ⟨?_, rfl⟩
  unfold lactB at h
  simp only [Bool.and_eq_true, decide_eq_true_eq] at h
  have h1 := has_letter ⟨act.toNat, by omega⟩ ⟨k, hk⟩ (by show 1 ≤ act.toNat; omega)
  unfold needAt
  have he : ((act.toNat : Nat) : Int) = act := by omega
  simp only [he] at h1
  rw [← h1]
def pcells (l : List (UInt8 × Bool)) : List Value := (l.map fun p => [Value.string ⟨#[p.1]⟩, .bool p.2]).flatten
theorem pcells_at {l : List (UInt8 × Bool)} {k : Nat} {p : UInt8 × Bool} (h : l[k]? = some p) : ∀ j, j < 2 → (pcells l)[2 * k + j]? = ([Value.string ⟨#[p.1]⟩, .bool p.2] : List Value)[j]? := by
  intro j hj
  induction l generalizing k with
  | nil => cases h
  | cons a l ih =>
    have hc : pcells (a :: l) = [Value.string ⟨#[a.1]⟩, .bool a.2] ++ pcells l := rfl
    rw [hc]
    cases k with
    | zero =>
      cases h
      rw [List.getElem?_append_left (by simp; omega), Nat.mul_zero, Nat.zero_add]
    | succ k =>
      rw [List.getElem?_append_right (by simp; omega), show 2 * (k + 1) + j - [Value.string ⟨#[a.1]⟩, .bool a.2].length = 2 * k + j by simp; omega]
      exact ih (by simpa using h)
abbrev PT : TypeId := 190
theorem agg_p : AggT Try.prog PT 2 := ⟨⟨_, Try.underlying190, rfl⟩, by kernel_rfl⟩
theorem size_p : (Try.prog.info? PT).map (·.size) = some 2 := by kernel_rfl
theorem info_p : (Try.prog.info? PT).map (fun i => (i.zero, i.size, i.bytes)) = some (some (.agg #[.string ⟨#[]⟩, .bool false]), 2, 24) := by kernel_rfl
def letters : List UInt8 := [116, 109, 114, 108, 99, 101, 112, 97, 110, 104, 118, 107]
theorem run_pairs (f0 f1 f2 f3 f4 f5 f6 f7 f8 f9 f10 f11 : Bool) (w : World) : (Instr.buildSlice 191 12 #[(0, .agg #[.string ⟨#[116]⟩, .bool f0]), (1, .agg #[.string ⟨#[109]⟩, .bool f1]), (2, .agg #[.string ⟨#[114]⟩, .bool f2]), (3, .agg #[.string ⟨#[108]⟩, .bool f3]), (4, .agg #[.string ⟨#[99]⟩, .bool f4]), (5, .agg #[.string ⟨#[101]⟩, .bool f5]), (6, .agg #[.string ⟨#[112]⟩, .bool f6]), (7, .agg #[.string ⟨#[97]⟩, .bool f7]), (8, .agg #[.string ⟨#[110]⟩, .bool f8]), (9, .agg #[.string ⟨#[104]⟩, .bool f9]), (10, .agg #[.string ⟨#[118]⟩, .bool f10]), (11, .agg #[.string ⟨#[107]⟩, .bool f11])]).run Try.prog w = .ok (.slice (some ⟨w.heap.size, 0, none⟩) 12 12) (w.alloc (.cells (pcells [(116, f0), (109, f1), (114, f2), (108, f3), (99, f4), (101, f5), (112, f6), (97, f7), (110, f8), (104, f9), (118, f10), (107, f11)]).toArray PT)) := by
  obtain ⟨i0, hi, hz, hsz, hb1⟩ := info_parts info_p
  refine run_buildSlice (P := Try.prog) w 191 PT 12 _ (pcells [(116, f0), (109, f1), (114, f2), (108, f3), (99, f4), (101, f5), (112, f6), (97, f7), (110, f8), (104, f9), (118, f10), (107, f11)]).toArray i0 _ Try.underlying191 hi hz (by rw [hsz]; omega) (by rw [hsz]; omega) ?_
  have hf : ∀ cells : Array Value, cells.size = 24 → Instr.fill (fun i => some (i * 2, 2)) cells [(0, .agg #[.string ⟨#[116]⟩, .bool f0]), (1, .agg #[.string ⟨#[109]⟩, .bool f1]), (2, .agg #[.string ⟨#[114]⟩, .bool f2]), (3, .agg #[.string ⟨#[108]⟩, .bool f3]), (4, .agg #[.string ⟨#[99]⟩, .bool f4]), (5, .agg #[.string ⟨#[101]⟩, .bool f5]), (6, .agg #[.string ⟨#[112]⟩, .bool f6]), (7, .agg #[.string ⟨#[97]⟩, .bool f7]), (8, .agg #[.string ⟨#[110]⟩, .bool f8]), (9, .agg #[.string ⟨#[104]⟩, .bool f9]), (10, .agg #[.string ⟨#[118]⟩, .bool f10]), (11, .agg #[.string ⟨#[107]⟩, .bool f11])] = some (pcells [(116, f0), (109, f1), (114, f2), (108, f3), (99, f4), (101, f5), (112, f6), (97, f7), (110, f8), (104, f9), (118, f10), (107, f11)]).toArray := by
    intro cells hc
    have h := Great.fill_whole (s := 2) (by omega) [.agg #[.string ⟨#[116]⟩, .bool f0], .agg #[.string ⟨#[109]⟩, .bool f1], .agg #[.string ⟨#[114]⟩, .bool f2], .agg #[.string ⟨#[108]⟩, .bool f3], .agg #[.string ⟨#[99]⟩, .bool f4], .agg #[.string ⟨#[101]⟩, .bool f5], .agg #[.string ⟨#[112]⟩, .bool f6], .agg #[.string ⟨#[97]⟩, .bool f7], .agg #[.string ⟨#[110]⟩, .bool f8], .agg #[.string ⟨#[104]⟩, .bool f9], .agg #[.string ⟨#[118]⟩, .bool f10], .agg #[.string ⟨#[107]⟩, .bool f11]] cells (by intro v hv; simp only [List.mem_cons, List.not_mem_nil, or_false] at hv; rcases hv with rfl | rfl | rfl | rfl | rfl | rfl | rfl | rfl | rfl | rfl | rfl | rfl <;> rfl) (by simp [hc])
    simpa [Value.cells, pcells] using h
  rw [hsz]
  exact hf _ (by simp [Builtin.zeroCells, Value.cells])
theorem pairs_at (f0 f1 f2 f3 f4 f5 f6 f7 f8 f9 f10 f11 : Bool) : ∀ k, k < 12 → ([(116, f0), (109, f1), (114, f2), (108, f3), (99, f4), (101, f5), (112, f6), (97, f7), (110, f8), (104, f9), (118, f10), (107, f11)] : List (UInt8 × Bool))[k]? = some (letter k, [f0, f1, f2, f3, f4, f5, f6, f7, f8, f9, f10, f11].getD k false) := by
  intro k hk
  rcases (by omega : k = 0 ∨ k = 1 ∨ k = 2 ∨ k = 3 ∨ k = 4 ∨ k = 5 ∨ k = 6 ∨ k = 7 ∨ k = 8 ∨ k = 9 ∨ k = 10 ∨ k = 11) with rfl | rfl | rfl | rfl | rfl | rfl | rfl | rfl | rfl | rfl | rfl | rfl <;> rfl
theorem extra_any {xs ns : List Bool} (hx : xs.length = 12) (hn : ns.length = 12) : ((ns.zip xs).any fun p => !p.1 && p.2) = true ↔ ∃ k, k < 12 ∧ ns.getD k false = false ∧ xs.getD k false = true := by
  rw [List.any_eq_true]
  constructor
  · rintro ⟨p, hp, hq⟩
    obtain ⟨k, hk, rfl⟩ := List.mem_iff_getElem.1 hp
    rw [List.length_zip] at hk
    refine ⟨k, by omega, ?_, ?_⟩
    · rw [List.getD_eq_getElem?_getD, List.getElem?_eq_getElem (by omega)]
      simp only [List.getElem_zip, Bool.and_eq_true, Bool.not_eq_true'] at hq
      simpa using hq.1
    · rw [List.getD_eq_getElem?_getD, List.getElem?_eq_getElem (by omega)]
      simp only [List.getElem_zip, Bool.and_eq_true, Bool.not_eq_true'] at hq
      simpa using hq.2
  · rintro ⟨k, hk, h1, h2⟩
    refine ⟨(ns.zip xs)[k]'(by rw [List.length_zip]; omega), List.getElem_mem _, ?_⟩
    rw [List.getD_eq_getElem?_getD, List.getElem?_eq_getElem (by omega)] at h1 h2
    simp only [List.getElem_zip]
    simp only [Option.getD_some] at h1 h2
    rw [h1, h2]; rfl

set_option maxRecDepth 100000 in
set_option maxHeartbeats 8000000 in
theorem bodyForm_c (act : Int) (b : BodyR) (w : World) (hr : b.Ok w) (ha : lactB act = true) :
    Calls Try.prog 126 #[.int .i64 act, .agg b.v.toArray] w fun e w' => e = .returned (.int .i64 (if extraB b (needsL act) then 2 else 0)) ∧ Ext w w' := by
  have HR := hid hr
  have hhas := hid (fun k w => has_c act k w ha)
  have hact : 1 ≤ act ∧ act ≤ 12 := by unfold lactB at ha; simpa using ha
  obtain ⟨K, rfl⟩ : ∃ K : Nat, act = (K : Int) := ⟨act.toNat, by omega⟩
  have huse := hid (fun w => uses_c K w (by omega))
  obtain ⟨u, hu⟩ : ∃ u : ByteArray, (⟨(usesL K).toArray⟩ : ByteArray) = u := ⟨_, rfl⟩
  rw [show (K : Int).toNat = K from rfl, hu] at hhas
  rw [hu] at huse
  have hextra := hid (show extraB b (needsL (K : Int)) = ((needsL (K : Int)).zip b.set).any (fun p => !p.1 && p.2) from rfl)
  obtain ⟨RR, hRR⟩ : ∃ RR : Int, (if extraB b (needsL (K : Int)) then (2 : Int) else 0) = RR := ⟨_, rfl⟩
  rw [hRR]
  have HRR := hid hRR
  clear hr hu hact ha hRR
  go_enter Try.func126, Try.ntmps126
  go_upto_region 1 with (fail)
  generalize hwA : World.alloc w _ = wA
  have bA : Blk wA w.heap.size b.v 72 := by rw [← hwA]; exact Blk.mk_alloc rfl rfl
  have eA : Ext w wA := by rw [← hwA]; exact (Ext.refl w).alloc _
  have BA := hid bA
  have EA := hid eA
  clear hwA bA eA
  go_wp2_with fail
  refine (huse.out wA).mono ?_
  rintro e w2 ⟨rfl, e2⟩
  have BB := hid (BA.out.ext e2)
  have EB := hid (EA.out.ext e2)
  have HRB := hid (HR.out.ext EB.out)
  clear e2 BA EA
  have HM := hid (show (b.member.map u8v).length = 16 by rw [List.length_map]; exact HR.out.hm)
  have HC := hid (show (b.commit.map u8v).length = 32 by rw [List.length_map]; exact HR.out.hcm)
  have NM := hid (fun w => neq_arr Try.underlying68 b.member (List.replicate 16 0) HR.out.hm (by simp) w)
  have NC := hid (fun w => neq_arr Try.underlying32 b.commit (List.replicate 32 0) HR.out.hcm (by simp) w)
  have hset : b.set = b.set := rfl
  conv at hset => rhs; unfold BodyR.set
  have HSET := hid hset
  clear hset
  go_upto_region 2 with (fail)
  obtain ⟨C, hC⟩ : ∃ C : World → Prop, C = fun w' => Ext w2 w' := ⟨_, rfl⟩
  have hC0 : ∀ w', C w' ↔ Ext w2 w' := fun w' => by rw [hC]
  clear hC
  have HCC := hid hC0
  clear hC0
  have hCx : ∀ w w', C w → Ext w w' → C w' := fun w w' h1 h2 => (HCC.out w').2 (((HCC.out w).1 h1).ext h2)
  refine wp_region_held_drew (S := C) (by kernel_rfl) ((HCC.out _).2 (Ext.refl w2).drew) (fun hS0 => ?_)
  refine held_take 0 (v := .pointer (some ⟨w.heap.size, 0, none⟩)) rfl (by kernel_rfl) (by kernel_rfl) (by kernel_rfl) (fun _ _ _ h => h) (.inl ⟨rfl, ?va1⟩) hS0 ?vb1
  case va1 => (intro _ _; go_simp; try with_reducible rfl)
  case vb1 =>
  simp only [Act.put, List.setIfInBounds_toArray, List.set_cons_succ, List.set_cons_zero]
  refine held_take 1 (v := .string b.text) rfl (by kernel_rfl) (by kernel_rfl) (by kernel_rfl) (fun _ _ _ h => h) (.inl ⟨rfl, ?va2⟩) hS0 ?vb2
  case va2 => (intro wq hwq; have hcq := (BB.out.ext ((HCC.out wq).1 hwq)).cell' (BodyR.at0 b); go_simp; try with_reducible rfl)
  case vb2 =>
  simp only [Act.put, List.setIfInBounds_toArray, List.set_cons_succ, List.set_cons_zero]
  refine held_take 2 (v := .bool (!b.text.toList.isEmpty)) rfl (by kernel_rfl) (by kernel_rfl) (by kernel_rfl) (fun _ _ _ h => h) (.inl ⟨rfl, ?va3⟩) hS0 ?vb3
  case va3 => (intro _ _; go_simp; try with_reducible rfl)
  case vb3 =>
  simp only [Act.put, List.setIfInBounds_toArray, List.set_cons_succ, List.set_cons_zero]
  generalize (!b.text.toList.isEmpty) = f0 at HSET ⊢
  refine held_take 3 (v := .agg #[.string ⟨#[116]⟩, .bool f0]) rfl (by kernel_rfl) (by kernel_rfl) (by kernel_rfl) (fun _ _ _ h => h) (.inl ⟨rfl, ?va4⟩) hS0 ?vb4
  case va4 => (intro _ _; go_simp; try with_reducible rfl)
  case vb4 =>
  simp only [Act.put, List.setIfInBounds_toArray, List.set_cons_succ, List.set_cons_zero]
  refine held_take 4 (v := .pointer (some ⟨w.heap.size, 1, none⟩)) rfl (by kernel_rfl) (by kernel_rfl) (by kernel_rfl) (fun _ _ _ h => h) (.inl ⟨rfl, ?va5⟩) hS0 ?vb5
  case va5 => (intro _ _; go_simp; try with_reducible rfl)
  case vb5 =>
  simp only [Act.put, List.setIfInBounds_toArray, List.set_cons_succ, List.set_cons_zero]
  refine held_take 5 (v := .agg (b.member.map u8v).toArray) rfl (by kernel_rfl) (by kernel_rfl) (by kernel_rfl) (fun _ _ _ h => h) (.inl ⟨rfl, ?va6⟩) hS0 ?vb6
  case va6 => (intro wq hwq; exact exec_load_at rfl rfl (BodyR.memb (HRB.out.ext ((HCC.out wq).1 hwq)) (BB.out.ext ((HCC.out wq).1 hwq))) agg_id HM.out)
  case vb6 =>
  simp only [Act.put, List.setIfInBounds_toArray, List.set_cons_succ, List.set_cons_zero]
  refine held_take 6 (v := .agg ((List.replicate 16 (0 : UInt8)).map u8v).toArray) rfl (by kernel_rfl) (by kernel_rfl) (by kernel_rfl) (fun _ _ _ h => h) (.inl ⟨rfl, ?va7⟩) hS0 ?vb7
  case va7 => (intro _ _; go_simp; first | with_reducible rfl | rfl | done)
  case vb7 =>
  simp only [Act.put, List.setIfInBounds_toArray, List.set_cons_succ, List.set_cons_zero]
  refine held_take 7 (v := .bool (!(b.member == List.replicate 16 0))) rfl (by kernel_rfl) (by kernel_rfl) (by kernel_rfl) (fun _ _ _ h => h) (.inl ⟨rfl, ?va8⟩) hS0 ?vb8
  case va8 => (intro wq _; exact exec_cmpE rfl rfl rfl guard_id NM.out wq)
  case vb8 =>
  simp only [Act.put, List.setIfInBounds_toArray, List.set_cons_succ, List.set_cons_zero]
  generalize (!(b.member == List.replicate 16 0)) = f1 at HSET ⊢
  refine held_take 8 (v := .agg #[.string ⟨#[109]⟩, .bool f1]) rfl (by kernel_rfl) (by kernel_rfl) (by kernel_rfl) (fun _ _ _ h => h) (.inl ⟨rfl, ?va9⟩) hS0 ?vb9
  case va9 => (intro _ _; go_simp; try with_reducible rfl)
  case vb9 =>
  simp only [Act.put, List.setIfInBounds_toArray, List.set_cons_succ, List.set_cons_zero]
  refine held_take 9 (v := .pointer (some ⟨w.heap.size, 17, none⟩)) rfl (by kernel_rfl) (by kernel_rfl) (by kernel_rfl) (fun _ _ _ h => h) (.inl ⟨rfl, ?va10⟩) hS0 ?vb10
  case va10 => (intro _ _; go_simp; try with_reducible rfl)
  case vb10 =>
  simp only [Act.put, List.setIfInBounds_toArray, List.set_cons_succ, List.set_cons_zero]
  refine held_take 10 (v := .slice b.ra b.rn b.rc) rfl (by kernel_rfl) (by kernel_rfl) (by kernel_rfl) (fun _ _ _ h => h) (.inl ⟨rfl, ?va11⟩) hS0 ?vb11
  case va11 => (intro wq hwq; have hcq := (BB.out.ext ((HCC.out wq).1 hwq)).cell' (BodyR.at17 HR.out); go_simp; try with_reducible rfl)
  case vb11 =>
  simp only [Act.put, List.setIfInBounds_toArray, List.set_cons_succ, List.set_cons_zero]
  refine held_take 11 (v := .int .i64 (b.rn : Int)) rfl (by kernel_rfl) (by kernel_rfl) (by kernel_rfl) (fun _ _ _ h => h) (.inl ⟨rfl, ?va12⟩) hS0 ?vb12
  case va12 => (intro _ _; go_simp; try with_reducible rfl)
  case vb12 =>
  simp only [Act.put, List.setIfInBounds_toArray, List.set_cons_succ, List.set_cons_zero]
  refine held_take 12 (v := .bool (decide (0 < b.rn))) rfl (by kernel_rfl) (by kernel_rfl) (by kernel_rfl) (fun _ _ _ h => h) (.inl ⟨rfl, ?va13⟩) hS0 ?vb13
  case va13 => (intro _ _; go_simp; first | with_reducible rfl | done)
  case vb13 =>
  simp only [Act.put, List.setIfInBounds_toArray, List.set_cons_succ, List.set_cons_zero]
  generalize (decide (0 < b.rn)) = f2 at HSET ⊢
  refine held_take 13 (v := .agg #[.string ⟨#[114]⟩, .bool f2]) rfl (by kernel_rfl) (by kernel_rfl) (by kernel_rfl) (fun _ _ _ h => h) (.inl ⟨rfl, ?va14⟩) hS0 ?vb14
  case va14 => (intro _ _; go_simp; try with_reducible rfl)
  case vb14 =>
  simp only [Act.put, List.setIfInBounds_toArray, List.set_cons_succ, List.set_cons_zero]
  refine held_take 14 (v := .pointer (some ⟨w.heap.size, 18, none⟩)) rfl (by kernel_rfl) (by kernel_rfl) (by kernel_rfl) (fun _ _ _ h => h) (.inl ⟨rfl, ?va15⟩) hS0 ?vb15
  case va15 => (intro _ _; go_simp; try with_reducible rfl)
  case vb15 =>
  simp only [Act.put, List.setIfInBounds_toArray, List.set_cons_succ, List.set_cons_zero]
  refine held_take 15 (v := .string b.label) rfl (by kernel_rfl) (by kernel_rfl) (by kernel_rfl) (fun _ _ _ h => h) (.inl ⟨rfl, ?va16⟩) hS0 ?vb16
  case va16 => (intro wq hwq; have hcq := (BB.out.ext ((HCC.out wq).1 hwq)).cell' (BodyR.at18 HR.out); go_simp; try with_reducible rfl)
  case vb16 =>
  simp only [Act.put, List.setIfInBounds_toArray, List.set_cons_succ, List.set_cons_zero]
  refine held_take 16 (v := .bool (!b.label.toList.isEmpty)) rfl (by kernel_rfl) (by kernel_rfl) (by kernel_rfl) (fun _ _ _ h => h) (.inl ⟨rfl, ?va17⟩) hS0 ?vb17
  case va17 => (intro _ _; go_simp; try with_reducible rfl)
  case vb17 =>
  simp only [Act.put, List.setIfInBounds_toArray, List.set_cons_succ, List.set_cons_zero]
  generalize (!b.label.toList.isEmpty) = f3 at HSET ⊢
  refine held_take 17 (v := .agg #[.string ⟨#[108]⟩, .bool f3]) rfl (by kernel_rfl) (by kernel_rfl) (by kernel_rfl) (fun _ _ _ h => h) (.inl ⟨rfl, ?va18⟩) hS0 ?vb18
  case va18 => (intro _ _; go_simp; try with_reducible rfl)
  case vb18 =>
  simp only [Act.put, List.setIfInBounds_toArray, List.set_cons_succ, List.set_cons_zero]
  refine held_take 18 (v := .pointer (some ⟨w.heap.size, 19, none⟩)) rfl (by kernel_rfl) (by kernel_rfl) (by kernel_rfl) (fun _ _ _ h => h) (.inl ⟨rfl, ?va19⟩) hS0 ?vb19
  case va19 => (intro _ _; go_simp; try with_reducible rfl)
  case vb19 =>
  simp only [Act.put, List.setIfInBounds_toArray, List.set_cons_succ, List.set_cons_zero]
  refine held_take 19 (v := .agg (b.commit.map u8v).toArray) rfl (by kernel_rfl) (by kernel_rfl) (by kernel_rfl) (fun _ _ _ h => h) (.inl ⟨rfl, ?va20⟩) hS0 ?vb20
  case va20 => (intro wq hwq; exact exec_load_at rfl rfl (BodyR.comm (HRB.out.ext ((HCC.out wq).1 hwq)) (BB.out.ext ((HCC.out wq).1 hwq))) agg_apisum HC.out)
  case vb20 =>
  simp only [Act.put, List.setIfInBounds_toArray, List.set_cons_succ, List.set_cons_zero]
  refine held_take 20 (v := .agg ((List.replicate 32 (0 : UInt8)).map u8v).toArray) rfl (by kernel_rfl) (by kernel_rfl) (by kernel_rfl) (fun _ _ _ h => h) (.inl ⟨rfl, ?va21⟩) hS0 ?vb21
  case va21 => (intro _ _; go_simp; first | with_reducible rfl | rfl | done)
  case vb21 =>
  simp only [Act.put, List.setIfInBounds_toArray, List.set_cons_succ, List.set_cons_zero]
  refine held_take 21 (v := .bool (!(b.commit == List.replicate 32 0))) rfl (by kernel_rfl) (by kernel_rfl) (by kernel_rfl) (fun _ _ _ h => h) (.inl ⟨rfl, ?va22⟩) hS0 ?vb22
  case va22 => (intro wq _; exact exec_cmpE rfl rfl rfl guard_sum NC.out wq)
  case vb22 =>
  simp only [Act.put, List.setIfInBounds_toArray, List.set_cons_succ, List.set_cons_zero]
  generalize (!(b.commit == List.replicate 32 0)) = f4 at HSET ⊢
  refine held_take 22 (v := .agg #[.string ⟨#[99]⟩, .bool f4]) rfl (by kernel_rfl) (by kernel_rfl) (by kernel_rfl) (fun _ _ _ h => h) (.inl ⟨rfl, ?va23⟩) hS0 ?vb23
  case va23 => (intro _ _; go_simp; try with_reducible rfl)
  case vb23 =>
  simp only [Act.put, List.setIfInBounds_toArray, List.set_cons_succ, List.set_cons_zero]
  refine held_take 23 (v := .pointer (some ⟨w.heap.size, 51, none⟩)) rfl (by kernel_rfl) (by kernel_rfl) (by kernel_rfl) (fun _ _ _ h => h) (.inl ⟨rfl, ?va24⟩) hS0 ?vb24
  case va24 => (intro _ _; go_simp; try with_reducible rfl)
  case vb24 =>
  simp only [Act.put, List.setIfInBounds_toArray, List.set_cons_succ, List.set_cons_zero]
  refine held_take 24 (v := .int .i64 b.epoch) rfl (by kernel_rfl) (by kernel_rfl) (by kernel_rfl) (fun _ _ _ h => h) (.inl ⟨rfl, ?va25⟩) hS0 ?vb25
  case va25 => (intro wq hwq; have hcq := (BB.out.ext ((HCC.out wq).1 hwq)).cell' (BodyR.at51 HR.out); go_simp; try with_reducible rfl)
  case vb25 =>
  simp only [Act.put, List.setIfInBounds_toArray, List.set_cons_succ, List.set_cons_zero]
  refine held_take 25 (v := .bool (b.epoch != 0)) rfl (by kernel_rfl) (by kernel_rfl) (by kernel_rfl) (fun _ _ _ h => h) (.inl ⟨rfl, ?va26⟩) hS0 ?vb26
  case va26 => (intro _ _; go_simp; first | with_reducible rfl | done)
  case vb26 =>
  simp only [Act.put, List.setIfInBounds_toArray, List.set_cons_succ, List.set_cons_zero]
  generalize (b.epoch != 0) = f5 at HSET ⊢
  refine held_take 26 (v := .agg #[.string ⟨#[101]⟩, .bool f5]) rfl (by kernel_rfl) (by kernel_rfl) (by kernel_rfl) (fun _ _ _ h => h) (.inl ⟨rfl, ?va27⟩) hS0 ?vb27
  case va27 => (intro _ _; go_simp; try with_reducible rfl)
  case vb27 =>
  simp only [Act.put, List.setIfInBounds_toArray, List.set_cons_succ, List.set_cons_zero]
  refine held_take 27 (v := .pointer (some ⟨w.heap.size, 52, none⟩)) rfl (by kernel_rfl) (by kernel_rfl) (by kernel_rfl) (fun _ _ _ h => h) (.inl ⟨rfl, ?va28⟩) hS0 ?vb28
  case va28 => (intro _ _; go_simp; try with_reducible rfl)
  case vb28 =>
  simp only [Act.put, List.setIfInBounds_toArray, List.set_cons_succ, List.set_cons_zero]
  refine held_take 28 (v := .int .i64 b.purpose) rfl (by kernel_rfl) (by kernel_rfl) (by kernel_rfl) (fun _ _ _ h => h) (.inl ⟨rfl, ?va29⟩) hS0 ?vb29
  case va29 => (intro wq hwq; have hcq := (BB.out.ext ((HCC.out wq).1 hwq)).cell' (BodyR.at52 HR.out); go_simp; try with_reducible rfl)
  case vb29 =>
  simp only [Act.put, List.setIfInBounds_toArray, List.set_cons_succ, List.set_cons_zero]
  refine held_take 29 (v := .bool (b.purpose != 0)) rfl (by kernel_rfl) (by kernel_rfl) (by kernel_rfl) (fun _ _ _ h => h) (.inl ⟨rfl, ?va30⟩) hS0 ?vb30
  case va30 => (intro _ _; go_simp; first | with_reducible rfl | done)
  case vb30 =>
  simp only [Act.put, List.setIfInBounds_toArray, List.set_cons_succ, List.set_cons_zero]
  generalize (b.purpose != 0) = f6 at HSET ⊢
  refine held_take 30 (v := .agg #[.string ⟨#[112]⟩, .bool f6]) rfl (by kernel_rfl) (by kernel_rfl) (by kernel_rfl) (fun _ _ _ h => h) (.inl ⟨rfl, ?va31⟩) hS0 ?vb31
  case va31 => (intro _ _; go_simp; try with_reducible rfl)
  case vb31 =>
  simp only [Act.put, List.setIfInBounds_toArray, List.set_cons_succ, List.set_cons_zero]
  refine held_take 31 (v := .pointer (some ⟨w.heap.size, 53, none⟩)) rfl (by kernel_rfl) (by kernel_rfl) (by kernel_rfl) (fun _ _ _ h => h) (.inl ⟨rfl, ?va32⟩) hS0 ?vb32
  case va32 => (intro _ _; go_simp; try with_reducible rfl)
  case vb32 =>
  simp only [Act.put, List.setIfInBounds_toArray, List.set_cons_succ, List.set_cons_zero]
  refine held_take 32 (v := .int .i64 b.reason) rfl (by kernel_rfl) (by kernel_rfl) (by kernel_rfl) (fun _ _ _ h => h) (.inl ⟨rfl, ?va33⟩) hS0 ?vb33
  case va33 => (intro wq hwq; have hcq := (BB.out.ext ((HCC.out wq).1 hwq)).cell' (BodyR.at53 HR.out); go_simp; try with_reducible rfl)
  case vb33 =>
  simp only [Act.put, List.setIfInBounds_toArray, List.set_cons_succ, List.set_cons_zero]
  refine held_take 33 (v := .bool (b.reason != 0)) rfl (by kernel_rfl) (by kernel_rfl) (by kernel_rfl) (fun _ _ _ h => h) (.inl ⟨rfl, ?va34⟩) hS0 ?vb34
  case va34 => (intro _ _; go_simp; first | with_reducible rfl | done)
  case vb34 =>
  simp only [Act.put, List.setIfInBounds_toArray, List.set_cons_succ, List.set_cons_zero]
  generalize (b.reason != 0) = f7 at HSET ⊢
  refine held_take 34 (v := .agg #[.string ⟨#[97]⟩, .bool f7]) rfl (by kernel_rfl) (by kernel_rfl) (by kernel_rfl) (fun _ _ _ h => h) (.inl ⟨rfl, ?va35⟩) hS0 ?vb35
  case va35 => (intro _ _; go_simp; try with_reducible rfl)
  case vb35 =>
  simp only [Act.put, List.setIfInBounds_toArray, List.set_cons_succ, List.set_cons_zero]
  refine held_take 35 (v := .pointer (some ⟨w.heap.size, 54, none⟩)) rfl (by kernel_rfl) (by kernel_rfl) (by kernel_rfl) (fun _ _ _ h => h) (.inl ⟨rfl, ?va36⟩) hS0 ?vb36
  case va36 => (intro _ _; go_simp; try with_reducible rfl)
  case vb36 =>
  simp only [Act.put, List.setIfInBounds_toArray, List.set_cons_succ, List.set_cons_zero]
  refine held_take 36 (v := .int .i64 b.need) rfl (by kernel_rfl) (by kernel_rfl) (by kernel_rfl) (fun _ _ _ h => h) (.inl ⟨rfl, ?va37⟩) hS0 ?vb37
  case va37 => (intro wq hwq; have hcq := (BB.out.ext ((HCC.out wq).1 hwq)).cell' (BodyR.at54 HR.out); go_simp; try with_reducible rfl)
  case vb37 =>
  simp only [Act.put, List.setIfInBounds_toArray, List.set_cons_succ, List.set_cons_zero]
  refine held_take 37 (v := .bool (b.need != 0)) rfl (by kernel_rfl) (by kernel_rfl) (by kernel_rfl) (fun _ _ _ h => h) (.inl ⟨rfl, ?va38⟩) hS0 ?vb38
  case va38 => (intro _ _; go_simp; first | with_reducible rfl | done)
  case vb38 =>
  simp only [Act.put, List.setIfInBounds_toArray, List.set_cons_succ, List.set_cons_zero]
  generalize (b.need != 0) = f8 at HSET ⊢
  refine held_take 38 (v := .agg #[.string ⟨#[110]⟩, .bool f8]) rfl (by kernel_rfl) (by kernel_rfl) (by kernel_rfl) (fun _ _ _ h => h) (.inl ⟨rfl, ?va39⟩) hS0 ?vb39
  case va39 => (intro _ _; go_simp; try with_reducible rfl)
  case vb39 =>
  simp only [Act.put, List.setIfInBounds_toArray, List.set_cons_succ, List.set_cons_zero]
  refine held_take 39 (v := .pointer (some ⟨w.heap.size, 57, none⟩)) rfl (by kernel_rfl) (by kernel_rfl) (by kernel_rfl) (fun _ _ _ h => h) (.inl ⟨rfl, ?va40⟩) hS0 ?vb40
  case va40 => (intro _ _; go_simp; try with_reducible rfl)
  case vb40 =>
  simp only [Act.put, List.setIfInBounds_toArray, List.set_cons_succ, List.set_cons_zero]
  refine held_take 40 (v := .slice b.ha b.hn b.hc) rfl (by kernel_rfl) (by kernel_rfl) (by kernel_rfl) (fun _ _ _ h => h) (.inl ⟨rfl, ?va41⟩) hS0 ?vb41
  case va41 => (intro wq hwq; have hcq := (BB.out.ext ((HCC.out wq).1 hwq)).cell' (BodyR.at57 HR.out); go_simp; try with_reducible rfl)
  case vb41 =>
  simp only [Act.put, List.setIfInBounds_toArray, List.set_cons_succ, List.set_cons_zero]
  refine held_take 41 (v := .int .i64 (b.hn : Int)) rfl (by kernel_rfl) (by kernel_rfl) (by kernel_rfl) (fun _ _ _ h => h) (.inl ⟨rfl, ?va42⟩) hS0 ?vb42
  case va42 => (intro _ _; go_simp; try with_reducible rfl)
  case vb42 =>
  simp only [Act.put, List.setIfInBounds_toArray, List.set_cons_succ, List.set_cons_zero]
  refine held_take 42 (v := .bool (decide (0 < b.hn))) rfl (by kernel_rfl) (by kernel_rfl) (by kernel_rfl) (fun _ _ _ h => h) (.inl ⟨rfl, ?va43⟩) hS0 ?vb43
  case va43 => (intro _ _; go_simp; first | with_reducible rfl | done)
  case vb43 =>
  simp only [Act.put, List.setIfInBounds_toArray, List.set_cons_succ, List.set_cons_zero]
  generalize (decide (0 < b.hn)) = f9 at HSET ⊢
  refine held_take 43 (v := .agg #[.string ⟨#[104]⟩, .bool f9]) rfl (by kernel_rfl) (by kernel_rfl) (by kernel_rfl) (fun _ _ _ h => h) (.inl ⟨rfl, ?va44⟩) hS0 ?vb44
  case va44 => (intro _ _; go_simp; try with_reducible rfl)
  case vb44 =>
  simp only [Act.put, List.setIfInBounds_toArray, List.set_cons_succ, List.set_cons_zero]
  refine held_take 44 (v := .pointer (some ⟨w.heap.size, 55, none⟩)) rfl (by kernel_rfl) (by kernel_rfl) (by kernel_rfl) (fun _ _ _ h => h) (.inl ⟨rfl, ?va45⟩) hS0 ?vb45
  case va45 => (intro _ _; go_simp; try with_reducible rfl)
  case vb45 =>
  simp only [Act.put, List.setIfInBounds_toArray, List.set_cons_succ, List.set_cons_zero]
  refine held_take 45 (v := .int .i64 b.version) rfl (by kernel_rfl) (by kernel_rfl) (by kernel_rfl) (fun _ _ _ h => h) (.inl ⟨rfl, ?va46⟩) hS0 ?vb46
  case va46 => (intro wq hwq; have hcq := (BB.out.ext ((HCC.out wq).1 hwq)).cell' (BodyR.at55 HR.out); go_simp; try with_reducible rfl)
  case vb46 =>
  simp only [Act.put, List.setIfInBounds_toArray, List.set_cons_succ, List.set_cons_zero]
  refine held_take 46 (v := .bool (b.version != 0)) rfl (by kernel_rfl) (by kernel_rfl) (by kernel_rfl) (fun _ _ _ h => h) (.inl ⟨rfl, ?va47⟩) hS0 ?vb47
  case va47 => (intro _ _; go_simp; first | with_reducible rfl | done)
  case vb47 =>
  simp only [Act.put, List.setIfInBounds_toArray, List.set_cons_succ, List.set_cons_zero]
  generalize (b.version != 0) = f10 at HSET ⊢
  refine held_take 47 (v := .agg #[.string ⟨#[118]⟩, .bool f10]) rfl (by kernel_rfl) (by kernel_rfl) (by kernel_rfl) (fun _ _ _ h => h) (.inl ⟨rfl, ?va48⟩) hS0 ?vb48
  case va48 => (intro _ _; go_simp; try with_reducible rfl)
  case vb48 =>
  simp only [Act.put, List.setIfInBounds_toArray, List.set_cons_succ, List.set_cons_zero]
  refine held_take 48 (v := .pointer (some ⟨w.heap.size, 56, none⟩)) rfl (by kernel_rfl) (by kernel_rfl) (by kernel_rfl) (fun _ _ _ h => h) (.inl ⟨rfl, ?va49⟩) hS0 ?vb49
  case va49 => (intro _ _; go_simp; try with_reducible rfl)
  case vb49 =>
  simp only [Act.put, List.setIfInBounds_toArray, List.set_cons_succ, List.set_cons_zero]
  refine held_take 49 (v := .int .i64 b.count) rfl (by kernel_rfl) (by kernel_rfl) (by kernel_rfl) (fun _ _ _ h => h) (.inl ⟨rfl, ?va50⟩) hS0 ?vb50
  case va50 => (intro wq hwq; have hcq := (BB.out.ext ((HCC.out wq).1 hwq)).cell' (BodyR.at56 HR.out); go_simp; try with_reducible rfl)
  case vb50 =>
  simp only [Act.put, List.setIfInBounds_toArray, List.set_cons_succ, List.set_cons_zero]
  refine held_take 50 (v := .bool (b.count != 0)) rfl (by kernel_rfl) (by kernel_rfl) (by kernel_rfl) (fun _ _ _ h => h) (.inl ⟨rfl, ?va51⟩) hS0 ?vb51
  case va51 => (intro _ _; go_simp; first | with_reducible rfl | done)
  case vb51 =>
  simp only [Act.put, List.setIfInBounds_toArray, List.set_cons_succ, List.set_cons_zero]
  generalize (b.count != 0) = f11 at HSET ⊢
  refine held_take 51 (v := .agg #[.string ⟨#[107]⟩, .bool f11]) rfl (by kernel_rfl) (by kernel_rfl) (by kernel_rfl) (fun _ _ _ h => h) (.inl ⟨rfl, ?va52⟩) hS0 ?vb52
  case va52 => (intro _ _; go_simp; try with_reducible rfl)
  case vb52 =>
  simp only [Act.put, List.setIfInBounds_toArray, List.set_cons_succ, List.set_cons_zero]
  have hrp := run_pairs f0 f1 f2 f3 f4 f5 f6 f7 f8 f9 f10 f11
  refine held_take 54 (v := ?tv83) rfl (by kernel_rfl) (by kernel_rfl) (by kernel_rfl) (fun _ _ _ h => h) (.inl ⟨rfl, ?ty83⟩) hS0 ?tr83
  case ty83 => (intro _ _; go_simp; try with_reducible rfl)
  case tr83 =>
  simp only [Act.put, List.setIfInBounds_toArray, List.set_cons_succ, List.set_cons_zero]
  refine held_one (i := 52) (by kernel_rfl) rfl ?_
  intro Q' hQ
  go_wp2_with fail
  refine hQ _ _ (hCx _ _ hS0 ((Ext.refl _).alloc _)) ?_
  clear hQ Q' hrp
  generalize hwG : World.drew (World.alloc w2 _) = wG
  have qG : Blk wG w2.heap.size (pcells [(116, f0), (109, f1), (114, f2), (108, f3), (99, f4), (101, f5), (112, f6), (97, f7), (110, f8), (104, f9), (118, f10), (107, f11)]) PT := by rw [← hwG]; exact Blk.mk_alloc rfl rfl
  have eG : Ext w2 wG := by rw [← hwG]; exact ((Ext.refl w2).alloc _).drew
  have hS9 : C wG := (HCC.out _).2 eG
  clear hS0 hwG
  have hS0 := hS9
  clear hS9
  try dsimp only
  try simp only [Act.put, List.setIfInBounds_toArray, List.set_cons_succ, List.set_cons_zero]
  refine held_take 53 (v := ?tv84) rfl (by kernel_rfl) (by kernel_rfl) (by kernel_rfl) (fun _ _ _ h => h) (.inl ⟨rfl, ?ty84⟩) hS0 ?tr84
  case ty84 => (intro _ _; go_simp; try with_reducible rfl)
  case tr84 =>
  simp only [Act.put, List.setIfInBounds_toArray, List.set_cons_succ, List.set_cons_zero]
  refine wpAnyH_done (by kernel_rfl) ?_ _
  obtain ⟨pl, hpl⟩ : ∃ pl : List (UInt8 × Bool), [(116, f0), (109, f1), (114, f2), (108, f3), (99, f4), (101, f5), (112, f6), (97, f7), (110, f8), (104, f9), (118, f10), (107, f11)] = pl := ⟨_, rfl⟩
  have hpat := pairs_at f0 f1 f2 f3 f4 f5 f6 f7 f8 f9 f10 f11
  rw [hpl] at qG hpat
  obtain ⟨fs, hfs⟩ : ∃ fs, [f0, f1, f2, f3, f4, f5, f6, f7, f8, f9, f10, f11] = fs := ⟨_, rfl⟩
  rw [hfs] at hpat
  have hbs : b.set = fs := by rw [← hfs]; exact HSET.out
  have hfl : fs.length = 12 := by rw [← hfs]; rfl
  obtain ⟨qg, hqg⟩ : ∃ qg, w2.heap.size = qg := ⟨_, rfl⟩
  rw [hqg] at qG ⊢
  have QG := hid qG
  have EG := hid (EB.out.ext eG)
  have HPAT := hid hpat
  have HBS := hid hbs
  have HFL := hid hfl
  obtain ⟨X, hX⟩ : ∃ X, extraB b (needsL (K : Int)) = X := ⟨_, rfl⟩
  have hXX : X = ((needsL (K : Int)).zip fs).any (fun p => !p.1 && p.2) := by rw [← hX, ← HBS.out]; exact hextra.out
  have HX := hid hX
  have HXX := hid hXX
  clear hpl hpat hfs hbs hfl hqg qG eG hX hXX BB EB HRB HSET hS0 hCx HCC
  go_wp2_with fail
  go_loopw [64] (fun i wr => ∃ k : Nat, k ≤ 12 ∧ i = .int .i64 (k : Int) ∧ (∀ j, j < k → ¬ (needAt (K : Int) j = false ∧ fs.getD j false = true)) ∧ Ext wG wr) (fun i _ => 12 - (intOf i).toNat)
  case atStart => exact ⟨0, by omega, rfl, fun j hj => by omega, Ext.refl _⟩
  case round =>
    obtain ⟨k, hk, rfl, hall, e4⟩ := hrel
    have HALL := hid hall
    have E4 := hid e4
    clear hall
    by_cases hlt : k < 12
    · have d1 : decide ((k : Int) < (12 : Int)) = true := decide_eq_true (by omega)
      have d2 : decide (k < 12) = true := decide_eq_true hlt
      have q4 := QG.out.ext e4
      have hpk := HPAT.out k hlt
      obtain ⟨pb, hpb⟩ : ∃ pb, fs.getD k false = pb := ⟨_, rfl⟩
      rw [hpb] at hpk
      have hcp : CellsAt wr ((⟨qg, 0, none⟩ : Addr).add (k * 2)) [Value.string ⟨#[letter k]⟩, .bool pb] := by
        intro j u hu
        have hj : j < 2 := (List.getElem?_eq_some_iff.1 hu).1
        rw [addr_add, addr_add]
        refine q4.cell' ?_
        rw [show 0 + k * 2 + j = 2 * k + j by omega, pcells_at hpk j hj]; exact hu
      have HCP := hid hcp
      have HPB := hid hpb
      have hcall := hid (fun w => hhas.out k w hlt)
      obtain ⟨sl, hsl⟩ : ∃ sl : ByteArray, (⟨#[letter k]⟩ : ByteArray) = sl := ⟨_, rfl⟩
      rw [hsl] at HCP hcall
      obtain ⟨nb, hnb⟩ : ∃ nb, needAt (K : Int) k = nb := ⟨_, rfl⟩
      rw [hnb] at hcall
      have HNB := hid hnb
      have eN : Ext wG (wr.alloc (.cells #[.string sl, .bool pb] PT)) := e4.ext ((Ext.refl wr).alloc _)
      have EN := hid eN
      clear hcp hpk hpb q4 hsl hnb e4 eN
      cases pb with
      | false =>
        go_wp2_with (first | (refine wpl_run rfl (exec_index (i := k) rfl rfl rfl Try.underlying191 size_p hlt _) ?_) | (refine wpl_run rfl (exec_load_at rfl rfl HCP.out agg_p rfl) ?_))
        go_roundw
        case rel =>
          (repeat apply Exists.intro)
          refine ⟨?rel2, ?fr⟩
          case fr => rfl
          case rel2 => exact ⟨k + 1, by omega, by go_num, fun j hj => by
            by_cases hjk : j = k
            · subst hjk; rw [HPB.out]; simp
            · exact HALL.out j (by omega), EN.out⟩
        case measure => simp [intOf]; omega
      | true =>
        go_wp2_with (first | (refine wpl_run rfl (exec_index (i := k) rfl rfl rfl Try.underlying191 size_p hlt _) ?_) | (refine wpl_run rfl (exec_load_at rfl rfl HCP.out agg_p rfl) ?_))
        refine (hcall.out _).mono ?_
        rintro e w7 ⟨rfl, hw7⟩
        have E7 : Hid (Ext wG w7) := hid (hw7 ▸ EN.out)
        clear hw7 EN
        cases nb with
        | true =>
          go_wp2_with fail
          go_roundw
          case rel =>
            (repeat apply Exists.intro)
            refine ⟨?rel2, ?fr⟩
            case fr => rfl
            case rel2 => exact ⟨k + 1, by omega, by go_num, fun j hj => by
              by_cases hjk : j = k
              · subst hjk; rw [HNB.out]; simp
              · exact HALL.out j (by omega), E7.out⟩
          case measure => simp [intOf]; omega
        | false =>
          have hx : X = true := by
            rw [HXX.out]
            exact (extra_any HFL.out (needsL_len _)).2 ⟨k, hlt, HNB.out, HPB.out⟩
          have HXT := hid (HX.out.trans hx)
          clear hx
          go_wp2_with fail
          go_ret
          exact ⟨by rw [← HRR.out, HXT.out]; rfl, EG.out.ext E7.out⟩
    · have d1 : decide ((k : Int) < (12 : Int)) = false := decide_eq_false (by omega)
      have d2 : decide (k < 12) = false := decide_eq_false hlt
      have hx : X = false := by
        rw [HXX.out]
        cases hz : ((needsL (K : Int)).zip fs).any (fun p => !p.1 && p.2) with
        | false => rfl
        | true =>
          obtain ⟨j, hj, h1, h2⟩ := (extra_any HFL.out (needsL_len _)).1 hz
          exact absurd ⟨h1, h2⟩ (HALL.out j (by omega))
      have HXT := hid (HX.out.trans hx)
      clear hx e4
      go_wp2_with fail
      go_ret
      exact ⟨by rw [← HRR.out, HXT.out]; rfl, EG.out.ext E4.out⟩
end
end Go.Proofs.Ytkcjdginoccgjaa
