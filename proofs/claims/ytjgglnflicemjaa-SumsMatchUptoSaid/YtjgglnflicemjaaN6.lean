/- The law NumbersArePut: its walk; conditions: the slice's size. -/
import Derived.Test.YtjgglnflicemjaaN5
import Derived.Test.YtjgglnflicemjaaL2
namespace Go.Proofs.Ytjgglnflicemjaa
open Go Go.RowKit

theorem shift_some (b off c p : Nat) (h : ¬ c = p) : shift (some ⟨b, off, none⟩) c p = some ⟨b, off + p, none⟩ := by
  have hadd : (⟨b, off, none⟩ : Addr).add p = ⟨b, off + p, none⟩ := by unfold Addr.add; split <;> simp_all
  rw [shift, if_neg h, Option.map_some, hadd]

theorem wpQuiet_no {P : Program} {ops : Array Oper} {C : World → Prop} {Q : Act → Prop} {o : Oper} {rest : List Oper} {a : Act} (hw : Region.wanted o (yielded ops a.tmps) = false)
    (h : wpQuiet P ops C Q rest (a.put o.dst undef)) : wpQuiet P ops C Q (o :: rest) a := by
  unfold wpQuiet; rw [hw]; exact h

attribute [local irreducible] wpQuiet

theorem roomE_mono {n : Nat} {at_ : Int} (h : ¬ roomE n at_ 4 = 0) : ¬ roomE n at_ 8 = 0 := by
  intro h8
  obtain ⟨p, rfl, hp⟩ := roomE_zero h8 (by omega)
  apply h
  unfold roomE
  rw [if_neg (by omega), if_neg (by omega)]

theorem take_cells {w : World} {a : Option Addr} {l m : List UInt8} {n : Nat} (h : Cells w a ((l ++ m).map u8v)) (hn : l.length = n) : Cells w a (l.map u8v) := by
  have := h.take n
  rwa [← List.map_take, List.take_left' hn] at this



set_option maxRecDepth 100000 in
set_option maxHeartbeats 1000000 in
theorem numbersPut_C (l : List UInt8) (a : Option Addr) (n c : Nat) (at_ : Int) (x : UInt32) (k : Int) (w : World) (hnl : l.length = n) (hnc : n ≤ c) (hc : c ≤ 140737488351232) (hcl : Cells w a (l.map u8v)) (h0 : a = none → c = 0) (h4 : ¬ roomE n at_ 4 = 0) :
    Calls Try.prog 5 #[.slice a n c, .int .i64 at_, .int .u32 x.toNat, .int .i64 k] w fun e w' => e = .returned (.bool true) ∧ Ext w w' := by
  have HN := hid hnl
  have HC := hid hcl
  have H0 := hid h0
  clear hnl hcl h0
  have h8 := roomE_mono h4
  have hnum : numOf l n at_ = .tuple #[.int .u32 0, .int .i64 (roomE n at_ 4)] := by rw [numOf, if_neg h4]
  have hlong : longOf l n at_ = .tuple #[.int .i64 0, .int .i64 (roomE n at_ 8)] := by rw [longOf, if_neg h8]
  obtain ⟨r4, hr4⟩ : ∃ r4, roomE n at_ 4 = r4 := ⟨_, rfl⟩
  obtain ⟨r8, hr8⟩ : ∃ r8, roomE n at_ 8 = r8 := ⟨_, rfl⟩
  rw [hr4] at hnum h4
  rw [hr8] at hlong h8
  have HR4 := hid hr4
  have HR8 := hid hr8
  have HNUM := hid hnum
  have HLONG := hid hlong
  have b4 : (r4 == 0) = false := by simpa using h4
  have b8 : (r8 == 0) = false := by simpa using h8
  clear hnum hlong hr4 hr8
  go_enter Try.func5, Try.ntmps5
  go_wp2_with fail
  refine (landed_c w).mono ?_
  rintro e w1 ⟨rfl, e1⟩
  go_wp2_with fail
  refine (rCut_c _ n c at_ 4 w1 (by omega) (by omega) (by omega) (by omega) (by omega)).mono ?_
  rintro e w2 ⟨rfl, rfl⟩
  rw [HR4.out, if_neg h4]
  go_wp2_with fail
  refine (number_c l _ n c at_ w1 HN.out (by omega) (by omega) (HC.out.ext e1)).mono ?_
  rintro e w2 ⟨rfl, e2⟩
  rw [HNUM.out]
  have e3 : Ext w w2 := e1.ext e2
  clear e1 e2
  go_wp2_with fail
  refine wp_region_quiet_lit (by kernel_rfl) (by kernel_rfl) ?_
  iterate 7 quiet_step (fail)
  iterate 24
    refine wpQuiet_no (by rfl) ?_
    simp only [Act.put, List.setIfInBounds_toArray, List.set_cons_succ, List.set_cons_zero]
  iterate 2 quiet_step (fail)
  refine wpQuiet_nil ?_
  intro _ hw'
  obtain ⟨nq, hw''⟩ := hw'
  subst hw''
  have e4 := e3.drewN nq
  generalize w2.drewN nq = w3 at *
  clear e3
  go_wp2_with fail
  refine (rCut_c _ n c at_ 8 w3 (by omega) (by omega) (by omega) (by omega) (by omega)).mono ?_
  rintro e w4 ⟨rfl, rfl⟩
  rw [HR8.out, if_neg h8]
  go_wp2_with fail
  refine (long_c l _ n c at_ w3 HN.out (by omega) (by omega) (HC.out.ext e4)).mono ?_
  rintro e w4 ⟨rfl, e5⟩
  rw [HLONG.out]
  have e6 := e4.ext e5
  clear e4 e5
  go_wp2_with fail
  refine wp_region_quiet_lit (by kernel_rfl) (by kernel_rfl) ?_
  iterate 3 quiet_step (fail)
  iterate 17
    refine wpQuiet_no (by rfl) ?_
    simp only [Act.put, List.setIfInBounds_toArray, List.set_cons_succ, List.set_cons_zero]
  iterate 1 quiet_step (fail)
  refine wpQuiet_nil ?_
  intro _ hw'
  obtain ⟨nq, hw''⟩ := hw'
  subst hw''
  have e7 := e6.drewN nq
  generalize w4.drewN nq = w5 at *
  clear e6
  go_wp2_with fail
  refine (putLong_c l _ n c 0 w5 HN.out (by omega) (HC.out.ext e7) H0.out).mono ?_
  rintro e wx ⟨v6, rfl, own6, e8⟩
  have ex := e7.ext e8
  clear e7 e8 own6
  go_wp2_with fail
  refine (putNumber_c l _ n c x wx HN.out (by omega) (HC.out.ext ex) H0.out).mono ?_
  rintro e w5 ⟨v5, rfl, own5, e5⟩
  have f5 := ex.ext e5
  obtain ⟨a5, c5, rfl, n5, _, _, s5⟩ := own_slice own5
  clear own5 e5 ex
  go_wp2_with fail
  refine (number_c (l ++ octL x) a5 (n + 4) c5 n w5 (by rw [List.length_append, HN.out]; rfl) (by omega) (by omega) s5).mono ?_
  rintro e w6 ⟨rfl, e6⟩
  have hz4 : roomE (n + 4) (n : Int) 4 = 0 := by
    unfold roomE
    rw [if_neg (by omega), if_neg (by omega)]
  have hv6 : numOf (l ++ octL x) (n + 4) (n : Int) = .tuple #[.int .u32 (x.toNat : Nat), .int .i64 0] := by
    rw [numOf, if_pos hz4, Int.toNat_natCast, word4_octL l x n HN.out]
  rw [hv6]
  have s6 : Cells w6 a5 ((l ++ octL x).map u8v) := s5.ext e6
  have f6 := f5.ext e6
  clear e6 f5 hz4 hv6
  go_wp2_with fail
  refine (equal_c l l a5 _ n n _ _ w6 HN.out.symm HN.out.symm (take_cells s6 HN.out) (HC.out.ext f6)).mono ?_
  rintro e w7 ⟨rfl, rfl⟩
  rw [beq_self_eq_true]
  clear s6 s5
  go_wp2_with fail
  refine (putLong_c l _ n c k w6 HN.out (by omega) (HC.out.ext f6) H0.out).mono ?_
  rintro e w7 ⟨v7, rfl, own7, e7⟩
  have f7 := f6.ext e7
  obtain ⟨a7, c7, rfl, n7, _, _, s7⟩ := own_slice own7
  clear own7 e7 f6
  have hlk := longNat_lt k
  have hz8 : roomE (n + 8) (n : Int) 8 = 0 := by
    unfold roomE
    rw [if_neg (by omega), if_neg (by omega)]
  have hl8 : long8 (l ++ longL (UInt64.ofNat (longNat k))) n = longNat k := by
    rw [long8_longL l _ n HN.out, UInt64.toNat_ofNat']; omega
  have hv8 : longOf (l ++ longL (UInt64.ofNat (longNat k))) (n + 8) (n : Int) = .tuple #[.int .i64 (longNat k : Nat), .int .i64 0] := by
    rw [longOf, if_pos hz8, Int.toNat_natCast, hl8, if_pos hlk]
  have HV8 := hid hv8
  clear hz8 hl8 hlk hv8
  by_cases hk1 : k < 0
  · have hk3 : (longNat k : Int) = 0 := by rw [longNat, if_pos (Or.inl hk1)]; rfl
    rw [hk3] at HV8
    clear hk3
    go_wp2_with fail
    refine (long_c (l ++ longL (UInt64.ofNat (longNat k))) a7 (n + 8) c7 n w7 (by rw [List.length_append, HN.out]; rfl) (by omega) (by omega) s7).mono ?_
    rintro e w8 ⟨rfl, e8⟩
    rw [HV8.out]
    have s8 : Cells w8 a7 ((l ++ longL (UInt64.ofNat (longNat k))).map u8v) := s7.ext e8
    have f8 := f7.ext e8
    clear e8 f7 s7 HV8
    go_wp2_with fail
    refine (equal_c l l a7 _ n n _ _ w8 HN.out.symm HN.out.symm (take_cells s8 HN.out) (HC.out.ext f8)).mono ?_
    rintro e w9 ⟨rfl, rfl⟩
    rw [beq_self_eq_true]
    go_wp2
    go_ret
    exact ⟨rfl, f8⟩
  · by_cases hk2 : 4611686018427387904 < k
    · have hk3 : (longNat k : Int) = 0 := by rw [longNat, if_pos (Or.inr hk2)]; rfl
      rw [hk3] at HV8
      clear hk3
      go_wp2_with fail
      refine (long_c (l ++ longL (UInt64.ofNat (longNat k))) a7 (n + 8) c7 n w7 (by rw [List.length_append, HN.out]; rfl) (by omega) (by omega) s7).mono ?_
      rintro e w8 ⟨rfl, e8⟩
      rw [HV8.out]
      have s8 : Cells w8 a7 ((l ++ longL (UInt64.ofNat (longNat k))).map u8v) := s7.ext e8
      have f8 := f7.ext e8
      clear e8 f7 s7 HV8
      go_wp2_with fail
      refine (equal_c l l a7 _ n n _ _ w8 HN.out.symm HN.out.symm (take_cells s8 HN.out) (HC.out.ext f8)).mono ?_
      rintro e w9 ⟨rfl, rfl⟩
      rw [beq_self_eq_true]
      go_wp2
      go_ret
      exact ⟨rfl, f8⟩
    · have hk3 : (longNat k : Int) = k := by rw [longNat, if_neg (by omega)]; omega
      rw [hk3] at HV8
      clear hk3
      go_wp2_with fail
      refine (long_c (l ++ longL (UInt64.ofNat (longNat k))) a7 (n + 8) c7 n w7 (by rw [List.length_append, HN.out]; rfl) (by omega) (by omega) s7).mono ?_
      rintro e w8 ⟨rfl, e8⟩
      rw [HV8.out]
      have s8 : Cells w8 a7 ((l ++ longL (UInt64.ofNat (longNat k))).map u8v) := s7.ext e8
      have f8 := f7.ext e8
      clear e8 f7 s7 HV8
      go_wp2_with fail
      refine (equal_c l l a7 _ n n _ _ w8 HN.out.symm HN.out.symm (take_cells s8 HN.out) (HC.out.ext f8)).mono ?_
      rintro e w9 ⟨rfl, rfl⟩
      rw [beq_self_eq_true]
      go_wp2
      go_ret
      exact ⟨rfl, f8⟩
end Go.Proofs.Ytjgglnflicemjaa
