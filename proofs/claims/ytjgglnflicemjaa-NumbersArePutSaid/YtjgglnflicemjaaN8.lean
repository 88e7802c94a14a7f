/- The law NumbersArePut: its first octet is below 64, or is 64; conditions: the slice's size. -/
import Derived.Test.YtjgglnflicemjaaN7
import Derived.Deep.RegionWith
namespace Go.Proofs.Ytjgglnflicemjaa
open Go Go.RowKit
attribute [local irreducible] wpQuiet


set_option maxRecDepth 100000 in
set_option maxHeartbeats 1000000 in
theorem numbersPut_A2 (l : List UInt8) (a : Option Addr) (n c : Nat) (at_ : Int) (x : UInt32) (k : Int) (w : World) (hnl : l.length = n) (hnc : n ≤ c) (hc : c ≤ 140737488351232) (hcl : Cells w a (l.map u8v)) (h0 : a = none → c = 0) (h4 : roomE n at_ 4 = 0) (h8 : roomE n at_ 8 = 0) (h64 : (l[at_.toNat]?.getD 0).toNat < 64) :
    Calls Try.prog 5 #[.slice a n c, .int .i64 at_, .int .u32 x.toNat, .int .i64 k] w fun e w' => e = .returned (.bool true) ∧ Ext w w' := by
  have HN := hid hnl
  have HC := hid hcl
  have H0 := hid h0
  clear hnl hcl h0
  have hlong : longOf l n at_ = .tuple #[.int .i64 (long8 l at_.toNat : Nat), .int .i64 0] := by
    obtain ⟨r, hr, hl⟩ := long8_first l at_.toNat
    rw [longOf, if_pos h8, if_pos (by omega)]
  have hle : long8 l at_.toNat ≤ 4611686018427387904 := by
    obtain ⟨r, hr, hl⟩ := long8_first l at_.toNat
    omega
  obtain ⟨p8, hp8, hpn⟩ := roomE_zero h8 (by omega)
  have hpn2 : at_ + 8 ≤ n := by omega
  have HLONG := hid hlong
  have H8 := hid h8
  clear hlong h8 hp8 hpn
  obtain ⟨p, rfl, hp⟩ := roomE_zero h4 (by omega)
  have hnum : numOf l n (p : Int) = .tuple #[.int .u32 ((word4 l p).toNat : Nat), .int .i64 0] := by rw [numOf, if_pos h4]; rfl
  obtain ⟨b, off, rfl, hcell⟩ := HC.out.some_of (by rw [List.length_map, HN.out]; omega)
  have ne : ¬ c = p := by omega
  have hsh : shift (some ⟨b, off, none⟩) c (Int.toNat (p : Int)) = some ⟨b, off + p, none⟩ := shift_some b off c p ne
  have c0 := cells4 hcell p (by rw [HN.out]; omega)
  have c1 := cells4 hcell (p + 1) (by rw [HN.out]; omega)
  have c2 := cells4 hcell (p + 2) (by rw [HN.out]; omega)
  have c3 := cells4 hcell (p + 3) (by rw [HN.out]; omega)
  simp only [← Nat.add_assoc] at c1 c2 c3
  have hlt := block_lt_of_cell c0
  have H4 := hid h4
  have HNUM := hid hnum
  have HCELL := hid hcell
  have HC0 := hid c0
  clear h4 hnum hcell
  go_enter Try.func5, Try.ntmps5
  go_wp2_with fail
  refine (landed_c w).mono ?_
  rintro e w1 ⟨rfl, e1⟩
  go_wp2_with fail
  refine (rCut_c _ n c p 4 w1 (by omega) (by omega) (by omega) (by omega) (by omega)).mono ?_
  rintro e w2 ⟨rfl, rfl⟩
  rw [if_pos H4.out, hsh]
  go_wp2_with fail
  refine (number_c l _ n c p w1 HN.out (by omega) (by omega) (HC.out.ext e1)).mono ?_
  rintro e w2 ⟨rfl, e2⟩
  rw [HNUM.out]
  have e3 : Ext w w2 := e1.ext e2
  have d0 := (e3.cell (p := ⟨b, off + p, none⟩) hlt).trans c0
  have d1 := (e3.cell (p := ⟨b, off + p + 1, none⟩) hlt).trans c1
  have d2 := (e3.cell (p := ⟨b, off + p + 2, none⟩) hlt).trans c2
  have d3 := (e3.cell (p := ⟨b, off + p + 3, none⟩) hlt).trans c3
  clear c0 c1 c2 c3 e1 e2
  have ha := u8_lt (l[p]?.getD 0)
  have hb := u8_lt (l[p + 1]?.getD 0)
  have hc' := u8_lt (l[p + 2]?.getD 0)
  have hd := u8_lt (l[p + 3]?.getD 0)
  have hwi := word_int (l[p]?.getD 0) (l[p + 1]?.getD 0) (l[p + 2]?.getD 0) (l[p + 3]?.getD 0)
  rw [show wordOf (l[p]?.getD 0) (l[p + 1]?.getD 0) (l[p + 2]?.getD 0) (l[p + 3]?.getD 0) = word4 l p from rfl] at hwi
  have wz0 : IntKind.u32.wrap (((l[p]?.getD 0).toNat : Nat) : Int) = (((l[p]?.getD 0).toNat : Nat) : Int) := IntWalk.u32_in _ (by omega)
  have wy0 : IntKind.u32.wrap ((((l[p]?.getD 0).toNat : Nat) : Int) * 16777216) = (((l[p]?.getD 0).toNat : Nat) : Int) * 16777216 := IntWalk.u32_in _ (by omega)
  have wz1 : IntKind.u32.wrap (((l[p + 1]?.getD 0).toNat : Nat) : Int) = (((l[p + 1]?.getD 0).toNat : Nat) : Int) := IntWalk.u32_in _ (by omega)
  have wy1 : IntKind.u32.wrap ((((l[p + 1]?.getD 0).toNat : Nat) : Int) * 65536) = (((l[p + 1]?.getD 0).toNat : Nat) : Int) * 65536 := IntWalk.u32_in _ (by omega)
  have wz2 : IntKind.u32.wrap (((l[p + 2]?.getD 0).toNat : Nat) : Int) = (((l[p + 2]?.getD 0).toNat : Nat) : Int) := IntWalk.u32_in _ (by omega)
  have wy2 : IntKind.u32.wrap ((((l[p + 2]?.getD 0).toNat : Nat) : Int) * 256) = (((l[p + 2]?.getD 0).toNat : Nat) : Int) * 256 := IntWalk.u32_in _ (by omega)
  have wz3 : IntKind.u32.wrap (((l[p + 3]?.getD 0).toNat : Nat) : Int) = (((l[p + 3]?.getD 0).toNat : Nat) : Int) := IntWalk.u32_in _ (by omega)
  go_wp2_with fail
  go_quiet (fail)
  have e4 := e3.drewN nq
  generalize w2.drewN nq = w3 at *
  clear e3 hwi d0 d1 d2 d3 hb hc' hd wz0 wz1 wz2 wz3 wy0 wy1 wy2
  go_wp2_with fail
  refine (rCut_c _ n c p 8 w3 (by omega) (by omega) (by omega) (by omega) (by omega)).mono ?_
  rintro e w4 ⟨rfl, rfl⟩
  rw [if_pos H8.out, hsh]
  go_wp2_with fail
  refine (long_c l _ n c p w3 HN.out (by omega) (by omega) (HC.out.ext e4)).mono ?_
  rintro e w4 ⟨rfl, e5⟩
  have e6 := e4.ext e5
  have d0 := (e6.cell (p := ⟨b, off + p, none⟩) hlt).trans HC0.out
  clear e4 e5
  rw [HLONG.out]
  simp only [Int.toNat_natCast] at hle h64 ⊢
  have hdec : decide ((64 : Int) < ((l[p]?.getD 0).toNat : Int)) = false := decide_eq_false (by omega)
  have hbeq : (((l[p]?.getD 0).toNat : Int) == 64) = false := by rw [beq_eq_false_iff_ne]; omega
  go_wp2_with fail
  refine wp_region_quiet_lit (by kernel_rfl) (by kernel_rfl) ?_
  iterate 13 quiet_step (fail)
  iterate 5
    refine wpQuiet_no (by rfl) ?_
    simp only [Act.put, List.setIfInBounds_toArray, List.set_cons_succ, List.set_cons_zero]
  iterate 3 quiet_step (fail)
  refine wpQuiet_nil ?_
  intro _ hw'
  obtain ⟨nq, hw''⟩ := hw'
  subst hw''
  have e7 := e6.drewN nq
  generalize w4.drewN nq = w5 at *
  clear e6 d0
  go_wp2_with fail
  refine (putLong_c l _ n c (long8 l p : Nat) w5 HN.out (by omega) (HC.out.ext e7) H0.out).mono ?_
  rintro e wx ⟨v6, rfl, own6, e8⟩
  have ex := e7.ext e8
  have hln : longNat ((long8 l p : Nat) : Int) = long8 l p := by unfold longNat; rw [if_neg (by omega)]; rfl
  rw [hln, longL_long8 l p (by rw [HN.out]; omega)] at own6
  have hol : ((l.drop p).take 8).length = 8 := by rw [List.length_take, List.length_drop, HN.out]; omega
  have hl6 := own6.1
  obtain ⟨a6, c6, rfl, n6, _, _, s6⟩ := own_slice own6
  obtain ⟨b6, off6, rfl, _⟩ := s6.some_of (by rw [hl6]; omega)
  have t6 : Cells wx (some ⟨b6, off6 + n, none⟩) (((l.drop p).take 8).map u8v) := by
    have := s6.part n 8
    rwa [← List.map_drop, ← List.map_take, List.drop_left' HN.out, List.take_of_length_le (by rw [hol]; exact Nat.le_refl _)] at this
  have t8 : Cells wx (some ⟨b, off + p, none⟩) (((l.drop p).take 8).map u8v) := by
    have := (HC.out.ext ex).part p 8
    rwa [← List.map_drop, ← List.map_take] at this
  generalize (l.drop p).take 8 = o8 at *
  have HOL := hid hol
  have ne6 : ¬ c6 = n := by omega
  clear hln hl6 own6 s6 e8 e7 hol
  go_wp2_with fail
  refine (equal_c o8 o8 _ _ 8 8 _ _ wx HOL.out.symm HOL.out.symm t6 t8).mono ?_
  rintro e w9 ⟨rfl, rfl⟩
  rw [beq_self_eq_true]
  clear t6 t8
  go_wp2_with fail
  refine (putNumber_c l _ n c x wx HN.out (by omega) (HC.out.ext ex) H0.out).mono ?_
  rintro e w5 ⟨v5, rfl, own5, e5⟩
  have f5 := ex.ext e5
  obtain ⟨a5, c5, rfl, n5, _, _, s5⟩ := own_slice own5
  clear own5 e5 ex
  go_wp2_with fail
  refine (number_c (l ++ octL x) a5 (n + 4) c5 n w5 (by rw [List.length_append, HN.out]; rfl) (by omega) (by omega) s5).mono ?_
  rintro e w6 ⟨rfl, e6⟩
  have hz4 : roomE (n + 4) (n : Int) 4 = 0 := by
    unfold roomE
    rw [if_neg (by omega), if_neg (by omega)]
  have hv6 : numOf (l ++ octL x) (n + 4) (n : Int) = .tuple #[.int .u32 (x.toNat : Nat), .int .i64 0] := by
    rw [numOf, if_pos hz4, Int.toNat_natCast, word4_octL l x n HN.out]
  rw [hv6]
  have s6 : Cells w6 a5 ((l ++ octL x).map u8v) := s5.ext e6
  have f6 := f5.ext e6
  clear e6 f5 hz4 hv6
  go_wp2_with fail
  refine (equal_c l l a5 _ n n _ _ w6 HN.out.symm HN.out.symm (take_cells s6 HN.out) (HC.out.ext f6)).mono ?_
  rintro e w7 ⟨rfl, rfl⟩
  rw [beq_self_eq_true]
  clear s6 s5
  go_wp2_with fail
  refine (putLong_c l _ n c k w6 HN.out (by omega) (HC.out.ext f6) H0.out).mono ?_
  rintro e w7 ⟨v7, rfl, own7, e7⟩
  have f7 := f6.ext e7
  obtain ⟨a7, c7, rfl, n7, _, _, s7⟩ := own_slice own7
  clear own7 e7 f6
  have hlk := longNat_lt k
  have hz8 : roomE (n + 8) (n : Int) 8 = 0 := by
    unfold roomE
    rw [if_neg (by omega), if_neg (by omega)]
  have hl8 : long8 (l ++ longL (UInt64.ofNat (longNat k))) n = longNat k := by
    rw [long8_longL l _ n HN.out, UInt64.toNat_ofNat']; omega
  have hv8 : longOf (l ++ longL (UInt64.ofNat (longNat k))) (n + 8) (n : Int) = .tuple #[.int .i64 (longNat k : Nat), .int .i64 0] := by
    rw [longOf, if_pos hz8, Int.toNat_natCast, hl8, if_pos hlk]
  have HV8 := hid hv8
  clear hz8 hl8 hlk hv8
  by_cases hk1 : k < 0
  · have hk3 : (longNat k : Int) = 0 := by rw [longNat, if_pos (Or.inl hk1)]; rfl
    rw [hk3] at HV8
    clear hk3
    go_wp2_with fail
    refine (long_c (l ++ longL (UInt64.ofNat (longNat k))) a7 (n + 8) c7 n w7 (by rw [List.length_append, HN.out]; rfl) (by omega) (by omega) s7).mono ?_
    rintro e w8 ⟨rfl, e8⟩
    rw [HV8.out]
    have s8 : Cells w8 a7 ((l ++ longL (UInt64.ofNat (longNat k))).map u8v) := s7.ext e8
    have f8 := f7.ext e8
    clear e8 f7 s7 HV8
    go_wp2_with fail
    refine (equal_c l l a7 _ n n _ _ w8 HN.out.symm HN.out.symm (take_cells s8 HN.out) (HC.out.ext f8)).mono ?_
    rintro e w9 ⟨rfl, rfl⟩
    rw [beq_self_eq_true]
    go_wp2
    go_ret
    exact ⟨rfl, f8⟩
  · by_cases hk2 : 4611686018427387904 < k
    · have hk3 : (longNat k : Int) = 0 := by rw [longNat, if_pos (Or.inr hk2)]; rfl
      rw [hk3] at HV8
      clear hk3
      go_wp2_with fail
      refine (long_c (l ++ longL (UInt64.ofNat (longNat k))) a7 (n + 8) c7 n w7 (by rw [List.length_append, HN.out]; rfl) (by omega) (by omega) s7).mono ?_
      rintro e w8 ⟨rfl, e8⟩
      rw [HV8.out]
      have s8 : Cells w8 a7 ((l ++ longL (UInt64.ofNat (longNat k))).map u8v) := s7.ext e8
      have f8 := f7.ext e8
      clear e8 f7 s7 HV8
      go_wp2_with fail
      refine (equal_c l l a7 _ n n _ _ w8 HN.out.symm HN.out.symm (take_cells s8 HN.out) (HC.out.ext f8)).mono ?_
      rintro e w9 ⟨rfl, rfl⟩
      rw [beq_self_eq_true]
      go_wp2
      go_ret
      exact ⟨rfl, f8⟩
    · have hk3 : (longNat k : Int) = k := by rw [longNat, if_neg (by omega)]; omega
      rw [hk3] at HV8
      clear hk3
      go_wp2_with fail
      refine (long_c (l ++ longL (UInt64.ofNat (longNat k))) a7 (n + 8) c7 n w7 (by rw [List.length_append, HN.out]; rfl) (by omega) (by omega) s7).mono ?_
      rintro e w8 ⟨rfl, e8⟩
      rw [HV8.out]
      have s8 : Cells w8 a7 ((l ++ longL (UInt64.ofNat (longNat k))).map u8v) := s7.ext e8
      have f8 := f7.ext e8
      clear e8 f7 s7 HV8
      go_wp2_with fail
      refine (equal_c l l a7 _ n n _ _ w8 HN.out.symm HN.out.symm (take_cells s8 HN.out) (HC.out.ext f8)).mono ?_
      rintro e w9 ⟨rfl, rfl⟩
      rw [beq_self_eq_true]
      go_wp2
      go_ret
      exact ⟨rfl, f8⟩
end Go.Proofs.Ytjgglnflicemjaa
