/- The law NumbersArePut: its first octet is 64; then whole; conditions: the slice's size. -/
import Derived.Test.YtjgglnflicemjaaN8
import Derived.Deep.RegionWith
namespace Go.Proofs.Ytjgglnflicemjaa
open Go Go.RowKit
attribute [local irreducible] wpQuiet

theorem rest7 (l : List UInt8) (p : Nat) (h : p + 8 ≤ l.length) : (l.drop (p + 1)).take 7 = [l[p + 1]?.getD 0, l[p + 2]?.getD 0, l[p + 3]?.getD 0, l[p + 4]?.getD 0, l[p + 5]?.getD 0, l[p + 6]?.getD 0, l[p + 7]?.getD 0] := by
  apply List.ext_getElem?
  intro i
  by_cases hi : i < 7
  · rw [List.getElem?_take_of_lt hi, List.getElem?_drop]
    have he : l[p + 1 + i]? = some (l[p + 1 + i]?.getD 0) := by
      rw [List.getElem?_eq_getElem (by omega)]; rfl
    rw [he]
    have : i = 0 ∨ i = 1 ∨ i = 2 ∨ i = 3 ∨ i = 4 ∨ i = 5 ∨ i = 6 := by omega
    rcases this with rfl | rfl | rfl | rfl | rfl | rfl | rfl <;> rfl
  · rw [List.getElem?_eq_none (by simp; omega), List.getElem?_eq_none (by simp; omega)]

theorem long8_eq (l : List UInt8) (p : Nat) : long8 l p = (l[p]?.getD 0).toNat * 72057594037927936 + (l[p + 1]?.getD 0).toNat * 281474976710656 + (l[p + 2]?.getD 0).toNat * 1099511627776 + (l[p + 3]?.getD 0).toNat * 4294967296 +
    (l[p + 4]?.getD 0).toNat * 16777216 + (l[p + 5]?.getD 0).toNat * 65536 + (l[p + 6]?.getD 0).toNat * 256 + (l[p + 7]?.getD 0).toNat := by
  have h0 := (l[p]?.getD 0).toNat_lt
  have h1 := (l[p + 1]?.getD 0).toNat_lt
  have h2 := (l[p + 2]?.getD 0).toNat_lt
  have h3 := (l[p + 3]?.getD 0).toNat_lt
  have h4 := (l[p + 4]?.getD 0).toNat_lt
  have h5 := (l[p + 5]?.getD 0).toNat_lt
  have h6 := (l[p + 6]?.getD 0).toNat_lt
  have h7 := (l[p + 7]?.getD 0).toNat_lt
  have e1 : p + 4 + 1 = p + 5 := rfl
  have e2 : p + 4 + 2 = p + 6 := rfl
  have e3 : p + 4 + 3 = p + 7 := rfl
  unfold long8 word4 wordOf
  rw [UInt32.toNat_ofNat', UInt32.toNat_ofNat', e1, e2, e3]
  omega

theorem u8_zero {x : UInt8} (h : x.toNat = 0) : x = 0 := UInt8.toNat_inj.1 h

/-- the first octet is 64: whether the number is 2^62 -/
theorem long8_64 (l : List UInt8) (p : Nat) (h : p + 8 ≤ l.length) (h64 : (l[p]?.getD 0).toNat = 64) : ((l.drop (p + 1)).take 7 == List.replicate 7 0) = decide (long8 l p ≤ 4611686018427387904) := by
  rw [rest7 l p h, long8_eq, h64]
  by_cases hz : [l[p + 1]?.getD 0, l[p + 2]?.getD 0, l[p + 3]?.getD 0, l[p + 4]?.getD 0, l[p + 5]?.getD 0, l[p + 6]?.getD 0, l[p + 7]?.getD 0] = List.replicate 7 0
  · rw [beq_iff_eq.2 hz]
    simp only [List.replicate, List.cons.injEq] at hz
    obtain ⟨z1, z2, z3, z4, z5, z6, z7, _⟩ := hz
    rw [z1, z2, z3, z4, z5, z6, z7, eq_comm, decide_eq_true_iff, show (0 : UInt8).toNat = 0 from rfl]; omega
  · rw [beq_eq_false_iff_ne.2 hz, eq_comm, decide_eq_false_iff_not]
    intro hle
    apply hz
    rw [u8_zero (x := l[p + 1]?.getD 0) (by omega), u8_zero (x := l[p + 2]?.getD 0) (by omega), u8_zero (x := l[p + 3]?.getD 0) (by omega), u8_zero (x := l[p + 4]?.getD 0) (by omega), u8_zero (x := l[p + 5]?.getD 0) (by omega), u8_zero (x := l[p + 6]?.getD 0) (by omega), u8_zero (x := l[p + 7]?.getD 0) (by omega)]
    rfl

theorem mk7 (w : World) : (Instr.makeSlice 26 (.int .i64 7) (.int .i64 7)).run Try.prog w = .ok (.slice (some ⟨w.heap.size, 0, none⟩) 7 7) (w.alloc (.cells ((List.replicate 7 (0 : UInt8)).map u8v).toArray 5)) := by kernel_rfl


set_option maxRecDepth 100000 in
set_option maxHeartbeats 2000000 in
theorem numbersPut_A3 (l : List UInt8) (a : Option Addr) (n c : Nat) (at_ : Int) (x : UInt32) (k : Int) (w : World) (hnl : l.length = n) (hnc : n ≤ c) (hc : c ≤ 140737488351232) (hcl : Cells w a (l.map u8v)) (h0 : a = none → c = 0) (h4 : roomE n at_ 4 = 0) (h8 : roomE n at_ 8 = 0) (h64 : (l[at_.toNat]?.getD 0).toNat = 64) (hbig : 4611686018427387904 < long8 l at_.toNat) :
    Calls Try.prog 5 #[.slice a n c, .int .i64 at_, .int .u32 x.toNat, .int .i64 k] w fun e w' => e = .returned (.bool true) ∧ Ext w w' := by
  have HN := hid hnl
  have HC := hid hcl
  have H0 := hid h0
  have hlong : longOf l n at_ = .tuple #[.int .i64 0, .int .i64 4] := by
    rw [longOf, if_pos h8, if_neg (by omega)]
  obtain ⟨p8, hp8, hpn⟩ := roomE_zero h8 (by omega)
  have hpn2 : at_ + 8 ≤ n := by omega
  have hbb := long8_64 l at_.toNat (by omega) h64
  rw [decide_eq_false (by omega)] at hbb
  have hrl : ((l.drop (at_.toNat + 1)).take 7).length = 7 := by rw [List.length_take, List.length_drop, hnl]; omega
  have HRL := hid hrl
  have HBB := hid hbb
  clear hnl hcl h0 hbb hrl hbig
  have HLONG := hid hlong
  have H8 := hid h8
  clear hlong h8 hp8 hpn
  obtain ⟨p, rfl, hp⟩ := roomE_zero h4 (by omega)
  have hnum : numOf l n (p : Int) = .tuple #[.int .u32 ((word4 l p).toNat : Nat), .int .i64 0] := by rw [numOf, if_pos h4]; rfl
  obtain ⟨b, off, rfl, hcell⟩ := HC.out.some_of (by rw [List.length_map, HN.out]; omega)
  have ne : ¬ c = p := by omega
  have hsh : shift (some ⟨b, off, none⟩) c (Int.toNat (p : Int)) = some ⟨b, off + p, none⟩ := shift_some b off c p ne
  have c0 := cells4 hcell p (by rw [HN.out]; omega)
  have c1 := cells4 hcell (p + 1) (by rw [HN.out]; omega)
  have c2 := cells4 hcell (p + 2) (by rw [HN.out]; omega)
  have c3 := cells4 hcell (p + 3) (by rw [HN.out]; omega)
  simp only [← Nat.add_assoc] at c1 c2 c3
  have hlt := block_lt_of_cell c0
  have H4 := hid h4
  have HNUM := hid hnum
  have HCELL := hid hcell
  have HC0 := hid c0
  clear h4 hnum hcell
  go_enter Try.func5, Try.ntmps5
  go_wp2_with fail
  refine (landed_c w).mono ?_
  rintro e w1 ⟨rfl, e1⟩
  go_wp2_with fail
  refine (rCut_c _ n c p 4 w1 (by omega) (by omega) (by omega) (by omega) (by omega)).mono ?_
  rintro e w2 ⟨rfl, rfl⟩
  rw [if_pos H4.out, hsh]
  go_wp2_with fail
  refine (number_c l _ n c p w1 HN.out (by omega) (by omega) (HC.out.ext e1)).mono ?_
  rintro e w2 ⟨rfl, e2⟩
  rw [HNUM.out]
  have e3 : Ext w w2 := e1.ext e2
  have d0 := (e3.cell (p := ⟨b, off + p, none⟩) hlt).trans c0
  have d1 := (e3.cell (p := ⟨b, off + p + 1, none⟩) hlt).trans c1
  have d2 := (e3.cell (p := ⟨b, off + p + 2, none⟩) hlt).trans c2
  have d3 := (e3.cell (p := ⟨b, off + p + 3, none⟩) hlt).trans c3
  clear c0 c1 c2 c3 e1 e2
  have ha := u8_lt (l[p]?.getD 0)
  have hb := u8_lt (l[p + 1]?.getD 0)
  have hc' := u8_lt (l[p + 2]?.getD 0)
  have hd := u8_lt (l[p + 3]?.getD 0)
  have hwi := word_int (l[p]?.getD 0) (l[p + 1]?.getD 0) (l[p + 2]?.getD 0) (l[p + 3]?.getD 0)
  rw [show wordOf (l[p]?.getD 0) (l[p + 1]?.getD 0) (l[p + 2]?.getD 0) (l[p + 3]?.getD 0) = word4 l p from rfl] at hwi
  have wz0 : IntKind.u32.wrap (((l[p]?.getD 0).toNat : Nat) : Int) = (((l[p]?.getD 0).toNat : Nat) : Int) := IntWalk.u32_in _ (by omega)
  have wy0 : IntKind.u32.wrap ((((l[p]?.getD 0).toNat : Nat) : Int) * 16777216) = (((l[p]?.getD 0).toNat : Nat) : Int) * 16777216 := IntWalk.u32_in _ (by omega)
  have wz1 : IntKind.u32.wrap (((l[p + 1]?.getD 0).toNat : Nat) : Int) = (((l[p + 1]?.getD 0).toNat : Nat) : Int) := IntWalk.u32_in _ (by omega)
  have wy1 : IntKind.u32.wrap ((((l[p + 1]?.getD 0).toNat : Nat) : Int) * 65536) = (((l[p + 1]?.getD 0).toNat : Nat) : Int) * 65536 := IntWalk.u32_in _ (by omega)
  have wz2 : IntKind.u32.wrap (((l[p + 2]?.getD 0).toNat : Nat) : Int) = (((l[p + 2]?.getD 0).toNat : Nat) : Int) := IntWalk.u32_in _ (by omega)
  have wy2 : IntKind.u32.wrap ((((l[p + 2]?.getD 0).toNat : Nat) : Int) * 256) = (((l[p + 2]?.getD 0).toNat : Nat) : Int) * 256 := IntWalk.u32_in _ (by omega)
  have wz3 : IntKind.u32.wrap (((l[p + 3]?.getD 0).toNat : Nat) : Int) = (((l[p + 3]?.getD 0).toNat : Nat) : Int) := IntWalk.u32_in _ (by omega)
  go_wp2_with fail
  go_quiet (fail)
  have e4 := e3.drewN nq
  generalize w2.drewN nq = w3 at *
  clear e3 hwi d0 d1 d2 d3 hb hc' hd wz0 wz1 wz2 wz3 wy0 wy1 wy2
  go_wp2_with fail
  refine (rCut_c _ n c p 8 w3 (by omega) (by omega) (by omega) (by omega) (by omega)).mono ?_
  rintro e w4 ⟨rfl, rfl⟩
  rw [if_pos H8.out, hsh]
  go_wp2_with fail
  refine (long_c l _ n c p w3 HN.out (by omega) (by omega) (HC.out.ext e4)).mono ?_
  rintro e w4 ⟨rfl, e5⟩
  have e6 := e4.ext e5
  have d0 := (e6.cell (p := ⟨b, off + p, none⟩) hlt).trans HC0.out
  clear e4 e5
  rw [HLONG.out]
  simp only [Int.toNat_natCast] at h64
  have hq : (((l[p]?.getD 0).toNat : Nat) : Int) = 64 := by omega
  rw [hq] at d0
  have t8 : Cells w4 (some ⟨b, off + p + 1, none⟩) (((l.drop (p + 1)).take 7).map u8v) := by
    have := (HC.out.ext e6).part (p + 1) 7
    rw [← List.map_drop, ← List.map_take] at this
    exact this
  have HBB2 : Hid (((l.drop (p + 1)).take 7 == List.replicate 7 0) = false) := HBB
  have HRL2 : Hid (((l.drop (p + 1)).take 7).length = 7) := HRL
  clear HBB HRL
  generalize (l.drop (p + 1)).take 7 = R at *
  have ne8 : ¬ c - p = 1 := by omega
  have hmk := mk7
  go_wp2_with fail
  go_region_with (go_at_call 23; refine (equal_c R (List.replicate 7 0) _ _ 7 7 _ _ _ HRL2.out.symm rfl (Cells.ext t8 (by repeat' (first | with_reducible exact Ext.refl _ | with_reducible refine Ext.alloc ?_ _ | with_reducible refine Ext.drewN ?_ _ | with_reducible refine Ext.drew ?_))) (Cells.of_blk0 (T := 5) (Blk.drew (Blk.mk_alloc (vs := (List.replicate 7 (0 : UInt8)).map u8v) rfl rfl)))).mono ?_; rintro e w9 ⟨rfl, rfl⟩; rw [HBB2.out])
  all_goals
    have e7 : Ext w (w4.alloc (.cells ((List.replicate 7 (0 : UInt8)).map u8v).toArray 5)).drew := (e6.alloc _).drew
    change Ext w (w4.alloc (.cells #[u8v 0, u8v 0, u8v 0, u8v 0, u8v 0, u8v 0, u8v 0] 5)).drew at e7
    generalize World.drew (World.alloc w4 _) = w5 at *
    clear e6 d0 t8 HBB2 HRL2 ne8 hmk
    go_wp2_with fail
    refine (putLong_c l _ n c 0 w5 HN.out (by omega) (HC.out.ext e7) H0.out).mono ?_
    rintro e wx ⟨v6, rfl, own6, e8⟩
    have ex := e7.ext e8
    clear e7 e8 own6
    go_wp2_with fail
    refine (putNumber_c l _ n c x wx HN.out (by omega) (HC.out.ext ex) H0.out).mono ?_
    rintro e w5 ⟨v5, rfl, own5, e5⟩
    have f5 := ex.ext e5
    obtain ⟨a5, c5, rfl, n5, _, _, s5⟩ := own_slice own5
    clear own5 e5 ex
    go_wp2_with fail
    refine (number_c (l ++ octL x) a5 (n + 4) c5 n w5 (by rw [List.length_append, HN.out]; rfl) (by omega) (by omega) s5).mono ?_
    rintro e w6 ⟨rfl, e6⟩
    have hz4 : roomE (n + 4) (n : Int) 4 = 0 := by
      unfold roomE
      rw [if_neg (by omega), if_neg (by omega)]
    have hv6 : numOf (l ++ octL x) (n + 4) (n : Int) = .tuple #[.int .u32 (x.toNat : Nat), .int .i64 0] := by
      rw [numOf, if_pos hz4, Int.toNat_natCast, word4_octL l x n HN.out]
    rw [hv6]
    have s6 : Cells w6 a5 ((l ++ octL x).map u8v) := s5.ext e6
    have f6 := f5.ext e6
    clear e6 f5 hz4 hv6
    go_wp2_with fail
    refine (equal_c l l a5 _ n n _ _ w6 HN.out.symm HN.out.symm (take_cells s6 HN.out) (HC.out.ext f6)).mono ?_
    rintro e w7 ⟨rfl, rfl⟩
    rw [beq_self_eq_true]
    clear s6 s5
    go_wp2_with fail
    refine (putLong_c l _ n c k w6 HN.out (by omega) (HC.out.ext f6) H0.out).mono ?_
    rintro e w7 ⟨v7, rfl, own7, e7⟩
    have f7 := f6.ext e7
    obtain ⟨a7, c7, rfl, n7, _, _, s7⟩ := own_slice own7
    clear own7 e7 f6
    have hlk := longNat_lt k
    have hz8 : roomE (n + 8) (n : Int) 8 = 0 := by
      unfold roomE
      rw [if_neg (by omega), if_neg (by omega)]
    have hl8 : long8 (l ++ longL (UInt64.ofNat (longNat k))) n = longNat k := by
      rw [long8_longL l _ n HN.out, UInt64.toNat_ofNat']; omega
    have hv8 : longOf (l ++ longL (UInt64.ofNat (longNat k))) (n + 8) (n : Int) = .tuple #[.int .i64 (longNat k : Nat), .int .i64 0] := by
      rw [longOf, if_pos hz8, Int.toNat_natCast, hl8, if_pos hlk]
    have HV8 := hid hv8
    clear hz8 hl8 hlk hv8
    by_cases hk1 : k < 0
    · have hk3 : (longNat k : Int) = 0 := by rw [longNat, if_pos (Or.inl hk1)]; rfl
      rw [hk3] at HV8
      clear hk3
      go_wp2_with fail
      refine (long_c (l ++ longL (UInt64.ofNat (longNat k))) a7 (n + 8) c7 n w7 (by rw [List.length_append, HN.out]; rfl) (by omega) (by omega) s7).mono ?_
      rintro e w8 ⟨rfl, e8⟩
      rw [HV8.out]
      have s8 : Cells w8 a7 ((l ++ longL (UInt64.ofNat (longNat k))).map u8v) := s7.ext e8
      have f8 := f7.ext e8
      clear e8 f7 s7 HV8
      go_wp2_with fail
      refine (equal_c l l a7 _ n n _ _ w8 HN.out.symm HN.out.symm (take_cells s8 HN.out) (HC.out.ext f8)).mono ?_
      rintro e w9 ⟨rfl, rfl⟩
      rw [beq_self_eq_true]
      go_wp2
      go_ret
      exact ⟨rfl, f8⟩
    · by_cases hk2 : 4611686018427387904 < k
      · have hk3 : (longNat k : Int) = 0 := by rw [longNat, if_pos (Or.inr hk2)]; rfl
        rw [hk3] at HV8
        clear hk3
        go_wp2_with fail
        refine (long_c (l ++ longL (UInt64.ofNat (longNat k))) a7 (n + 8) c7 n w7 (by rw [List.length_append, HN.out]; rfl) (by omega) (by omega) s7).mono ?_
        rintro e w8 ⟨rfl, e8⟩
        rw [HV8.out]
        have s8 : Cells w8 a7 ((l ++ longL (UInt64.ofNat (longNat k))).map u8v) := s7.ext e8
        have f8 := f7.ext e8
        clear e8 f7 s7 HV8
        go_wp2_with fail
        refine (equal_c l l a7 _ n n _ _ w8 HN.out.symm HN.out.symm (take_cells s8 HN.out) (HC.out.ext f8)).mono ?_
        rintro e w9 ⟨rfl, rfl⟩
        rw [beq_self_eq_true]
        go_wp2
        go_ret
        exact ⟨rfl, f8⟩
      · have hk3 : (longNat k : Int) = k := by rw [longNat, if_neg (by omega)]; omega
        rw [hk3] at HV8
        clear hk3
        go_wp2_with fail
        refine (long_c (l ++ longL (UInt64.ofNat (longNat k))) a7 (n + 8) c7 n w7 (by rw [List.length_append, HN.out]; rfl) (by omega) (by omega) s7).mono ?_
        rintro e w8 ⟨rfl, e8⟩
        rw [HV8.out]
        have s8 : Cells w8 a7 ((l ++ longL (UInt64.ofNat (longNat k))).map u8v) := s7.ext e8
        have f8 := f7.ext e8
        clear e8 f7 s7 HV8
        go_wp2_with fail
        refine (equal_c l l a7 _ n n _ _ w8 HN.out.symm HN.out.symm (take_cells s8 HN.out) (HC.out.ext f8)).mono ?_
        rintro e w9 ⟨rfl, rfl⟩
        rw [beq_self_eq_true]
        go_wp2
        go_ret
        exact ⟨rfl, f8⟩
set_option maxRecDepth 100000 in
set_option maxHeartbeats 2000000 in
theorem numbersPut_A4 (l : List UInt8) (a : Option Addr) (n c : Nat) (at_ : Int) (x : UInt32) (k : Int) (w : World) (hnl : l.length = n) (hnc : n ≤ c) (hc : c ≤ 140737488351232) (hcl : Cells w a (l.map u8v)) (h0 : a = none → c = 0) (h4 : roomE n at_ 4 = 0) (h8 : roomE n at_ 8 = 0) (h64 : (l[at_.toNat]?.getD 0).toNat = 64) (hle : long8 l at_.toNat ≤ 4611686018427387904) :
    Calls Try.prog 5 #[.slice a n c, .int .i64 at_, .int .u32 x.toNat, .int .i64 k] w fun e w' => e = .returned (.bool true) ∧ Ext w w' := by
  have HN := hid hnl
  have HC := hid hcl
  have H0 := hid h0
  have hlong : longOf l n at_ = .tuple #[.int .i64 (long8 l at_.toNat : Nat), .int .i64 0] := by
    rw [longOf, if_pos h8, if_pos hle]
  obtain ⟨p8, hp8, hpn⟩ := roomE_zero h8 (by omega)
  have hpn2 : at_ + 8 ≤ n := by omega
  have hbb := long8_64 l at_.toNat (by omega) h64
  rw [decide_eq_true hle] at hbb
  have hrl : ((l.drop (at_.toNat + 1)).take 7).length = 7 := by rw [List.length_take, List.length_drop, hnl]; omega
  have HRL := hid hrl
  have HBB := hid hbb
  clear hnl hcl h0 hbb hrl
  have HLONG := hid hlong
  have H8 := hid h8
  clear hlong h8 hp8 hpn
  obtain ⟨p, rfl, hp⟩ := roomE_zero h4 (by omega)
  have hnum : numOf l n (p : Int) = .tuple #[.int .u32 ((word4 l p).toNat : Nat), .int .i64 0] := by rw [numOf, if_pos h4]; rfl
  obtain ⟨b, off, rfl, hcell⟩ := HC.out.some_of (by rw [List.length_map, HN.out]; omega)
  have ne : ¬ c = p := by omega
  have hsh : shift (some ⟨b, off, none⟩) c (Int.toNat (p : Int)) = some ⟨b, off + p, none⟩ := shift_some b off c p ne
  have c0 := cells4 hcell p (by rw [HN.out]; omega)
  have c1 := cells4 hcell (p + 1) (by rw [HN.out]; omega)
  have c2 := cells4 hcell (p + 2) (by rw [HN.out]; omega)
  have c3 := cells4 hcell (p + 3) (by rw [HN.out]; omega)
  simp only [← Nat.add_assoc] at c1 c2 c3
  have hlt := block_lt_of_cell c0
  have H4 := hid h4
  have HNUM := hid hnum
  have HCELL := hid hcell
  have HC0 := hid c0
  clear h4 hnum hcell
  go_enter Try.func5, Try.ntmps5
  go_wp2_with fail
  refine (landed_c w).mono ?_
  rintro e w1 ⟨rfl, e1⟩
  go_wp2_with fail
  refine (rCut_c _ n c p 4 w1 (by omega) (by omega) (by omega) (by omega) (by omega)).mono ?_
  rintro e w2 ⟨rfl, rfl⟩
  rw [if_pos H4.out, hsh]
  go_wp2_with fail
  refine (number_c l _ n c p w1 HN.out (by omega) (by omega) (HC.out.ext e1)).mono ?_
  rintro e w2 ⟨rfl, e2⟩
  rw [HNUM.out]
  have e3 : Ext w w2 := e1.ext e2
  have d0 := (e3.cell (p := ⟨b, off + p, none⟩) hlt).trans c0
  have d1 := (e3.cell (p := ⟨b, off + p + 1, none⟩) hlt).trans c1
  have d2 := (e3.cell (p := ⟨b, off + p + 2, none⟩) hlt).trans c2
  have d3 := (e3.cell (p := ⟨b, off + p + 3, none⟩) hlt).trans c3
  clear c0 c1 c2 c3 e1 e2
  have ha := u8_lt (l[p]?.getD 0)
  have hb := u8_lt (l[p + 1]?.getD 0)
  have hc' := u8_lt (l[p + 2]?.getD 0)
  have hd := u8_lt (l[p + 3]?.getD 0)
  have hwi := word_int (l[p]?.getD 0) (l[p + 1]?.getD 0) (l[p + 2]?.getD 0) (l[p + 3]?.getD 0)
  rw [show wordOf (l[p]?.getD 0) (l[p + 1]?.getD 0) (l[p + 2]?.getD 0) (l[p + 3]?.getD 0) = word4 l p from rfl] at hwi
  have wz0 : IntKind.u32.wrap (((l[p]?.getD 0).toNat : Nat) : Int) = (((l[p]?.getD 0).toNat : Nat) : Int) := IntWalk.u32_in _ (by omega)
  have wy0 : IntKind.u32.wrap ((((l[p]?.getD 0).toNat : Nat) : Int) * 16777216) = (((l[p]?.getD 0).toNat : Nat) : Int) * 16777216 := IntWalk.u32_in _ (by omega)
  have wz1 : IntKind.u32.wrap (((l[p + 1]?.getD 0).toNat : Nat) : Int) = (((l[p + 1]?.getD 0).toNat : Nat) : Int) := IntWalk.u32_in _ (by omega)
  have wy1 : IntKind.u32.wrap ((((l[p + 1]?.getD 0).toNat : Nat) : Int) * 65536) = (((l[p + 1]?.getD 0).toNat : Nat) : Int) * 65536 := IntWalk.u32_in _ (by omega)
  have wz2 : IntKind.u32.wrap (((l[p + 2]?.getD 0).toNat : Nat) : Int) = (((l[p + 2]?.getD 0).toNat : Nat) : Int) := IntWalk.u32_in _ (by omega)
  have wy2 : IntKind.u32.wrap ((((l[p + 2]?.getD 0).toNat : Nat) : Int) * 256) = (((l[p + 2]?.getD 0).toNat : Nat) : Int) * 256 := IntWalk.u32_in _ (by omega)
  have wz3 : IntKind.u32.wrap (((l[p + 3]?.getD 0).toNat : Nat) : Int) = (((l[p + 3]?.getD 0).toNat : Nat) : Int) := IntWalk.u32_in _ (by omega)
  go_wp2_with fail
  go_quiet (fail)
  have e4 := e3.drewN nq
  generalize w2.drewN nq = w3 at *
  clear e3 hwi d0 d1 d2 d3 hb hc' hd wz0 wz1 wz2 wz3 wy0 wy1 wy2
  go_wp2_with fail
  refine (rCut_c _ n c p 8 w3 (by omega) (by omega) (by omega) (by omega) (by omega)).mono ?_
  rintro e w4 ⟨rfl, rfl⟩
  rw [if_pos H8.out, hsh]
  go_wp2_with fail
  refine (long_c l _ n c p w3 HN.out (by omega) (by omega) (HC.out.ext e4)).mono ?_
  rintro e w4 ⟨rfl, e5⟩
  have e6 := e4.ext e5
  have d0 := (e6.cell (p := ⟨b, off + p, none⟩) hlt).trans HC0.out
  clear e4 e5
  rw [HLONG.out]
  simp only [Int.toNat_natCast] at hle h64 ⊢
  have hq : (((l[p]?.getD 0).toNat : Nat) : Int) = 64 := by omega
  rw [hq] at d0
  have t8 : Cells w4 (some ⟨b, off + p + 1, none⟩) (((l.drop (p + 1)).take 7).map u8v) := by
    have := (HC.out.ext e6).part (p + 1) 7
    rw [← List.map_drop, ← List.map_take] at this
    exact this
  have HBB2 : Hid (((l.drop (p + 1)).take 7 == List.replicate 7 0) = true) := HBB
  have HRL2 : Hid (((l.drop (p + 1)).take 7).length = 7) := HRL
  clear HBB HRL
  generalize (l.drop (p + 1)).take 7 = R at *
  have ne8 : ¬ c - p = 1 := by omega
  have hmk := mk7
  go_wp2_with fail
  go_region_with (go_at_call 23; refine (equal_c R (List.replicate 7 0) _ _ 7 7 _ _ _ HRL2.out.symm rfl (Cells.ext t8 (by repeat' (first | with_reducible exact Ext.refl _ | with_reducible refine Ext.alloc ?_ _ | with_reducible refine Ext.drewN ?_ _ | with_reducible refine Ext.drew ?_))) (Cells.of_blk0 (T := 5) (Blk.drew (Blk.mk_alloc (vs := (List.replicate 7 (0 : UInt8)).map u8v) rfl rfl)))).mono ?_; rintro e w9 ⟨rfl, rfl⟩; rw [HBB2.out])
  all_goals
    have e7 : Ext w (w4.alloc (.cells ((List.replicate 7 (0 : UInt8)).map u8v).toArray 5)).drew := (e6.alloc _).drew
    change Ext w (w4.alloc (.cells #[u8v 0, u8v 0, u8v 0, u8v 0, u8v 0, u8v 0, u8v 0] 5)).drew at e7
    generalize World.drew (World.alloc w4 _) = w5 at *
    clear e6 d0 t8 HBB2 HRL2 ne8 hmk
    go_wp2_with fail
    refine (putLong_c l _ n c (long8 l p : Nat) w5 HN.out (by omega) (HC.out.ext e7) H0.out).mono ?_
    rintro e wx ⟨v6, rfl, own6, e8⟩
    have ex := e7.ext e8
    have hln : longNat ((long8 l p : Nat) : Int) = long8 l p := by unfold longNat; rw [if_neg (by omega)]; rfl
    rw [hln, longL_long8 l p (by rw [HN.out]; omega)] at own6
    have hol : ((l.drop p).take 8).length = 8 := by rw [List.length_take, List.length_drop, HN.out]; omega
    have hl6 := own6.1
    obtain ⟨a6, c6, rfl, n6, _, _, s6⟩ := own_slice own6
    obtain ⟨b6, off6, rfl, _⟩ := s6.some_of (by rw [hl6]; omega)
    have t6 : Cells wx (some ⟨b6, off6 + n, none⟩) (((l.drop p).take 8).map u8v) := by
      have := s6.part n 8
      rwa [← List.map_drop, ← List.map_take, List.drop_left' HN.out, List.take_of_length_le (by rw [hol]; exact Nat.le_refl _)] at this
    have t8 : Cells wx (some ⟨b, off + p, none⟩) (((l.drop p).take 8).map u8v) := by
      have := (HC.out.ext ex).part p 8
      rwa [← List.map_drop, ← List.map_take] at this
    generalize (l.drop p).take 8 = o8 at *
    have HOL := hid hol
    have ne6 : ¬ c6 = n := by omega
    clear hln hl6 own6 s6 e8 e7 hol
    go_wp2_with fail
    refine (equal_c o8 o8 _ _ 8 8 _ _ wx HOL.out.symm HOL.out.symm t6 t8).mono ?_
    rintro e w9 ⟨rfl, rfl⟩
    rw [beq_self_eq_true]
    clear t6 t8
    go_wp2_with fail
    refine (putNumber_c l _ n c x wx HN.out (by omega) (HC.out.ext ex) H0.out).mono ?_
    rintro e w5 ⟨v5, rfl, own5, e5⟩
    have f5 := ex.ext e5
    obtain ⟨a5, c5, rfl, n5, _, _, s5⟩ := own_slice own5
    clear own5 e5 ex
    go_wp2_with fail
    refine (number_c (l ++ octL x) a5 (n + 4) c5 n w5 (by rw [List.length_append, HN.out]; rfl) (by omega) (by omega) s5).mono ?_
    rintro e w6 ⟨rfl, e6⟩
    have hz4 : roomE (n + 4) (n : Int) 4 = 0 := by
      unfold roomE
      rw [if_neg (by omega), if_neg (by omega)]
    have hv6 : numOf (l ++ octL x) (n + 4) (n : Int) = .tuple #[.int .u32 (x.toNat : Nat), .int .i64 0] := by
      rw [numOf, if_pos hz4, Int.toNat_natCast, word4_octL l x n HN.out]
    rw [hv6]
    have s6 : Cells w6 a5 ((l ++ octL x).map u8v) := s5.ext e6
    have f6 := f5.ext e6
    clear e6 f5 hz4 hv6
    go_wp2_with fail
    refine (equal_c l l a5 _ n n _ _ w6 HN.out.symm HN.out.symm (take_cells s6 HN.out) (HC.out.ext f6)).mono ?_
    rintro e w7 ⟨rfl, rfl⟩
    rw [beq_self_eq_true]
    clear s6 s5
    go_wp2_with fail
    refine (putLong_c l _ n c k w6 HN.out (by omega) (HC.out.ext f6) H0.out).mono ?_
    rintro e w7 ⟨v7, rfl, own7, e7⟩
    have f7 := f6.ext e7
    obtain ⟨a7, c7, rfl, n7, _, _, s7⟩ := own_slice own7
    clear own7 e7 f6
    have hlk := longNat_lt k
    have hz8 : roomE (n + 8) (n : Int) 8 = 0 := by
      unfold roomE
      rw [if_neg (by omega), if_neg (by omega)]
    have hl8 : long8 (l ++ longL (UInt64.ofNat (longNat k))) n = longNat k := by
      rw [long8_longL l _ n HN.out, UInt64.toNat_ofNat']; omega
    have hv8 : longOf (l ++ longL (UInt64.ofNat (longNat k))) (n + 8) (n : Int) = .tuple #[.int .i64 (longNat k : Nat), .int .i64 0] := by
      rw [longOf, if_pos hz8, Int.toNat_natCast, hl8, if_pos hlk]
    have HV8 := hid hv8
    clear hz8 hl8 hlk hv8
    by_cases hk1 : k < 0
    · have hk3 : (longNat k : Int) = 0 := by rw [longNat, if_pos (Or.inl hk1)]; rfl
      rw [hk3] at HV8
      clear hk3
      go_wp2_with fail
      refine (long_c (l ++ longL (UInt64.ofNat (longNat k))) a7 (n + 8) c7 n w7 (by rw [List.length_append, HN.out]; rfl) (by omega) (by omega) s7).mono ?_
      rintro e w8 ⟨rfl, e8⟩
      rw [HV8.out]
      have s8 : Cells w8 a7 ((l ++ longL (UInt64.ofNat (longNat k))).map u8v) := s7.ext e8
      have f8 := f7.ext e8
      clear e8 f7 s7 HV8
      go_wp2_with fail
      refine (equal_c l l a7 _ n n _ _ w8 HN.out.symm HN.out.symm (take_cells s8 HN.out) (HC.out.ext f8)).mono ?_
      rintro e w9 ⟨rfl, rfl⟩
      rw [beq_self_eq_true]
      go_wp2
      go_ret
      exact ⟨rfl, f8⟩
    · by_cases hk2 : 4611686018427387904 < k
      · have hk3 : (longNat k : Int) = 0 := by rw [longNat, if_pos (Or.inr hk2)]; rfl
        rw [hk3] at HV8
        clear hk3
        go_wp2_with fail
        refine (long_c (l ++ longL (UInt64.ofNat (longNat k))) a7 (n + 8) c7 n w7 (by rw [List.length_append, HN.out]; rfl) (by omega) (by omega) s7).mono ?_
        rintro e w8 ⟨rfl, e8⟩
        rw [HV8.out]
        have s8 : Cells w8 a7 ((l ++ longL (UInt64.ofNat (longNat k))).map u8v) := s7.ext e8
        have f8 := f7.ext e8
        clear e8 f7 s7 HV8
        go_wp2_with fail
        refine (equal_c l l a7 _ n n _ _ w8 HN.out.symm HN.out.symm (take_cells s8 HN.out) (HC.out.ext f8)).mono ?_
        rintro e w9 ⟨rfl, rfl⟩
        rw [beq_self_eq_true]
        go_wp2
        go_ret
        exact ⟨rfl, f8⟩
      · have hk3 : (longNat k : Int) = k := by rw [longNat, if_neg (by omega)]; omega
        rw [hk3] at HV8
        clear hk3
        go_wp2_with fail
        refine (long_c (l ++ longL (UInt64.ofNat (longNat k))) a7 (n + 8) c7 n w7 (by rw [List.length_append, HN.out]; rfl) (by omega) (by omega) s7).mono ?_
        rintro e w8 ⟨rfl, e8⟩
        rw [HV8.out]
        have s8 : Cells w8 a7 ((l ++ longL (UInt64.ofNat (longNat k))).map u8v) := s7.ext e8
        have f8 := f7.ext e8
        clear e8 f7 s7 HV8
        go_wp2_with fail
        refine (equal_c l l a7 _ n n _ _ w8 HN.out.symm HN.out.symm (take_cells s8 HN.out) (HC.out.ext f8)).mono ?_
        rintro e w9 ⟨rfl, rfl⟩
        rw [beq_self_eq_true]
        go_wp2
        go_ret
        exact ⟨rfl, f8⟩

theorem numbersPut_c (l : List UInt8) (a : Option Addr) (n c : Nat) (at_ : Int) (x : UInt32) (k : Int) (w : World) (hnl : l.length = n) (hnc : n ≤ c) (hc : c ≤ 140737488351232) (hcl : Cells w a (l.map u8v)) (h0 : a = none → c = 0) :
    Calls Try.prog 5 #[.slice a n c, .int .i64 at_, .int .u32 x.toNat, .int .i64 k] w fun e w' => e = .returned (.bool true) ∧ Ext w w' := by
  by_cases h4 : roomE n at_ 4 = 0
  · by_cases h8 : roomE n at_ 8 = 0
    · by_cases h1 : 64 < (l[at_.toNat]?.getD 0).toNat
      · exact numbersPut_A1 l a n c at_ x k w hnl hnc hc hcl h0 h4 h8 h1
      · by_cases h2 : (l[at_.toNat]?.getD 0).toNat < 64
        · exact numbersPut_A2 l a n c at_ x k w hnl hnc hc hcl h0 h4 h8 h2
        · by_cases h3 : long8 l at_.toNat ≤ 4611686018427387904
          · exact numbersPut_A4 l a n c at_ x k w hnl hnc hc hcl h0 h4 h8 (by omega) h3
          · exact numbersPut_A3 l a n c at_ x k w hnl hnc hc hcl h0 h4 h8 (by omega) (by omega)
    · exact numbersPut_B l a n c at_ x k w hnl hnc hc hcl h0 h4 h8
  · exact numbersPut_C l a n c at_ x k w hnl hnc hc hcl h0 h4
end Go.Proofs.Ytjgglnflicemjaa
