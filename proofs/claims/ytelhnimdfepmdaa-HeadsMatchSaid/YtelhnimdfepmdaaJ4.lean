/- Contracts and laws that the claim's row leans on (5 texts, joined): HeadsMatch answers true; condition: the key has 32, the seal 64 octets, the text's length is at most 2^47. Readings of arguments are opened; no condition. Readings of slices of octets are opened; no condition. Readings of slices of rows of 32 octets, and of a struct of two ints and such a slice, are opened; no condition. A reading of a struct of two ints and two rows of 32 octets is opened; no condition. -/
import Derived.Test.YtelhnimdfepmdaaJ3
import Derived.ProofKit
import Derived.OpenShut
import Derived.ChangeSlices
import Derived.WideShapes
import Derived.SizedLaws
import Derived.Deep.Strs
namespace Go.Proofs.Ytelhnimdfepmdaa
section
open Go Go.RowKit

theorem headV_one (C T : Int) (r1 r2 : List UInt8) : ∀ v ∈ headV C T r1 r2, v.oneCell' = true := by
  intro v hv
  unfold headV at hv
  simp only [List.mem_cons, List.mem_append] at hv
  rcases hv with rfl | rfl | h | h
  · rfl
  · rfl
  · exact one_u8 r1 v h
  · exact one_u8 r2 v h

set_option maxRecDepth 100000 in
set_option maxHeartbeats 2000000 in
theorem headsMatch_c (C T : Int) (r1 r2 k s d : List UInt8) (n c : Nat) (a : Option Addr) (w : World) (h1 : r1.length = 32) (h2 : r2.length = 32) (hk : k.length = 32) (hs : s.length = 64) (hd : d.length = n) (hnc : n ≤ c) (hn : n ≤ 140737488355328) (hcl : Cells w a (d.map u8v)) :
    Calls Try.prog 8 #[.agg (headV C T r1 r2).toArray, .agg (k.map u8v).toArray, .agg (s.map u8v).toArray, .slice a n c] w fun e w' => e = .returned (.bool true) ∧ Ext w w' := by
  have hpr := hid (fun w' => printHead_c C T r1 r2 w' h1 h2)
  have hrp := hid (fun w' => rprintHead_c C T r1 r2 w' h1 h2)
  have hsh := hid (fun w' => sealHead_c k C T r1 r2 w' hk h1 h2)
  have hck := hid (fun s w' (hs : s.length = 64) => checkHead_c k C T r1 r2 s w' hk h1 h2 hs)
  have hrs := hid (fun w' hE => rsealHead_c k C T r1 r2 w' hk h1 h2 hE)
  have hpa := hid (fun w' h => parseHead_c d n c a w' hd hnc hn h)
  have hpo := hid (fun hE => parse_headO C T r1 r2 h1 h2 hE)
  have hol := hid (headO_length (C := C) (T := T) h1 h2)
  have hsl : (sealHeadL k C T r1 r2).length = 64 := sealL_length _ _
  unfold headPost at hpr hrp
  unfold sealHeadV at hsh
  unfold checkHeadE at hck
  have HKL := hid (show (k.map u8v).length = 32 by rw [List.length_map, hk])
  have HVL := hid (headV_length C T h1 h2)
  have HSV := hid (show (s.map u8v).length = 64 by rw [List.length_map, hs])
  have HNEQ := hid (fun w' => head_neq C T r1 r2 h1 h2 w')
  have oS := one_u8 s
  have hE := headE_cases C T
  -- what is said of the text
  have hcase : (n < 84 ∧ parseHE d n = 1 ∧ parseHV d n = headV 0 0 zero32 zero32) ∨ (n = 84 ∧ parseHE d n = 0 ∧ ∃ cc tt x y, x.length = 32 ∧ y.length = 32 ∧ parseHV d n = headV cc tt x y ∧ headO cc tt x y = d ∧ headE cc tt = 0) ∨ (84 ≤ n ∧ (parseHE d n = 2 ∨ parseHE d n = 4) ∧ parseHV d n = headV 0 0 zero32 zero32) := by
    by_cases hlt : n < 84
    · have h1 : parseHE d n = 1 := by unfold parseHE; rw [if_pos hlt]
      exact .inl ⟨hlt, h1, by unfold parseHV; rw [if_neg (by rw [h1]; decide)]⟩
    · by_cases h0 : parseHE d n = 0
      · have h84 := parse_not84 hd h0
        subst h84
        obtain ⟨p1, p2⟩ := print_parsed d hd h0
        exact .inr (.inl ⟨rfl, h0, _, _, _, _, by rw [List.length_take, List.length_drop]; omega, by rw [List.length_take, List.length_drop]; omega, by unfold parseHV; rw [if_pos h0], p1, p2⟩)
      · refine .inr (.inr ⟨by omega, ?_, by unfold parseHV; rw [if_neg h0]⟩)
        unfold parseHE at h0 ⊢
        rw [if_neg hlt] at h0 ⊢
        split
        · next hm => rw [if_pos hm] at h0; rcases headE_cases (long8 d 4 : Nat) (long8 d 12 : Nat) with h | h; exact absurd h h0; exact .inr h
        · exact .inl rfl
  have HZEQ := hid (fun w' => show (binOp .eql 70 (.agg (headV 0 0 zero32 zero32).toArray) (.agg Try.zeroCells70)).run Try.prog w' = .ok (.bool true) w' from by rw [zero_head]; exact head_eql 0 0 zero32 zero32 zero32_length zero32_length w')
  have HZHL := hid (headV_length 0 0 (r1 := zero32) (r2 := zero32) zero32_length zero32_length)
  have hzho : ∀ v ∈ headV 0 0 zero32 zero32, v.oneCell' = true := by decide
  have HCASE := hid hcase
  clear hcase
  have hho : ∀ v ∈ headV C T r1 r2, v.oneCell' = true := by
    intro v hv
    unfold headV at hv
    simp only [List.mem_cons, List.mem_append] at hv
    rcases hv with rfl | rfl | h | h
    · rfl
    · rfl
    · exact one_u8 r1 v h
    · exact one_u8 r2 v h
  have hep := hid (show ∀ E, headE C T = E → E = 0 → parseHE (headO C T r1 r2) 84 = 0 ∧ parseHV (headO C T r1 r2) 84 = headV C T r1 r2 from fun E h h0 => hpo.out (h.trans h0))
  clear hpo
  obtain ⟨q, hq⟩ : ∃ q, sealHeadL k C T r1 r2 = q := ⟨_, rfl⟩
  rw [hq] at hsh hck hrs hsl
  have HSL := hid hs
  have HQ := hid hsl
  have HQL := hid (show (q.map u8v).length = 64 by rw [List.length_map, hsl])
  have oQ := one_u8 q
  have hqs : q = s ∨ q ≠ s := Decidable.em _
  have HCL := hid hcl
  have HD := hid hd
  clear hq h1 h2 hk hs hd hsl hcl
  generalize hEE : headE C T = E at *
  have HEE := hid hEE
  clear hEE
  generalize headV 0 0 zero32 zero32 = hz at *
  generalize hov : headO C T r1 r2 = o at *
  clear hov
  generalize headV C T r1 r2 = hv at *
  generalize hkv : k.map u8v = kv at *
  clear hkv
  go_enter Try.func8, Try.ntmps8
  go_upto_region 1 with (fail)
  generalize hwA : World.alloc (World.alloc (World.alloc w _) _) _ = wA
  have pA : Blk wA w.heap.size hv 70 := by rw [← hwA]; exact ((Blk.mk_alloc rfl rfl).alloc _).alloc _
  have kA : Blk wA (w.heap.size + 1) kv 23 := by rw [← hwA]; exact (Blk.mk_alloc (by simp) rfl).alloc _
  have sA : Blk wA (w.heap.size + 2) (s.map u8v) 72 := by rw [← hwA]; exact Blk.mk_alloc (by simp) rfl
  have eA : Ext w wA := by rw [← hwA]; exact (((Ext.refl w).alloc _).alloc _).alloc _
  have KA := hid kA
  have PA := hid pA
  have SA := hid sA
  have EA := hid eA
  clear hwA kA pA sA eA
  go_wp2_with fail
  refine (landed_c wA).mono ?_
  rintro e wB ⟨rfl, eB⟩
  have PB := hid (PA.out.ext eB)
  have KB := hid (KA.out.ext eB)
  have SB := hid (SA.out.ext eB)
  have EB := hid (EA.out.ext eB)
  clear eB PA KA SA EA
  go_wp2_with (first | (refine wpl_loadw rfl 70 (.tmp 4) rfl rfl PB.out agg_head HVL.out ?_))
  refine (hpr.out wB).mono ?_
  rintro e wC ⟨v, rfl, hvo, eC⟩
  have HVO := hid hvo
  clear hvo hpr
  have PC := hid (PB.out.ext eC)
  have KC := hid (KB.out.ext eC)
  have SC := hid (SB.out.ext eC)
  have EC := hid (EB.out.ext eC)
  clear eC PB KB SB EB
  go_wp2_with (first | (refine wpl_loadw rfl 70 (.tmp 4) rfl rfl PC.out agg_head HVL.out ?_))
  refine (hrp.out wC).mono ?_
  rintro e wD ⟨v2, rfl, hvo2, eD⟩
  have HVO2 := hid hvo2
  have hvcd := hid eD
  clear hvo2 hrp
  have PD := hid (PC.out.ext eD)
  have KD := hid (KC.out.ext eD)
  have SD := hid (SC.out.ext eD)
  have ED := hid (EC.out.ext eD)
  clear eD PC KC SC EC
  go_wp2_with (first | (refine wpl_loadw rfl 70 (.tmp 4) rfl rfl PD.out agg_head HVL.out ?_) | (refine wpl_loadw rfl 23 (.tmp 5) rfl rfl KD.out agg_key HKL.out ?_))
  refine (hsh.out wD).mono ?_
  rintro e wE ⟨rfl, eE⟩
  have hvde := hid eE
  clear hsh
  have PE := hid (PD.out.ext eE)
  have KE := hid (KD.out.ext eE)
  have SE := hid (SD.out.ext eE)
  have EE := hid (ED.out.ext eE)
  clear eE PD KD SD ED
  rcases hE with rfl | rfl
  · have hrv : (if (0 : Int) = 0 then Value.tuple #[.agg (q.map u8v).toArray, .int .i64 0] else .tuple #[zeros 64, .int .i64 4]) = .tuple #[.agg (q.map u8v).toArray, .int .i64 0] := if_pos rfl
    rw [hrv]
    clear hrv
    have hv1 := HVO.out
    have hv2 := HVO2.out
    rw [if_pos rfl] at hv1 hv2
    obtain ⟨a1, n1, rfl, hn1, hm1, hz1, hc1⟩ := own_slice hv1
    obtain ⟨a2, n2, rfl, hn2, hm2, hz2, hc2⟩ := own_slice hv2
    have H1 := hid ((hc1.ext hvcd.out).ext hvde.out)
    have H2 := hid (hc2.ext hvde.out)
    obtain ⟨hp0, hp1⟩ := hep.out 0 rfl rfl
    have hpao := hid (fun w' h => parseHead_c o 84 n1 a1 w' hol.out hn1 (by omega) h)
    rw [hp0, hp1] at hpao
    have hck0 : ∀ (s' : List UInt8) (w' : World), s'.length = 64 → Calls Try.prog 36 #[.agg kv.toArray, .agg hv.toArray, .agg (s'.map u8v).toArray] w' fun e w'_1 => e = .returned (.int .i64 (if q = s' then 0 else 13)) ∧ Ext w' w'_1 := fun s' w' hl => by
      have h := hck.out s' w' hl
      rwa [if_pos rfl] at h
    have HCK := hid hck0
    have hrs0 := hid (fun w' => hrs.out w' rfl)
    have HOL := hid hol.out.symm
    clear HVO HVO2 hvcd hvde hrs hep hv1 hv2 hc1 hc2 hm1 hm2 hz1 hz2 hp0 hp1 hck hck0
    go_wp2_with (first | (refine wpl_storew rfl _ (.tmp 13) _ rfl rfl rfl (Blk.mk_alloc (vs := List.replicate 64 (.int .u8 0)) rfl rfl) agg_seal (by simp) HQL.out oQ ?_))
    intro wF bF uF
    have eF : Ext wE wF := uF.ext ((Ext.refl wE).alloc _) (Nat.le_refl _)
    have QF := hid bF
    have H1F := hid (H1.out.ext eF)
    have H2F := hid (H2.out.ext eF)
    clear uF bF H1 H2
    have PF := hid (PE.out.ext eF)
    have KF := hid (KE.out.ext eF)
    have SF := hid (SE.out.ext eF)
    have EF := hid (EE.out.ext eF)
    clear eF PE KE SE EE
    generalize wE.heap.size = gq at *
    go_wp2_with fail
    refine (equal_c o o a1 a2 84 84 n1 n2 wF HOL.out HOL.out H1F.out H2F.out).mono ?_
    rintro e wG ⟨rfl, rfl⟩
    rw [beq_self_eq_true]
    go_wp2_with fail
    have HNEF := hid (fun w => show (binOp .neq 72 (.agg (q.map u8v).toArray) (.agg (q.map u8v).toArray)).run Try.prog w = .ok (.bool false) w by rw [neq_arr Try.underlying72 _ _ HQ.out HQ.out w]; simp)
    obtain ⟨C, hC⟩ : ∃ C : World → Prop, C = fun w' => Ext wF w' := ⟨_, rfl⟩
    have hC0 : ∀ w', C w' ↔ Ext wF w' := fun w' => by rw [hC]
    clear hC
    have HCC := hid hC0
    clear hC0
    have hCx : ∀ w w', C w → Ext w w' → C w' := fun w w' h1 h2 => (HCC.out w').2 (((HCC.out w).1 h1).ext h2)
    have hCA : C wF := (HCC.out _).2 (Ext.refl wF)
    have hc0 : (if q = q then (0 : Int) else 13) = 0 := if_pos rfl
    rcases hqs with heq | heq
    · subst heq
      have h1 := hid (fun w' => HCK.out q w' HQ.out)
      rw [hc0] at h1
      clear HCK hc0
      refine wp_region_held_drew (S := C) (by kernel_rfl) (hCx _ _ hCA (Ext.refl _).drew) (fun hS0 => ?_)
      refine held_take 0 (v := _) rfl (by kernel_rfl) (by kernel_rfl) (by kernel_rfl) (fun _ _ _ h => h) (yieldsI_loadw rfl 72 _ rfl rfl (fun w1 h => QF.out.ext ((HCC.out w1).1 h)) agg_seal HQL.out) hS0 ?_
      simp only [Act.put, List.setIfInBounds_toArray, List.set_cons_succ, List.set_cons_zero]
      refine held_take 1 (v := _) rfl (by kernel_rfl) (by kernel_rfl) (by kernel_rfl) (fun _ _ _ h => h) (yieldsI_loadw rfl 23 _ rfl rfl (fun w1 h => KF.out.ext ((HCC.out w1).1 h)) agg_key HKL.out) hS0 ?_
      simp only [Act.put, List.setIfInBounds_toArray, List.set_cons_succ, List.set_cons_zero]
      refine held_take 2 (v := _) rfl (by kernel_rfl) (by kernel_rfl) (by kernel_rfl) (fun _ _ _ h => h) (yieldsI_loadw rfl 70 _ rfl rfl (fun w1 h => PF.out.ext ((HCC.out w1).1 h)) agg_head HVL.out) hS0 ?_
      simp only [Act.put, List.setIfInBounds_toArray, List.set_cons_succ, List.set_cons_zero]
      generalize wF.drew = wX at *
      refine held_one (i := 3) (by kernel_rfl) rfl ?_
      intro Q' hQ
      go_wp2_with fail
      refine (hrs0.out _).mono ?_
      rintro e wY ⟨rfl, eq9⟩
      have hS9 := hCx _ _ hS0 eq9
      go_wp2_with fail
      refine hQ _ _ hS9 ?_
      clear hQ Q' hS0 eq9
      have hS0 := hS9
      clear hS9
      try dsimp only
      try simp only [Act.put, List.setIfInBounds_toArray, List.set_cons_succ, List.set_cons_zero]
      refine held_take 4 (v := _) rfl (by kernel_rfl) (by kernel_rfl) (by kernel_rfl) (fun _ _ _ h => h) (yieldsI_run rfl (fun w1 _ => exec_cmpA rfl rfl rfl guard_seal HNEF.out w1)) hS0 ?_
      simp only [Act.put, List.setIfInBounds_toArray, List.set_cons_succ, List.set_cons_zero]
      refine held_take 5 (v := ?tv1) rfl (by kernel_rfl) (by kernel_rfl) (by kernel_rfl) (fun _ _ _ h => h) (.inl ⟨rfl, ?ty1⟩) hS0 ?tr1
      case ty1 => (intro _ _; go_simp; try with_reducible rfl)
      case tr1 =>
      simp only [Act.put, List.setIfInBounds_toArray, List.set_cons_succ, List.set_cons_zero]
      refine held_take 6 (v := _) rfl (by kernel_rfl) (by kernel_rfl) (by kernel_rfl) (fun _ _ _ h => h) (yieldsI_loadw rfl 23 _ rfl rfl (fun w1 h => KF.out.ext ((HCC.out w1).1 h)) agg_key HKL.out) hS0 ?_
      simp only [Act.put, List.setIfInBounds_toArray, List.set_cons_succ, List.set_cons_zero]
      refine held_take 7 (v := _) rfl (by kernel_rfl) (by kernel_rfl) (by kernel_rfl) (fun _ _ _ h => h) (yieldsI_loadw rfl 70 _ rfl rfl (fun w1 h => PF.out.ext ((HCC.out w1).1 h)) agg_head HVL.out) hS0 ?_
      simp only [Act.put, List.setIfInBounds_toArray, List.set_cons_succ, List.set_cons_zero]
      refine held_take 8 (v := _) rfl (by kernel_rfl) (by kernel_rfl) (by kernel_rfl) (fun _ _ _ h => h) (yieldsI_loadw rfl 72 _ rfl rfl (fun w1 h => QF.out.ext ((HCC.out w1).1 h)) agg_seal HQL.out) hS0 ?_
      simp only [Act.put, List.setIfInBounds_toArray, List.set_cons_succ, List.set_cons_zero]
      refine held_one (i := 9) (by kernel_rfl) rfl ?_
      intro Q' hQ
      go_wp2_with fail
      refine (h1.out _).mono ?_
      rintro e wV ⟨rfl, eq9⟩
      have hS9 := hCx _ _ hS0 eq9
      go_wp2_with fail
      refine hQ _ _ hS9 ?_
      clear hQ Q' hS0 eq9
      have hS0 := hS9
      clear hS9
      try dsimp only
      try simp only [Act.put, List.setIfInBounds_toArray, List.set_cons_succ, List.set_cons_zero]
      refine held_take 10 (v := ?tv2) rfl (by kernel_rfl) (by kernel_rfl) (by kernel_rfl) (fun _ _ _ h => h) (.inl ⟨rfl, ?ty2⟩) hS0 ?tr2
      case ty2 => (intro _ _; go_simp; try with_reducible rfl)
      case tr2 =>
      simp only [Act.put, List.setIfInBounds_toArray, List.set_cons_succ, List.set_cons_zero]
      refine held_take 11 (v := ?tv3) rfl (by kernel_rfl) (by kernel_rfl) (by kernel_rfl) (fun _ _ _ h => h) (.inl ⟨rfl, ?ty3⟩) hS0 ?tr3
      case ty3 => (intro _ _; go_simp; try with_reducible rfl)
      case tr3 =>
      simp only [Act.put, List.setIfInBounds_toArray, List.set_cons_succ, List.set_cons_zero]
      refine held_take 12 (v := ?tv4) rfl (by kernel_rfl) (by kernel_rfl) (by kernel_rfl) (fun _ _ _ h => h) (.inl ⟨rfl, ?ty4⟩) hS0 ?tr4
      case ty4 => (intro _ _; go_simp; try with_reducible rfl)
      case tr4 =>
      simp only [Act.put, List.setIfInBounds_toArray, List.set_cons_succ, List.set_cons_zero]
      refine held_take 13 (v := _) rfl (by kernel_rfl) (by kernel_rfl) (by kernel_rfl) (fun _ _ _ h => h) (yieldsI_loadw rfl 72 _ rfl rfl (fun w1 h => SF.out.ext ((HCC.out w1).1 h)) agg_seal HQL.out) hS0 ?_
      simp only [Act.put, List.setIfInBounds_toArray, List.set_cons_succ, List.set_cons_zero]
      refine held_take 14 (v := _) rfl (by kernel_rfl) (by kernel_rfl) (by kernel_rfl) (fun _ _ _ h => h) (yieldsI_loadw rfl 72 _ rfl rfl (fun w1 h => QF.out.ext ((HCC.out w1).1 h)) agg_seal HQL.out) hS0 ?_
      simp only [Act.put, List.setIfInBounds_toArray, List.set_cons_succ, List.set_cons_zero]
      refine held_take 15 (v := _) rfl (by kernel_rfl) (by kernel_rfl) (by kernel_rfl) (fun _ _ _ h => h) (yieldsI_run rfl (fun w1 _ => exec_cmpA rfl rfl rfl guard_seal HNEF.out w1)) hS0 ?_
      simp only [Act.put, List.setIfInBounds_toArray, List.set_cons_succ, List.set_cons_zero]
      refine held_take 16 (v := ?tv5) rfl (by kernel_rfl) (by kernel_rfl) (by kernel_rfl) (fun _ _ _ h => h) (.inl ⟨rfl, ?ty5⟩) hS0 ?tr5
      case ty5 => (intro _ _; go_simp; try with_reducible rfl)
      case tr5 =>
      simp only [Act.put, List.setIfInBounds_toArray, List.set_cons_succ, List.set_cons_zero]
      refine held_take 17 (v := undef) rfl (by kernel_rfl) (by kernel_rfl) (by kernel_rfl) (fun _ _ _ h => h) (.inr ⟨rfl, rfl⟩) hS0 ?_
      simp only [Act.put, List.setIfInBounds_toArray, List.set_cons_succ, List.set_cons_zero]
      refine held_take 18 (v := undef) rfl (by kernel_rfl) (by kernel_rfl) (by kernel_rfl) (fun _ _ _ h => h) (.inr ⟨rfl, rfl⟩) hS0 ?_
      simp only [Act.put, List.setIfInBounds_toArray, List.set_cons_succ, List.set_cons_zero]
      refine held_take 19 (v := undef) rfl (by kernel_rfl) (by kernel_rfl) (by kernel_rfl) (fun _ _ _ h => h) (.inr ⟨rfl, rfl⟩) hS0 ?_
      simp only [Act.put, List.setIfInBounds_toArray, List.set_cons_succ, List.set_cons_zero]
      refine held_take 20 (v := undef) rfl (by kernel_rfl) (by kernel_rfl) (by kernel_rfl) (fun _ _ _ h => h) (.inr ⟨rfl, rfl⟩) hS0 ?_
      simp only [Act.put, List.setIfInBounds_toArray, List.set_cons_succ, List.set_cons_zero]
      refine held_take 21 (v := undef) rfl (by kernel_rfl) (by kernel_rfl) (by kernel_rfl) (fun _ _ _ h => h) (.inr ⟨rfl, rfl⟩) hS0 ?_
      simp only [Act.put, List.setIfInBounds_toArray, List.set_cons_succ, List.set_cons_zero]
      refine held_take 22 (v := ?tv6) rfl (by kernel_rfl) (by kernel_rfl) (by kernel_rfl) (fun _ _ _ h => h) (.inl ⟨rfl, ?ty6⟩) hS0 ?tr6
      case ty6 => (intro _ _; go_simp; try with_reducible rfl)
      case tr6 =>
      simp only [Act.put, List.setIfInBounds_toArray, List.set_cons_succ, List.set_cons_zero]
      refine held_take 23 (v := ?tv7) rfl (by kernel_rfl) (by kernel_rfl) (by kernel_rfl) (fun _ _ _ h => h) (.inl ⟨rfl, ?ty7⟩) hS0 ?tr7
      case ty7 => (intro _ _; go_simp; try with_reducible rfl)
      case tr7 =>
      simp only [Act.put, List.setIfInBounds_toArray, List.set_cons_succ, List.set_cons_zero]
      refine wpAnyH_done (by kernel_rfl) ?_ _
      have eV := (HCC.out wV).1 hS0
      have H1V := hid (H1F.out.ext eV)
      clear hS0 hCA hCx HCC h1 H1F H2F QF HNEF hrs0 KF SF
      have PV := hid (PF.out.ext eV)
      have EV := hid (EF.out.ext eV)
      clear eV PF EF
      go_wp2_with fail
      refine (hpao.out wV H1V.out).mono ?_
      rintro e wW ⟨rfl, eW⟩
      clear H1V hpao
      have PW := hid (PV.out.ext eW)
      have EW := hid (EV.out.ext eW)
      clear eW PV EV
      have hzl := zero_head_length
      have hzo := zero_head_one
      go_wp2_with (first | (refine wpl_storew rfl _ (.tmp 15) _ rfl rfl rfl (Blk.mk_alloc (vs := Try.zeroCells70.toList) rfl rfl) agg_head hzl HVL.out hho ?_))
      intro wI bI uI
      have hgw : w.heap.size ≤ wW.heap.size := EW.out.size
      have eI : Ext wW wI := uI.ext ((Ext.refl wW).alloc _) (Nat.le_refl _)
      have GI := hid bI
      clear uI bI
      have PI := hid (PW.out.ext eI)
      have EI := hid (EW.out.ext eI)
      clear eI PW EW
      generalize wW.heap.size = gx at *
      go_wp2_with (first | (refine wpg_loadw rfl 70 (.tmp 15) rfl rfl GI.out agg_head HVL.out ?_) | (refine wpg_loadw rfl 70 (.tmp 4) rfl rfl PI.out agg_head HVL.out ?_) | (refine wpg_cmp rfl .neq _ _ _ _ rfl rfl rfl guard_head HNEQ.out ?_))
      refine (hpa.out wI (HCL.out.ext EI.out)).mono ?_
      rintro e wJ ⟨rfl, eJ⟩
      have GJ := hid (GI.out.ext eJ)
      have EJ := hid (EI.out.ext eJ)
      clear eJ GI EI
      rcases HCASE.out with ⟨hlt, e1, e2⟩ | ⟨rfl, e1, cc, tt, xx, yy, hxl, hyl, e2, e3, e4⟩ | ⟨hlt, e1, e2⟩
      · rw [e1, e2]
        have d1 : decide ((n : Int) < 84) = true := decide_eq_true (by omega)
        have d2 : decide (n < 84) = true := decide_eq_true hlt
        clear e1 e2 HCASE
        go_wp2_with (first | (refine wpl_storew rfl _ (.tmp 15) _ rfl rfl rfl GJ.out agg_head HVL.out HZHL.out hzho ?_))
        intro wK bK uK
        have EK := hid (uK.ext EJ.out hgw)
        have BK := hid bK
        clear bK uK GJ EJ
        go_wp2_with (first | (refine wpg_loadw rfl 70 (.tmp 15) rfl rfl BK.out agg_head HZHL.out ?_) | (refine wpg_cmp rfl .eql _ _ _ _ rfl rfl rfl guard_head HZEQ.out ?_))
        go_ret
        exact ⟨rfl, EK.out⟩
      · have hrb := hid (fun w' => rprintHead_c cc tt xx yy w' hxl hyl)
        unfold headPost at hrb
        rw [e4, e3] at hrb
        rw [e1, e2]
        have HBL := hid (headV_length cc tt hxl hyl)
        have hbo := headV_one cc tt xx yy
        generalize headV cc tt xx yy = hb at *
        clear e1 e2 e3 e4 HCASE hxl hyl
        go_wp2_with (first | (refine wpl_storew rfl _ (.tmp 15) _ rfl rfl rfl GJ.out agg_head HVL.out HBL.out hbo ?_))
        intro wK bK uK
        have EK := hid (uK.ext EJ.out hgw)
        have BK := hid bK
        clear bK uK GJ EJ
        go_wp2_with (first | (refine wpl_loadw rfl 70 (.tmp 15) rfl rfl BK.out agg_head HBL.out ?_))
        refine (hrb.out wK).mono ?_
        rintro e wL ⟨v3, rfl, hv3, eL⟩
        rw [if_pos trivial] at hv3
        obtain ⟨a3, n3, rfl, hn3, hm3, hz3, hc3⟩ := own_slice hv3
        have H3 := hid hc3
        have EL := hid (EK.out.ext eL)
        have HCD := hid (HCL.out.ext EL.out)
        clear hv3 hc3 hm3 hz3 eL BK EK hrb
        go_wp2_with fail
        refine (equal_c d d a3 a 84 84 n3 c wL HD.out.symm HD.out.symm H3.out HCD.out).mono ?_
        rintro e wM ⟨rfl, rfl⟩
        rw [beq_self_eq_true]
        go_wp2_with fail
        go_ret
        exact ⟨rfl, EL.out⟩
      · rw [e2]
        have d1 : decide ((n : Int) < 84) = false := decide_eq_false (by omega)
        have d2 : decide (n < 84) = false := decide_eq_false (by omega)
        generalize hpe : parseHE d n = pe at *
        clear e2 hpe HCASE
        rcases e1 with rfl | rfl
        all_goals
          go_wp2_with (first | (refine wpl_storew rfl _ (.tmp 15) _ rfl rfl rfl GJ.out agg_head HVL.out HZHL.out hzho ?_))
          intro wK bK uK
          have EK := hid (uK.ext EJ.out hgw)
          have BK := hid bK
          clear bK uK GJ EJ
          go_wp2_with (first | (refine wpl_loadw rfl 70 (.tmp 15) rfl rfl BK.out agg_head HZHL.out ?_) | (refine wpg_cmp rfl .eql _ _ _ _ rfl rfl rfl guard_head HZEQ.out ?_))
          go_ret
          exact ⟨rfl, EK.out⟩
    · have hc13 : (if q = s then (0 : Int) else 13) = 13 := if_neg heq
      have HNET := hid (fun w => show (binOp .neq 72 (.agg (s.map u8v).toArray) (.agg (q.map u8v).toArray)).run Try.prog w = .ok (.bool true) w by rw [neq_arr Try.underlying72 _ _ HSL.out HQ.out w]; simpa using fun h => heq h.symm)
      have h1 := hid (fun w' => HCK.out q w' HQ.out)
      have h2 := hid (fun w' => HCK.out s w' HSL.out)
      rw [hc0] at h1
      rw [hc13] at h2
      clear HCK hc0 hc13 heq
      refine wp_region_held_drew (S := C) (by kernel_rfl) (hCx _ _ hCA (Ext.refl _).drew) (fun hS0 => ?_)
      refine held_take 0 (v := _) rfl (by kernel_rfl) (by kernel_rfl) (by kernel_rfl) (fun _ _ _ h => h) (yieldsI_loadw rfl 72 _ rfl rfl (fun w1 h => QF.out.ext ((HCC.out w1).1 h)) agg_seal HQL.out) hS0 ?_
      simp only [Act.put, List.setIfInBounds_toArray, List.set_cons_succ, List.set_cons_zero]
      refine held_take 1 (v := _) rfl (by kernel_rfl) (by kernel_rfl) (by kernel_rfl) (fun _ _ _ h => h) (yieldsI_loadw rfl 23 _ rfl rfl (fun w1 h => KF.out.ext ((HCC.out w1).1 h)) agg_key HKL.out) hS0 ?_
      simp only [Act.put, List.setIfInBounds_toArray, List.set_cons_succ, List.set_cons_zero]
      refine held_take 2 (v := _) rfl (by kernel_rfl) (by kernel_rfl) (by kernel_rfl) (fun _ _ _ h => h) (yieldsI_loadw rfl 70 _ rfl rfl (fun w1 h => PF.out.ext ((HCC.out w1).1 h)) agg_head HVL.out) hS0 ?_
      simp only [Act.put, List.setIfInBounds_toArray, List.set_cons_succ, List.set_cons_zero]
      generalize wF.drew = wX at *
      refine held_one (i := 3) (by kernel_rfl) rfl ?_
      intro Q' hQ
      go_wp2_with fail
      refine (hrs0.out _).mono ?_
      rintro e wY ⟨rfl, eq9⟩
      have hS9 := hCx _ _ hS0 eq9
      go_wp2_with fail
      refine hQ _ _ hS9 ?_
      clear hQ Q' hS0 eq9
      have hS0 := hS9
      clear hS9
      try dsimp only
      try simp only [Act.put, List.setIfInBounds_toArray, List.set_cons_succ, List.set_cons_zero]
      refine held_take 4 (v := _) rfl (by kernel_rfl) (by kernel_rfl) (by kernel_rfl) (fun _ _ _ h => h) (yieldsI_run rfl (fun w1 _ => exec_cmpA rfl rfl rfl guard_seal HNEF.out w1)) hS0 ?_
      simp only [Act.put, List.setIfInBounds_toArray, List.set_cons_succ, List.set_cons_zero]
      refine held_take 5 (v := ?tv8) rfl (by kernel_rfl) (by kernel_rfl) (by kernel_rfl) (fun _ _ _ h => h) (.inl ⟨rfl, ?ty8⟩) hS0 ?tr8
      case ty8 => (intro _ _; go_simp; try with_reducible rfl)
      case tr8 =>
      simp only [Act.put, List.setIfInBounds_toArray, List.set_cons_succ, List.set_cons_zero]
      refine held_take 6 (v := _) rfl (by kernel_rfl) (by kernel_rfl) (by kernel_rfl) (fun _ _ _ h => h) (yieldsI_loadw rfl 23 _ rfl rfl (fun w1 h => KF.out.ext ((HCC.out w1).1 h)) agg_key HKL.out) hS0 ?_
      simp only [Act.put, List.setIfInBounds_toArray, List.set_cons_succ, List.set_cons_zero]
      refine held_take 7 (v := _) rfl (by kernel_rfl) (by kernel_rfl) (by kernel_rfl) (fun _ _ _ h => h) (yieldsI_loadw rfl 70 _ rfl rfl (fun w1 h => PF.out.ext ((HCC.out w1).1 h)) agg_head HVL.out) hS0 ?_
      simp only [Act.put, List.setIfInBounds_toArray, List.set_cons_succ, List.set_cons_zero]
      refine held_take 8 (v := _) rfl (by kernel_rfl) (by kernel_rfl) (by kernel_rfl) (fun _ _ _ h => h) (yieldsI_loadw rfl 72 _ rfl rfl (fun w1 h => QF.out.ext ((HCC.out w1).1 h)) agg_seal HQL.out) hS0 ?_
      simp only [Act.put, List.setIfInBounds_toArray, List.set_cons_succ, List.set_cons_zero]
      refine held_one (i := 9) (by kernel_rfl) rfl ?_
      intro Q' hQ
      go_wp2_with fail
      refine (h1.out _).mono ?_
      rintro e wZ ⟨rfl, eq9⟩
      have hS9 := hCx _ _ hS0 eq9
      go_wp2_with fail
      refine hQ _ _ hS9 ?_
      clear hQ Q' hS0 eq9
      have hS0 := hS9
      clear hS9
      try dsimp only
      try simp only [Act.put, List.setIfInBounds_toArray, List.set_cons_succ, List.set_cons_zero]
      refine held_take 10 (v := ?tv9) rfl (by kernel_rfl) (by kernel_rfl) (by kernel_rfl) (fun _ _ _ h => h) (.inl ⟨rfl, ?ty9⟩) hS0 ?tr9
      case ty9 => (intro _ _; go_simp; try with_reducible rfl)
      case tr9 =>
      simp only [Act.put, List.setIfInBounds_toArray, List.set_cons_succ, List.set_cons_zero]
      refine held_take 11 (v := ?tv10) rfl (by kernel_rfl) (by kernel_rfl) (by kernel_rfl) (fun _ _ _ h => h) (.inl ⟨rfl, ?ty10⟩) hS0 ?tr10
      case ty10 => (intro _ _; go_simp; try with_reducible rfl)
      case tr10 =>
      simp only [Act.put, List.setIfInBounds_toArray, List.set_cons_succ, List.set_cons_zero]
      refine held_take 12 (v := ?tv11) rfl (by kernel_rfl) (by kernel_rfl) (by kernel_rfl) (fun _ _ _ h => h) (.inl ⟨rfl, ?ty11⟩) hS0 ?tr11
      case ty11 => (intro _ _; go_simp; try with_reducible rfl)
      case tr11 =>
      simp only [Act.put, List.setIfInBounds_toArray, List.set_cons_succ, List.set_cons_zero]
      refine held_take 13 (v := _) rfl (by kernel_rfl) (by kernel_rfl) (by kernel_rfl) (fun _ _ _ h => h) (yieldsI_loadw rfl 72 _ rfl rfl (fun w1 h => SF.out.ext ((HCC.out w1).1 h)) agg_seal HSV.out) hS0 ?_
      simp only [Act.put, List.setIfInBounds_toArray, List.set_cons_succ, List.set_cons_zero]
      refine held_take 14 (v := _) rfl (by kernel_rfl) (by kernel_rfl) (by kernel_rfl) (fun _ _ _ h => h) (yieldsI_loadw rfl 72 _ rfl rfl (fun w1 h => QF.out.ext ((HCC.out w1).1 h)) agg_seal HQL.out) hS0 ?_
      simp only [Act.put, List.setIfInBounds_toArray, List.set_cons_succ, List.set_cons_zero]
      refine held_take 15 (v := _) rfl (by kernel_rfl) (by kernel_rfl) (by kernel_rfl) (fun _ _ _ h => h) (yieldsI_run rfl (fun w1 _ => exec_cmpA rfl rfl rfl guard_seal HNET.out w1)) hS0 ?_
      simp only [Act.put, List.setIfInBounds_toArray, List.set_cons_succ, List.set_cons_zero]
      refine held_take 16 (v := ?tv12) rfl (by kernel_rfl) (by kernel_rfl) (by kernel_rfl) (fun _ _ _ h => h) (.inl ⟨rfl, ?ty12⟩) hS0 ?tr12
      case ty12 => (intro _ _; go_simp; try with_reducible rfl)
      case tr12 =>
      simp only [Act.put, List.setIfInBounds_toArray, List.set_cons_succ, List.set_cons_zero]
      refine held_take 17 (v := _) rfl (by kernel_rfl) (by kernel_rfl) (by kernel_rfl) (fun _ _ _ h => h) (yieldsI_loadw rfl 23 _ rfl rfl (fun w1 h => KF.out.ext ((HCC.out w1).1 h)) agg_key HKL.out) hS0 ?_
      simp only [Act.put, List.setIfInBounds_toArray, List.set_cons_succ, List.set_cons_zero]
      refine held_take 18 (v := _) rfl (by kernel_rfl) (by kernel_rfl) (by kernel_rfl) (fun _ _ _ h => h) (yieldsI_loadw rfl 70 _ rfl rfl (fun w1 h => PF.out.ext ((HCC.out w1).1 h)) agg_head HVL.out) hS0 ?_
      simp only [Act.put, List.setIfInBounds_toArray, List.set_cons_succ, List.set_cons_zero]
      refine held_take 19 (v := _) rfl (by kernel_rfl) (by kernel_rfl) (by kernel_rfl) (fun _ _ _ h => h) (yieldsI_loadw rfl 72 _ rfl rfl (fun w1 h => SF.out.ext ((HCC.out w1).1 h)) agg_seal HSV.out) hS0 ?_
      simp only [Act.put, List.setIfInBounds_toArray, List.set_cons_succ, List.set_cons_zero]
      refine held_one (i := 20) (by kernel_rfl) rfl ?_
      intro Q' hQ
      go_wp2_with fail
      refine (h2.out _).mono ?_
      rintro e wV ⟨rfl, eq9⟩
      have hS9 := hCx _ _ hS0 eq9
      go_wp2_with fail
      refine hQ _ _ hS9 ?_
      clear hQ Q' hS0 eq9
      have hS0 := hS9
      clear hS9
      try dsimp only
      try simp only [Act.put, List.setIfInBounds_toArray, List.set_cons_succ, List.set_cons_zero]
      refine held_take 21 (v := ?tv13) rfl (by kernel_rfl) (by kernel_rfl) (by kernel_rfl) (fun _ _ _ h => h) (.inl ⟨rfl, ?ty13⟩) hS0 ?tr13
      case ty13 => (intro _ _; go_simp; try with_reducible rfl)
      case tr13 =>
      simp only [Act.put, List.setIfInBounds_toArray, List.set_cons_succ, List.set_cons_zero]
      refine held_take 22 (v := ?tv14) rfl (by kernel_rfl) (by kernel_rfl) (by kernel_rfl) (fun _ _ _ h => h) (.inl ⟨rfl, ?ty14⟩) hS0 ?tr14
      case ty14 => (intro _ _; go_simp; try with_reducible rfl)
      case tr14 =>
      simp only [Act.put, List.setIfInBounds_toArray, List.set_cons_succ, List.set_cons_zero]
      refine held_take 23 (v := ?tv15) rfl (by kernel_rfl) (by kernel_rfl) (by kernel_rfl) (fun _ _ _ h => h) (.inl ⟨rfl, ?ty15⟩) hS0 ?tr15
      case ty15 => (intro _ _; go_simp; try with_reducible rfl)
      case tr15 =>
      simp only [Act.put, List.setIfInBounds_toArray, List.set_cons_succ, List.set_cons_zero]
      refine wpAnyH_done (by kernel_rfl) ?_ _
      have eV := (HCC.out wV).1 hS0
      have H1V := hid (H1F.out.ext eV)
      clear hS0 hCA hCx HCC h1 h2 H1F H2F QF HNEF hrs0 KF SF
      have PV := hid (PF.out.ext eV)
      have EV := hid (EF.out.ext eV)
      clear eV PF EF
      go_wp2_with fail
      refine (hpao.out wV H1V.out).mono ?_
      rintro e wW ⟨rfl, eW⟩
      clear H1V hpao
      have PW := hid (PV.out.ext eW)
      have EW := hid (EV.out.ext eW)
      clear eW PV EV
      have hzl := zero_head_length
      have hzo := zero_head_one
      go_wp2_with (first | (refine wpl_storew rfl _ (.tmp 15) _ rfl rfl rfl (Blk.mk_alloc (vs := Try.zeroCells70.toList) rfl rfl) agg_head hzl HVL.out hho ?_))
      intro wI bI uI
      have hgw : w.heap.size ≤ wW.heap.size := EW.out.size
      have eI : Ext wW wI := uI.ext ((Ext.refl wW).alloc _) (Nat.le_refl _)
      have GI := hid bI
      clear uI bI
      have PI := hid (PW.out.ext eI)
      have EI := hid (EW.out.ext eI)
      clear eI PW EW
      generalize wW.heap.size = gx at *
      go_wp2_with (first | (refine wpg_loadw rfl 70 (.tmp 15) rfl rfl GI.out agg_head HVL.out ?_) | (refine wpg_loadw rfl 70 (.tmp 4) rfl rfl PI.out agg_head HVL.out ?_) | (refine wpg_cmp rfl .neq _ _ _ _ rfl rfl rfl guard_head HNEQ.out ?_))
      refine (hpa.out wI (HCL.out.ext EI.out)).mono ?_
      rintro e wJ ⟨rfl, eJ⟩
      have GJ := hid (GI.out.ext eJ)
      have EJ := hid (EI.out.ext eJ)
      clear eJ GI EI
      rcases HCASE.out with ⟨hlt, e1, e2⟩ | ⟨rfl, e1, cc, tt, xx, yy, hxl, hyl, e2, e3, e4⟩ | ⟨hlt, e1, e2⟩
      · rw [e1, e2]
        have d1 : decide ((n : Int) < 84) = true := decide_eq_true (by omega)
        have d2 : decide (n < 84) = true := decide_eq_true hlt
        clear e1 e2 HCASE
        go_wp2_with (first | (refine wpl_storew rfl _ (.tmp 15) _ rfl rfl rfl GJ.out agg_head HVL.out HZHL.out hzho ?_))
        intro wK bK uK
        have EK := hid (uK.ext EJ.out hgw)
        have BK := hid bK
        clear bK uK GJ EJ
        go_wp2_with (first | (refine wpg_loadw rfl 70 (.tmp 15) rfl rfl BK.out agg_head HZHL.out ?_) | (refine wpg_cmp rfl .eql _ _ _ _ rfl rfl rfl guard_head HZEQ.out ?_))
        go_ret
        exact ⟨rfl, EK.out⟩
      · have hrb := hid (fun w' => rprintHead_c cc tt xx yy w' hxl hyl)
        unfold headPost at hrb
        rw [e4, e3] at hrb
        rw [e1, e2]
        have HBL := hid (headV_length cc tt hxl hyl)
        have hbo := headV_one cc tt xx yy
        generalize headV cc tt xx yy = hb at *
        clear e1 e2 e3 e4 HCASE hxl hyl
        go_wp2_with (first | (refine wpl_storew rfl _ (.tmp 15) _ rfl rfl rfl GJ.out agg_head HVL.out HBL.out hbo ?_))
        intro wK bK uK
        have EK := hid (uK.ext EJ.out hgw)
        have BK := hid bK
        clear bK uK GJ EJ
        go_wp2_with (first | (refine wpl_loadw rfl 70 (.tmp 15) rfl rfl BK.out agg_head HBL.out ?_))
        refine (hrb.out wK).mono ?_
        rintro e wL ⟨v3, rfl, hv3, eL⟩
        rw [if_pos trivial] at hv3
        obtain ⟨a3, n3, rfl, hn3, hm3, hz3, hc3⟩ := own_slice hv3
        have H3 := hid hc3
        have EL := hid (EK.out.ext eL)
        have HCD := hid (HCL.out.ext EL.out)
        clear hv3 hc3 hm3 hz3 eL BK EK hrb
        go_wp2_with fail
        refine (equal_c d d a3 a 84 84 n3 c wL HD.out.symm HD.out.symm H3.out HCD.out).mono ?_
        rintro e wM ⟨rfl, rfl⟩
        rw [beq_self_eq_true]
        go_wp2_with fail
        go_ret
        exact ⟨rfl, EL.out⟩
      · rw [e2]
        have d1 : decide ((n : Int) < 84) = false := decide_eq_false (by omega)
        have d2 : decide (n < 84) = false := decide_eq_false (by omega)
        generalize hpe : parseHE d n = pe at *
        clear e2 hpe HCASE
        rcases e1 with rfl | rfl
        all_goals
          go_wp2_with (first | (refine wpl_storew rfl _ (.tmp 15) _ rfl rfl rfl GJ.out agg_head HVL.out HZHL.out hzho ?_))
          intro wK bK uK
          have EK := hid (uK.ext EJ.out hgw)
          have BK := hid bK
          clear bK uK GJ EJ
          go_wp2_with (first | (refine wpl_loadw rfl 70 (.tmp 15) rfl rfl BK.out agg_head HZHL.out ?_) | (refine wpg_cmp rfl .eql _ _ _ _ rfl rfl rfl guard_head HZEQ.out ?_))
          go_ret
          exact ⟨rfl, EK.out⟩
  · obtain ⟨z, hz⟩ : ∃ z : List UInt8, z = List.replicate 64 0 := ⟨_, rfl⟩
    have hrv : (if (4 : Int) = 0 then Value.tuple #[.agg (q.map u8v).toArray, .int .i64 0] else .tuple #[zeros 64, .int .i64 4]) = .tuple #[.agg (z.map u8v).toArray, .int .i64 4] := by rw [hz]; exact if_neg (by decide)
    rw [hrv]
    have HZL := hid (show (z.map u8v).length = 64 by rw [hz]; rfl)
    have oZ := one_u8 z
    have HEQ := hid (fun w' => show (binOp .eql 72 (.agg (z.map u8v).toArray) (.agg (List.replicate 64 (Value.int .u8 0)).toArray)).run Try.prog w' = .ok (.bool true) w' from by
      have h := eq_self Try.underlying72 (List.replicate 64 0) rfl w'
      rw [hz]; exact h)
    have HZ := hid hz
    clear hrv hz
    have hv1 := HVO.out
    have hv2 := HVO2.out
    rw [if_neg (by decide)] at hv1 hv2
    subst hv1
    subst hv2
    clear HVO HVO2 hvcd hvde hrs hep
    go_wp2_with (first | (refine wpl_storew rfl _ (.tmp 13) _ rfl rfl rfl (Blk.mk_alloc (vs := List.replicate 64 (.int .u8 0)) rfl rfl) agg_seal (by simp) HZL.out oZ ?_))
    intro wF bF uF
    have eF : Ext wE wF := uF.ext ((Ext.refl wE).alloc _) (Nat.le_refl _)
    have QF := hid bF
    clear uF bF
    have PF := hid (PE.out.ext eF)
    have KF := hid (KE.out.ext eF)
    have SF := hid (SE.out.ext eF)
    have EF := hid (EE.out.ext eF)
    clear eF PE KE SE EE
    generalize wE.heap.size = gq at *
    go_wp2_with fail
    refine (equal_c [] [] none none 0 0 0 0 wF rfl rfl (.inl rfl) (.inl rfl)).mono ?_
    rintro e wG ⟨rfl, rfl⟩
    go_wp2_with (first | (refine wpl_loadw rfl 72 (.tmp 13) rfl rfl QF.out agg_seal HZL.out ?_) | (refine wpg_cmp rfl .eql _ _ _ _ rfl rfl rfl guard_seal HEQ.out ?_) | (refine wpg_loadw rfl 23 (.tmp 5) rfl rfl KF.out agg_key HKL.out ?_) | (refine wpg_loadw rfl 70 (.tmp 4) rfl rfl PF.out agg_head HVL.out ?_) | (refine wpg_loadw rfl 72 (.tmp 6) rfl rfl SF.out agg_seal HSV.out ?_))
    refine (hck.out s wF HSL.out).mono ?_
    rintro e wG ⟨rfl, eG⟩
    have hcv : (if (4 : Int) = 0 then if q = s then (0 : Int) else 13 else 4) = 4 := if_neg (by decide)
    rw [hcv]
    go_wp2_with fail
    go_ret
    exact ⟨rfl, EF.out.ext eG⟩
end

section
open Go Go.RowKit Go.ChangeShapes Go.WideShapes Go.ChangeAt

theorem u8_of {n : Int} (h : (Lit.int .u8 n).wf = true) : ∃ x : UInt8, Value.int .u8 n = u8v x := by
  have hb := bounds_u8 h
  refine ⟨UInt8.ofNat n.toNat, ?_⟩
  unfold u8v
  congr 1
  rw [UInt8.toNat_ofNat']
  omega

theorem u8s_of : ∀ (vs : List Value), (∀ (i : Nat) (v : Value), vs[i]? = some v → ∃ x : UInt8, v = u8v x) → ∃ l : List UInt8, vs = l.map u8v
  | [], _ => ⟨[], rfl⟩
  | v :: vs, h => by
    obtain ⟨x, hx⟩ := h 0 v rfl
    obtain ⟨l, hl⟩ := u8s_of vs fun i u hu => h (i + 1) u (by simpa using hu)
    exact ⟨x :: l, by rw [hx, hl]; rfl⟩

section
variable {H : Type} {enc : TypeId × Value → H} {P : Program} {w : World}
/-- an array of octets -/
theorem open_octets {r : Reach} {b0 base : Nat} {sp : Nat → Bool} {held : Bool} {t e : TypeId} {n : Nat} {v : Value} {d : DataW H} {ps : List MemPlace} (ht : P.underlying t = some (.array n e)) (he : P.underlying e = some (.int .u8)) (hce : P.cellsOf e = 1) (hct : P.cellsOf t = n)
    (hval : Value.okWide P w r b0 t v) (hd : DataW.Trod enc P w base sp held t v d ps) : ∃ l : List UInt8, l.length = n ∧ v = .agg (l.map u8v).toArray := by
  unfold Value.okWide at hval
  rw [ht] at hval
  obtain ⟨cs, rfl, hs, _⟩ := hval
  obtain ⟨fuel, hf⟩ := hd
  obtain ⟨xs, m, _, _, hlen, hxl, hel⟩ := DataW.trod_array ht hf
  have hcl : cs.toList.length = n := by rw [Array.length_toList, hs, hct]
  obtain ⟨l, hl⟩ := u8s_of cs.toList fun i u hu => by
    have hi : i < n := by
      have := (List.getElem?_eq_some_iff.1 hu).1
      omega
    have h1 := hel i hi
    rw [hce, Nat.mul_one] at h1
    have hx : xs[i]? = some xs[i] := by simp
    have h2 : (cs.toList.drop i).take 1 = [u] := by
      have h3 := List.getElem?_drop (xs := cs.toList) (i := i) (j := 0)
      rw [Nat.add_zero, hu] at h3
      cases hd : cs.toList.drop i with
      | nil => rw [hd] at h3; simp at h3
      | cons y r => rw [hd] at h3; simp at h3; simp [h3]
    have h4 : DataW.trod enc P w base sp held m e [u] = some xs[i] := by
      rw [← h2, ← hx]; exact h1
    obtain ⟨k, hk, _, hw⟩ := DataW.trod_int he h4
    have hu' : u = .int .u8 k := by simpa using hk
    rw [hu']; exact u8_of hw
  refine ⟨l, ?_, ?_⟩
  · have := congrArg List.length hl
    rw [hcl, List.length_map] at this; exact this.symm
  · rw [← hl]
end
end

section
open Go Go.RowKit Go.ChangeShapes Go.WideShapes Go.ChangeAt

section
variable {H : Type} {enc : TypeId × Value → H} {P : Program} {w : World}
/-- a slice of octets, read whole -/
theorem open_bytes {r : Reach} {b0 base : Nat} {held : Bool} {t e : TypeId} {v : Value} {d : DataW H} {ps : List MemPlace} (ht : P.underlying t = some (.slice e)) (he : P.underlying e = some (.int .u8)) (hce : P.cellsOf e = 1)
    (hval : Value.okWide P w r b0 t v) (hd : DataW.Trod enc P w base (fun _ => true) held t v d ps) :
    ∃ (a : Option Addr) (n c : Nat) (l : List UInt8) (es sp : List (DataW H)), v = .slice a n c ∧ l.length = n ∧ n ≤ c ∧ (a = none → c = 0) ∧ Cells w a (l.map u8v) ∧ ((d = .nil ∧ c = 0) ∨ (d = .slice es sp ∧ es.length + sp.length = c)) := by
  obtain ⟨a, n, c, rfl⟩ := okWide_slice ht hval
  obtain ⟨fuel, hf⟩ := hd
  rcases open_ints ht he hce hf with ⟨hcs, hx⟩ | ⟨ad, len, cap, zs, hcs, _, hle, hmax, hlen, hx, hcell, hwf⟩
  · simp [Value.cells] at hcs
    obtain ⟨rfl, rfl, rfl⟩ := hcs
    simp only [Prod.mk.injEq] at hx
    exact ⟨none, 0, 0, [], [], [], rfl, rfl, Nat.le_refl _, fun _ => rfl, .inl rfl, .inl ⟨hx.1, rfl⟩⟩
  · simp [Value.cells] at hcs
    obtain ⟨rfl, rfl, rfl⟩ := hcs
    simp only [Prod.mk.injEq] at hx
    simp only [if_true] at hlen
    obtain ⟨l, hl⟩ := u8s_of ((zs.take n).map (Value.int .u8)) fun i u hu => by
      have hm := List.mem_of_getElem? hu
      obtain ⟨z, hz, rfl⟩ := List.mem_map.1 hm
      exact u8_of (hwf z (List.mem_of_mem_take hz))
    have hll : l.length = n := by
      have := congrArg List.length hl
      simp only [List.length_map, List.length_take] at this
      omega
    refine ⟨some ad, n, c, l, lits .u8 (zs.take n), lits .u8 (zs.drop n), rfl, hll, hle, (fun h => by cases h), ?_, .inr ⟨hx.1, ?_⟩⟩
    · by_cases hn : n = 0
      · left
        have : l = [] := List.length_eq_zero_iff.1 (by omega)
        rw [this]; rfl
      · obtain ⟨b, off, rfl, hat⟩ := ints_at hcell (by omega)
        refine .inr ⟨b, off, rfl, fun i u hu => ?_⟩
        rw [← hl] at hu
        have hi : i < n := by
          have := (List.getElem?_eq_some_iff.1 hu).1
          simp at this; omega
        rw [hat i (by omega)]
        rw [List.getElem?_map, List.getElem?_take_of_lt hi] at hu
        rw [List.getD_eq_getElem?_getD]
        cases hz : zs[i]? with
        | none => rw [hz] at hu; simp at hu
        | some z => rw [hz] at hu; simpa using hu
    · simp [lits]; omega
end
end

section
open Go Go.RowKit Go.ChangeShapes Go.WideShapes Go.ChangeAt Go.Deep

theorem cells?_at {w : World} {base : Nat} {p : Addr} {k : Nat} {cs : List Value} (h : w.cells? base p k = some cs) : cs.length = k ∧ CellsAt w p cs := by
  unfold World.cells? at h
  split at h
  · refine ⟨by simpa using mapM_some_length h, fun j u hu => ?_⟩
    have hj : j < k := by
      have h1 := (List.getElem?_eq_some_iff.1 hu).1
      have h2 := mapM_some_length h
      simp at h2; omega
    have := mapM_some_get h j j (by simp [hj])
    rw [hu] at this
    exact this
  · cases h

section
variable {H : Type} {enc : TypeId × Value → H} {P : Program} {w : World}
theorem octets_of_trod {base : Nat} {sp : Nat → Bool} {held : Bool} {t e : TypeId} {n f : Nat} {cs : List Value} {x : DataW H × List MemPlace} (ht : P.underlying t = some (.array n e)) (he : P.underlying e = some (.int .u8)) (hce : P.cellsOf e = 1) (hct : P.cellsOf t = n)
    (hf : DataW.trod enc P w base sp held f t cs = some x) : ∃ l : List UInt8, l.length = n ∧ cs = l.map u8v := by
  obtain ⟨xs, m, _, _, hlen, hxl, hel⟩ := DataW.trod_array ht hf
  have hcl : cs.length = n := by rw [hlen, hct]
  obtain ⟨l, hl⟩ := u8s_of cs fun i u hu => by
    have hi : i < n := by
      have := (List.getElem?_eq_some_iff.1 hu).1
      omega
    have h1 := hel i hi
    rw [hce, Nat.mul_one] at h1
    have hx : xs[i]? = some xs[i] := by simp
    have h2 : (cs.drop i).take 1 = [u] := by
      have h3 := List.getElem?_drop (xs := cs) (i := i) (j := 0)
      rw [Nat.add_zero, hu] at h3
      cases hd : cs.drop i with
      | nil => rw [hd] at h3; simp at h3
      | cons y r => rw [hd] at h3; simp at h3; simp [h3]
    have h4 : DataW.trod enc P w base sp held m e [u] = some xs[i] := by
      rw [← h2, ← hx]; exact h1
    obtain ⟨k, hk, _, hw⟩ := DataW.trod_int he h4
    have hu' : u = .int .u8 k := by simpa using hk
    rw [hu']; exact u8_of hw
  refine ⟨l, ?_, hl⟩
  have := congrArg List.length hl
  rw [hcl, List.length_map] at this; exact this.symm

/-- a slice of rows, its cell read -/
theorem sums_of_trod {base f : Nat} {held : Bool} {t e q : TypeId} {cs : List Value} {x : DataW H × List MemPlace} (ht : P.underlying t = some (.slice e)) (he : P.underlying e = some (.array 32 q)) (hq : P.underlying q = some (.int .u8)) (cq : P.cellsOf q = 1) (ce : P.cellsOf e = 32)
    (hf : DataW.trod enc P w base (fun _ => true) held f t cs = some x) :
    ∃ (a : Option Addr) (n c : Nat) (ls : List (List UInt8)) (es sp : List (DataW H)), cs = [.slice a n c] ∧ ls.length = n ∧ All32 ls ∧ n ≤ c ∧ c ≤ maxLen ∧ (a = none → c = 0) ∧ Cells w a (rows ls) ∧ ((x.1 = .nil ∧ c = 0) ∨ (x.1 = .slice es sp ∧ es.length + sp.length = c)) := by
  rcases DataW.trod_slice ht hf with ⟨h0, h1⟩ | ⟨a, len, cap, elems, rest, n, _, rfl, rfl, hb, hl, hm, hlen, hel, hsp, hns⟩
  · exact ⟨none, 0, 0, [], [], [], h0, rfl, All32.nil, Nat.le_refl _, Nat.zero_le _, fun _ => rfl, .inl rfl, .inl ⟨by rw [h1], rfl⟩⟩
  · have each : ∀ i, i < len → ∃ l : List UInt8, l.length = 32 ∧ CellsAt w (a.add (i * 32)) (l.map u8v) := by
      intro i hi
      have h1 := hel i hi
      have hx : elems[i]? = some (elems[i]'(by omega)) := by simp
      rw [ce, hx, Option.bind_eq_some_iff] at h1
      obtain ⟨cs', hcs, hy⟩ := h1
      obtain ⟨l, hl1, rfl⟩ := octets_of_trod he hq cq ce hy
      exact ⟨l, hl1, (cells?_at hcs).2⟩
    obtain ⟨g, hg⟩ := choose_lt each
    have h32 : All32 ((List.range len).map g) := fun l hl => by
      obtain ⟨i, hi, rfl⟩ := List.mem_map.1 hl
      exact (hg i (List.mem_range.1 hi)).1
    obtain ⟨hrl, _⟩ := hsp rfl
    refine ⟨some a, len, cap, (List.range len).map g, _, _, rfl, by simp, h32, hl, hm, (fun h => by cases h), ?_, .inr ⟨rfl, by simp; omega⟩⟩
    by_cases h0 : len = 0
    · left; subst h0; rfl
    · obtain ⟨hl0, hc0⟩ := hg 0 (by omega)
      obtain ⟨b, off, spot⟩ := a
      have hspot : spot = none := by
        have := hc0 0 (u8v ((g 0)[0]'(by omega))) (by simp [hl0])
        simpa [Addr.add] using World.cell?_spot this
      subst hspot
      refine .inr ⟨b, off, rfl, fun i u hu => ?_⟩
      have hi : i < 32 * len := by
        have := (List.getElem?_eq_some_iff.1 hu).1
        rw [rows_length h32] at this; simpa using this
      obtain ⟨_, hcr⟩ := hg (i / 32) (by omega)
      have hrow : ((List.range len).map g)[i / 32]? = some (g (i / 32)) := by
        rw [List.getElem?_map, List.getElem?_range (by omega)]; rfl
      have h2 := rows_at h32 hrow
      have h3 : ((g (i / 32)).map u8v)[i % 32]? = some u := by
        rw [← h2, List.getElem?_take_of_lt (Nat.mod_lt _ (by omega)), List.getElem?_drop, Nat.div_add_mod]; exact hu
      have h4 := hcr _ _ h3
      rw [addr_add, addr_add] at h4
      rw [show off + i / 32 * 32 + i % 32 = off + i by omega] at h4
      exact h4

/-- a struct of two ints and a slice of rows -/
theorem open_proof {r : Reach} {b0 base : Nat} {held : Bool} {t e q : TypeId} {f0 f1 f2 : Field} {v : Value} {d : DataW H} {ps : List MemPlace} (ht : P.underlying t = some (.struct #[f0, f1, f2])) (h0 : P.underlying f0.type = some (.int .i64)) (h1 : P.underlying f1.type = some (.int .i64))
    (h2 : P.underlying f2.type = some (.slice e)) (he : P.underlying e = some (.array 32 q)) (hq : P.underlying q = some (.int .u8)) (cq : P.cellsOf q = 1) (ce : P.cellsOf e = 32) (c0 : P.cellsOf f0.type = 1) (c1 : P.cellsOf f1.type = 1) (c2 : P.cellsOf f2.type = 1) (ct : P.cellsOf t = 3)
    (o0 : f0.offset = 0) (o1 : f1.offset = 1) (o2 : f2.offset = 2)
    (hval : Value.okWide P w r b0 t v) (hd : DataW.Trod enc P w base (fun _ => true) held t v d ps) :
    ∃ (I Z : Int) (a : Option Addr) (n c : Nat) (ls : List (List UInt8)), v = .agg #[.int .i64 I, .int .i64 Z, .slice a n c] ∧ ls.length = n ∧ All32 ls ∧ n ≤ c ∧ c ≤ maxLen ∧ (a = none → c = 0) ∧ Cells w a (rows ls) ∧
      ∃ (D : DataW H) (es sp : List (DataW H)), d = .agg [.lit (.int .i64 I), .lit (.int .i64 Z), D] ∧ ((D = .nil ∧ c = 0) ∨ (D = .slice es sp ∧ es.length + sp.length = c)) ∧ (Lit.int .i64 I).wf = true ∧ (Lit.int .i64 Z).wf = true := by
  obtain ⟨cs, rfl, hs⟩ := okWide_struct ht hval
  obtain ⟨fuel, hf⟩ := hd
  obtain ⟨y0, y1, y2, m, hx, hl, g0, g1, g2⟩ := trod_struct3 ht hf
  rw [c0, o0] at g0
  rw [c1, o1] at g1
  rw [c2, o2] at g2
  obtain ⟨I, hI, hI2, wI⟩ := DataW.trod_int h0 g0
  obtain ⟨Z, hZ, hZ2, wZ⟩ := DataW.trod_int h1 g1
  obtain ⟨a, n, c, ls, es, sp, hsl, hln, h32, hnc, hcm, hnil, hcl, hdd⟩ := sums_of_trod h2 he hq cq ce g2
  have hcs : cs = #[.int .i64 I, .int .i64 Z, .slice a n c] := by
    have hsz : cs.size = 3 := by rw [hs, ct]
    obtain ⟨l⟩ := cs
    match l, hsz with
    | [p0, p1, p2], _ =>
      simp [Value.cells] at hI hZ hsl
      rw [hI, hZ, hsl]
  refine ⟨I, Z, a, n, c, ls, by rw [hcs], hln, h32, hnc, hcm, hnil, hcl, y2.1, es, sp, ?_, hdd, wI, wZ⟩
  simp only [Prod.mk.injEq] at hx
  rw [hx.1, hI2, hZ2]
end
end

section
open Go Go.RowKit Go.ChangeShapes Go.WideShapes Go.ChangeAt Go.Deep

section
variable {H : Type} {enc : TypeId × Value → H} {P : Program} {w : World}
theorem open_head {r : Reach} {b0 base : Nat} {held : Bool} {t q : TypeId} {f0 f1 f2 f3 : Field} {v : Value} {d : DataW H} {ps : List MemPlace} (ht : P.underlying t = some (.struct #[f0, f1, f2, f3])) (h0 : P.underlying f0.type = some (.int .i64)) (h1 : P.underlying f1.type = some (.int .i64))
    (h2 : P.underlying f2.type = some (.array 32 q)) (h3 : P.underlying f3.type = some (.array 32 q)) (hq : P.underlying q = some (.int .u8)) (cq : P.cellsOf q = 1) (c0 : P.cellsOf f0.type = 1) (c1 : P.cellsOf f1.type = 1) (c2 : P.cellsOf f2.type = 32) (c3 : P.cellsOf f3.type = 32) (ct : P.cellsOf t = 66)
    (o0 : f0.offset = 0) (o1 : f1.offset = 1) (o2 : f2.offset = 2) (o3 : f3.offset = 34)
    (hval : Value.okWide P w r b0 t v) (hd : DataW.Trod enc P w base (fun _ => true) held t v d ps) :
    ∃ (C T : Int) (r1 r2 : List UInt8), v = .agg (headV C T r1 r2).toArray ∧ r1.length = 32 ∧ r2.length = 32 := by
  obtain ⟨cs, rfl, hs⟩ := okWide_struct ht hval
  obtain ⟨fuel, hf⟩ := hd
  obtain ⟨xs, m, _, _, hl, hlen, hfs⟩ := DataW.trod_struct ht hf
  match xs, hlen with
  | [y0, y1, y2, y3], _ =>
  have g0 : DataW.trod enc P w base (fun _ => true) held m f0.type (((Value.agg cs).cells.toList.drop f0.offset).take (P.cellsOf f0.type)) = some y0 := by simpa using hfs 0 f0 rfl
  have g1 : DataW.trod enc P w base (fun _ => true) held m f1.type (((Value.agg cs).cells.toList.drop f1.offset).take (P.cellsOf f1.type)) = some y1 := by simpa using hfs 1 f1 rfl
  have g2 : DataW.trod enc P w base (fun _ => true) held m f2.type (((Value.agg cs).cells.toList.drop f2.offset).take (P.cellsOf f2.type)) = some y2 := by simpa using hfs 2 f2 rfl
  have g3 : DataW.trod enc P w base (fun _ => true) held m f3.type (((Value.agg cs).cells.toList.drop f3.offset).take (P.cellsOf f3.type)) = some y3 := by simpa using hfs 3 f3 rfl
  rw [c0, o0] at g0
  rw [c1, o1] at g1
  rw [c2, o2] at g2
  rw [c3, o3] at g3
  obtain ⟨C, hC, _, _⟩ := DataW.trod_int h0 g0
  obtain ⟨T, hT, _, _⟩ := DataW.trod_int h1 g1
  obtain ⟨r1, hr1, hc1⟩ := octets_of_trod h2 hq cq c2 g2
  obtain ⟨r2, hr2, hc2⟩ := octets_of_trod h3 hq cq c3 g3
  refine ⟨C, T, r1, r2, ?_, hr1, hr2⟩
  have e0 : (Value.agg cs).cells.toList = cs.toList := rfl
  rw [e0] at hC hT hc1 hc2 hl
  rw [ct] at hl
  have hcs : cs.toList = headV C T r1 r2 := by
    have s1 : cs.toList = cs.toList.take 1 ++ (cs.toList.drop 1).take 1 ++ (cs.toList.drop 2).take 32 ++ (cs.toList.drop 34).take 32 := by
      have e : ∀ p q : Nat, cs.toList.take p ++ (cs.toList.drop p).take q = cs.toList.take (p + q) := fun p q => List.take_add.symm
      rw [e 1 1, e 2 32, e 34 32, List.take_of_length_le (by omega)]
    rw [List.drop_zero] at hC
    rw [s1, hC, hT, hc1, hc2]; simp [headV]
  have : cs = cs.toList.toArray := by simp
  rw [this, hcs]
end
end
end Go.Proofs.Ytelhnimdfepmdaa
