/- The law StreamsMatch, walked; conditions: the lengths. -/
import Derived.Test.YtjgglnflicemjaaP18
import Derived.Test.YtjgglnflicemjaaQ2
import Derived.Deep.DeepCutAuto
import Derived.Deep.CutBlock
namespace Go.Proofs.Ytjgglnflicemjaa
open Go Go.RowKit

theorem addr_add0 (x : Addr) : x.add 0 = x := by unfold Addr.add; split <;> simp_all
section
variable {P : Program} {ops : Array Oper} {rest : List Oper} {o : Oper} {a : Act} {w : World} {Q : Exit → Act → World → Prop}
theorem run_sliceAt_high {t e : TypeId} {p : Option Addr} {n c k : Nat} (hu : P.underlying t = some (.slice e)) (hs : (P.info? e).map (·.size) = some 1) (hk : k ≤ c) :
    (Instr.sliceAt t (.slice p n c) none (some (.int .i64 (k : Int))) none).run P w = .ok (.slice p k c) w := by
  cases hq : P.info? e with
  | none => simp [hq] at hs
  | some i =>
    have hi : i.size = 1 := by simpa [hq] using hs
    have h1 : (0 : Int) ≤ k ∧ (k : Int) ≤ c := by omega
    have ha : p.map (fun x => x.add 0) = p := by cases p <;> simp [addr_add0]
    simp [Instr.sliceAt, Instr.slice, Instr.sliceBounds, Instr.sliceBound, asIntOf, run_underlying hu, sizeOf, typeInfo, hq, hi, hk, ha]
/-- b[:k] -/
theorem wpl_slice_high (hgd : o.guard = none) (t e : TypeId) (x y : Operand) (ho : o.op = .slice t x none (some y) none) {p : Option Addr} {n c k : Nat}
    (hx : a.eval x = .slice p n c) (hy : a.eval y = .int .i64 (k : Int)) (hu : P.underlying t = some (.slice e)) (hs : (P.info? e).map (·.size) = some 1) (hk : k ≤ c)
    (h : wpList P ops Q rest (a.put o.dst (.slice p k c)) w) : wpList P ops Q (o :: rest) a w :=
  wpList_plain hgd fun K hK => by
    unfold Oper.wp execOp
    simp only [ho, hx, hy, Option.map_some, Option.map_none, run_sliceAt_high hu hs hk, Result.andThen_ok, Sem.run_bind, Sem.run_pure]
    exact hK _ _ h
end

set_option maxRecDepth 100000 in
set_option maxHeartbeats 2000000 in
theorem streams_c (k n t : List UInt8) (af m : Int) (l c : Nat) (a : Option Addr) (w : World) (hk : k.length = 32) (hn : n.length = 16) (ht : t.length = l) (hlc : l ≤ c) (hc : c ≤ 140737488351232) (hcl : Cells w a (t.map u8v)) (h0 : a = none → c = 0) :
    Calls Try.prog 6 #[.agg (k.map u8v).toArray, .agg (n.map u8v).toArray, .int .i64 af, .int .i64 m, .slice a l c] w fun e w' => e = .returned (.bool true) ∧ Ext w w' := by
  have HC := hid hcl
  have HT := hid ht
  have HK : Hid ((k.map u8v).length = 32) := hid (by rw [List.length_map, hk])
  have HN : Hid ((n.map u8v).length = 16) := hid (by rw [List.length_map, hn])
  have hstr := fun w => stream_c k n af m w hk hn
  have hrst := fun A M w h1 h2 => rstream_c k n A M w hk hn h1 h2
  have hcov := fun t l c a w h1 h2 h3 h4 => cover_c k n t l c a w hk hn h1 h2 h3 h4
  have hrcov := fun t l c a w h1 h2 h3 h4 => rcover_c k n t l c a w hk hn h1 h2 h3 h4
  have HSTR := hid hstr
  have HRST := hid hrst
  have HCOV := hid hcov
  have HRCOV := hid hrcov
  clear hcl ht h0 hstr hrst hcov hrcov
  generalize hkv : k.map u8v = kv at *
  generalize hnv : n.map u8v = nv at *
  have kA : Blk ((w.alloc (.cells kv.toArray 54)).alloc (.cells nv.toArray 55)) w.heap.size kv 54 := (Blk.mk_alloc rfl rfl).alloc _
  have nA : Blk ((w.alloc (.cells kv.toArray 54)).alloc (.cells nv.toArray 55)) (w.heap.size + 1) nv 55 := Blk.mk_alloc (by simp) rfl
  have eA : Ext w ((w.alloc (.cells kv.toArray 54)).alloc (.cells nv.toArray 55)) := ((Ext.refl w).alloc _).alloc _
  have KA := hid kA
  have NA := hid nA
  have EA := hid eA
  clear kA nA eA hkv hnv
  go_enter Try.func6, Try.ntmps6
  go_wp2_with fail
  generalize (w.alloc (.cells kv.toArray 54)).alloc (.cells nv.toArray 55) = wA at *
  refine (landed_c _).mono ?_
  rintro e w1 ⟨rfl, e1⟩
  have K1 := hid (KA.out.ext e1)
  have N1 := hid (NA.out.ext e1)
  have E1 := hid (EA.out.ext e1)
  clear e1
  go_wp2_with (first | (refine wpl_loadw rfl 54 _ rfl rfl K1.out agg_key HK.out ?_) | (refine wpl_loadw rfl 55 _ rfl rfl N1.out agg_nonce HN.out ?_))
  refine (HSTR.out w1).mono ?_
  intro e w2 h
  unfold streamPost at h
  obtain ⟨h, e2⟩ := h
  have K2 := hid (K1.out.ext e2)
  have N2 := hid (N1.out.ext e2)
  have E2 := hid (E1.out.ext e2)
  obtain ⟨v, code, he, hcs⟩ : ∃ v code, e = .returned (.tuple #[v, .int .i64 code]) ∧ ((af < 0 ∨ 1099511627776 < af ∨ m < 0) ∧ v = .slice none 0 0 ∧ code = 4 ∨ ¬ (af < 0 ∨ 1099511627776 < af ∨ m < 0) ∧ (1048576 < m ∧ v = .slice none 0 0 ∧ code = 5 ∨
      m ≤ 1048576 ∧ code = 0 ∧ w2.ownsRow w1.heap.size 5 1 v m.toNat ((strmL k n af.toNat m.toNat).map u8v))) := by
    by_cases h1 : af < 0 ∨ 1099511627776 < af ∨ m < 0
    · rw [if_pos h1] at h
      exact ⟨_, _, h, .inl ⟨h1, rfl, rfl⟩⟩
    · rw [if_neg h1] at h
      by_cases h2 : 1048576 < m
      · rw [if_pos h2] at h
        exact ⟨_, _, h, .inr ⟨h1, .inl ⟨h2, rfl, rfl⟩⟩⟩
      · rw [if_neg h2] at h
        obtain ⟨v, h3, h4⟩ := h
        exact ⟨v, 0, h3, .inr ⟨h1, .inr ⟨by omega, rfl, h4⟩⟩⟩
  subst he
  have HCS := hid hcs
  clear h e2 K1 N1 E1 KA NA EA hcs
  go_upto_block 0 with (fail)
  go_cut [] (fun wx => Ext w2 wx)
  case first =>
    rcases HCS.out with ⟨hr, rfl, rfl⟩ | ⟨hr, ⟨hb, rfl, rfl⟩ | ⟨hb, rfl, own⟩⟩
    · clear HCS
      by_cases ha : af < 0
      · have d1 : decide (af < 0) = true := decide_eq_true ha
        clear hr
        go_wp2
        go_meet
        exact Ext.refl _
      · by_cases hb : 1099511627776 < af
        · have d1 : decide (af < 0) = false := decide_eq_false ha
          have d2 : decide (1099511627776 < af) = true := decide_eq_true hb
          clear hr
          go_wp2
          go_meet
          exact Ext.refl _
        · have d1 : decide (af < 0) = false := decide_eq_false ha
          have d2 : decide (1099511627776 < af) = false := decide_eq_false hb
          have d3 : decide (m < 0) = true := decide_eq_true (by omega)
          clear hr
          go_wp2
          go_meet
          exact Ext.refl _
    · have d1 : decide (af < 0) = false := decide_eq_false (by omega)
      have d2 : decide (1099511627776 < af) = false := decide_eq_false (by omega)
      have d3 : decide (m < 0) = false := decide_eq_false (by omega)
      have d4 : decide (1048576 < m) = true := decide_eq_true hb
      clear hr HCS
      go_wp2
      go_meet
      exact Ext.refl _
    · have d1 : decide (af < 0) = false := decide_eq_false (by omega)
      have d2 : decide (1099511627776 < af) = false := decide_eq_false (by omega)
      have d3 : decide (m < 0) = false := decide_eq_false (by omega)
      have d4 : decide (1048576 < m) = false := decide_eq_false (by omega)
      obtain ⟨a1, c1, rfl, hnc1, hcm1, -, hcl1⟩ := own_slice own
      have HC1 := hid hcl1
      clear own hcl1 HCS
      by_cases h3 : 3000 < m
      · have d5 : decide (3000 < m) = true := decide_eq_true h3
        clear hr
        go_wp2
        go_meet
        exact Ext.refl _
      · have d5 : decide (3000 < m) = false := decide_eq_false h3
        obtain ⟨A, rfl⟩ := Int.eq_ofNat_of_zero_le (show 0 ≤ af by omega)
        obtain ⟨M, rfl⟩ := Int.eq_ofNat_of_zero_le (show 0 ≤ m by omega)
        have hr2 := HRST.out A M w2 (by omega) (by omega)
        rw [Int.toNat_natCast, Int.toNat_natCast] at HC1
        rw [Int.toNat_natCast]
        have hsl := strmL_length k n A M
        generalize strmL k n A M = st at *
        have HR2 := hid hr2
        have HSL := hid hsl
        clear hr hr2 hsl
        go_wp2_with (first | (refine wpg_loadw (by rfl) 54 _ rfl rfl K2.out agg_key HK.out ?_) | (refine wpg_loadw (by rfl) 55 _ rfl rfl N2.out agg_nonce HN.out ?_))
        refine HR2.out.mono ?_
        rintro e w3 ⟨v3, rfl, own3, e3⟩
        obtain ⟨a4, c4, rfl, -, -, -, hcl4⟩ := own_slice own3
        have HQ := hid (equal_c st st a1 a4 M M c1 c4 w3 HSL.out.symm HSL.out.symm (HC1.out.ext e3) hcl4)
        have E3 := hid e3
        clear own3 hcl4 HR2 e3
        go_wp2_with fail
        refine HQ.out.mono ?_
        rintro e w4 ⟨rfl, rfl⟩
        rw [beq_self_eq_true]
        clear HQ
        go_wp2
        go_meet
        exact E3.out
  case rest =>
    obtain ⟨L, hL, hLl, hL3⟩ : ∃ L : Nat, min (l : Int) 3000 = (L : Int) ∧ L ≤ l ∧ L ≤ 3000 := ⟨min l 3000, by omega, by omega, by omega⟩
    have hLc : L ≤ c := by omega
    have htl : (t.take L).length = L := by rw [List.length_take, HT.out]; omega
    have hct : Cells w a ((t.take L).map u8v) := by rw [List.map_take]; exact HC.out.take L
    have HCT := hid hct
    have HTL := hid htl
    have K3 := hid (K2.out.ext hcut)
    have N3 := hid (N2.out.ext hcut)
    have E3 := hid (E2.out.ext hcut)
    clear hct htl HCS K2 N2 E2 hcut HC HT HSTR HRST
    generalize t.take L = tt at *
    go_wp2_with (first | (refine wpl_slice_high rfl _ _ _ _ rfl (k := L) rfl rfl Try.underlying26 size_u8 hLc ?_) | (refine wpl_loadw rfl 54 _ rfl rfl K3.out agg_key HK.out ?_) | (refine wpl_loadw rfl 55 _ rfl rfl N3.out agg_nonce HN.out ?_))
    refine (HCOV.out tt L c a wc HTL.out (by omega) hLc (HCT.out.ext E3.out)).mono ?_
    rintro e w4 ⟨v4, rfl, own4, e4⟩
    obtain ⟨a5, c5, rfl, hnc5, -, -, hcl5⟩ := own_slice own4
    have K4 := hid (K3.out.ext e4)
    have N4 := hid (N3.out.ext e4)
    have E4 := hid (E3.out.ext e4)
    have C5 := hid hcl5
    clear own4 hcl5 e4
    go_wp2_with (first | (refine wpl_loadw rfl 54 _ rfl rfl K4.out agg_key HK.out ?_) | (refine wpl_loadw rfl 55 _ rfl rfl N4.out agg_nonce HN.out ?_))
    have hcvl : (coverL k n tt).length = L := by rw [coverL_length]; exact HTL.out
    refine (HCOV.out (coverL k n tt) L c5 a5 w4 hcvl (by omega) hnc5 C5.out).mono ?_
    rw [cover_twice]
    generalize hcv : coverL k n tt = cv at *
    have HCV := hid hcv
    have HCVL := hid hcvl
    rintro e w5 ⟨v5, rfl, own5, e5⟩
    obtain ⟨a6, c6, rfl, -, -, -, hcl6⟩ := own_slice own5
    have K5 := hid (K4.out.ext e5)
    have N5 := hid (N4.out.ext e5)
    have E5 := hid (E4.out.ext e5)
    have C55 := hid (C5.out.ext e5)
    have C6 := hid hcl6
    clear own5 hcl6 e5 hcv hcvl
    go_wp2_with (first | (refine wpg_loadw (by rfl) 54 _ rfl rfl K5.out agg_key HK.out ?_) | (refine wpg_loadw (by rfl) 55 _ rfl rfl N5.out agg_nonce HN.out ?_))
    refine (HRCOV.out tt L c a w5 HTL.out (by omega) hLc (HCT.out.ext E5.out)).mono ?_
    rw [HCV.out]
    rintro e w6 ⟨v6, rfl, own6, e6⟩
    obtain ⟨a7, c7, rfl, -, -, -, hcl7⟩ := own_slice own6
    have HQ1 := hid (equal_c cv cv a5 a7 L L c5 c7 w6 HCVL.out.symm HCVL.out.symm (C55.out.ext e6) hcl7)
    have HQ2 := hid (equal_c tt tt a6 a L L c6 c w6 HTL.out.symm HTL.out.symm (C6.out.ext e6) (HCT.out.ext (E5.out.ext e6)))
    have E6 := hid (E5.out.ext e6)
    clear own6 hcl7 e6
    go_wp2_with fail
    refine HQ1.out.mono ?_
    rintro e w7 ⟨rfl, rfl⟩
    rw [beq_self_eq_true]
    go_wp2_with fail
    refine HQ2.out.mono ?_
    rintro e w8 ⟨rfl, rfl⟩
    rw [beq_self_eq_true]
    go_wp2
    go_ret
    exact ⟨rfl, E6.out⟩
end Go.Proofs.Ytjgglnflicemjaa
