/- The Summer's end; conditions: its octets' number. -/
import Derived.Test.YtjgglnflicemjaaP5
import Derived.Test.YtjgglnflicemjaaN5
namespace Go.Proofs.Ytjgglnflicemjaa
open Go Go.RowKit

/-- the octets behind a text, up to whole blocks -/
def padT (t : List UInt8) : List UInt8 := t ++ 128 :: List.replicate (31 - t.length % 32) 0
theorem padT_length (t : List UInt8) : (padT t).length % 32 = 0 := by
  unfold padT
  rw [List.length_append, List.length_cons, List.length_replicate]
  omega
/-- the state at the end -/
def finL (s t : List UInt8) (n : Nat) : List UInt8 := absorb (absN s (padT t) ((padT t).length / 32)) (List.replicate 24 0 ++ longL (UInt64.ofNat n))
theorem finL_length (s t : List UInt8) (n : Nat) : (finL s t n).length = 64 := absorb_length _ _
theorem agg_sum : AggT Try.prog 34 32 := ⟨⟨_, Try.underlying34, rfl⟩, by kernel_rfl⟩
theorem grown_none {w w' : World} (h : Ext w w') (r : Option Nat) : w.grownBy w' r := ⟨h.os, h.tape, h.output, h.size, fun i hi _ => h.block i hi⟩

theorem wpl_loadp {P : Program} {ops : Array Oper} {rest : List Oper} {o : Oper} {a : Act} {w : World} {Q : Exit → Act → World → Prop} (hgd : o.guard = none) (ty : TypeId) (x : Operand) (ho : o.op = .load ty x) {g off n : Nat} {vs xs : List Value} {T : TypeId}
    (hx : a.eval x = .pointer (some ⟨g, off, none⟩)) (hb : Blk w g vs T) (ht : AggT P ty n) (hn : off + n ≤ vs.length) (hxs : (vs.drop off).take n = xs)
    (h : wpList P ops Q rest (a.put o.dst (.agg xs.toArray)) w) : wpList P ops Q (o :: rest) a w :=
  wpl_load hgd ty x ho hx hb ht hn (by rw [hxs]; exact h)

set_option maxRecDepth 100000 in
set_option maxHeartbeats 2000000 in
theorem end_c (s0 t : List UInt8) (N : Nat) (g : Nat) (T : TypeId) (w : World) (hs : s0.length = 64) (hN : N ≤ 4611686018427387904) (hH : Holds w g T s0 t N) :
    Calls Try.prog 77 #[.pointer (some ⟨g, 0, none⟩)] w fun e w' => e = .returned (.agg ((finL s0 t N).map u8v).toArray) ∧ Ext w w' := by
  have HS := hid hs
  have HH := hid hH
  have hu : IntKind.u64.wrap (N : Int) = (N : Int) := IntWalk.u64_in _ (by omega)
  have hun : ((UInt64.ofNat N).toNat : Int) = N := by rw [UInt64.toNat_ofNat']; omega
  have hlong := fun w => longOctets_c (UInt64.ofNat N) w
  rw [hun] at hlong
  have HFL : Hid (((finL s0 t N).map u8v).length = 64) := hid (by rw [List.length_map, finL_length])
  have HFD : Hid (finL s0 t N = absorb (absN s0 (padT t) ((padT t).length / 32)) (List.replicate 24 0 ++ longL (UInt64.ofNat N))) := hid rfl
  have hgl := hH.lt
  generalize finL s0 t N = fin at *
  generalize UInt64.ofNat N = u at *
  clear hs hH hun
  go_enter Try.func77, Try.ntmps77
  go_wp2_with fail
  generalize hwA : World.alloc w _ = wA
  have zA : Blk wA w.heap.size (List.replicate 64 (.int .u8 0)) 22 := by rw [← hwA]; exact Blk.mk_alloc rfl rfl
  have eA : Ext w wA := by rw [← hwA]; exact (Ext.refl w).alloc _
  have sA : wA.heap.size = w.heap.size + 1 := by rw [← hwA]; exact Array.size_push _
  clear hwA
  refine (copy_c s0 t N g T _ HS.out (HH.out.ext eA)).mono ?_
  rintro e w1 ⟨rfl, h1, e1⟩
  have HZ1 := hid (zA.ext e1)
  have HE1 := hid (eA.ext e1)
  have HH1 := hid h1
  rw [sA] at HH1
  rw [sA]
  have lt1 : w.heap.size + 1 < w1.heap.size := HH1.out.lt
  clear zA eA sA h1 e1
  go_wp2_with fail
  generalize hwB : World.alloc w1 _ = wB
  have zB : Blk wB w1.heap.size (([128] : List UInt8).map u8v) 5 := by rw [← hwB]; exact Blk.mk_alloc rfl rfl
  have eB : Ext w1 wB := by rw [← hwB]; exact (Ext.refl w1).alloc _
  clear hwB
  refine (take_c s0 t [128] N (w.heap.size + 1) 1 1 (some ⟨w1.heap.size, 0, none⟩) SmT wB HS.out rfl (HH1.out.ext eB) (by omega) (Nat.le_refl _) (by omega) (by intro h; cases h) (Cells.of_blk0 zB) (.inr (by intro x hx; cases hx; intro h; injection h with h; simp only at h; omega))).mono ?_
  rintro e w2 ⟨rfl, h2, g2⟩
  have gB := grown_none eB (some (w.heap.size + 1))
  have HZ2 := hid ((HZ1.out.grown gB (by intro h; injection h with h; omega)).grown g2 (by intro h; injection h with h; omega))
  have HE2 := hid ((HE1.out.ext eB).grown g2 (by intro k hk; cases hk; omega))
  have lt2 : w.heap.size + 1 < w2.heap.size := h2.lt
  have HH2 := hid h2
  clear h2 g2 zB eB gB HZ1 HH1 HE1 lt1
  obtain ⟨r, hr, hrt, hB⟩ := HH2.out
  have c1 := hB.cell' (sm_have _ N (absN_length HS.out _) hr)
  have hlq : (t ++ [128]).length % 32 = (t.length + 1) % 32 := by rw [List.length_append]; rfl
  rw [hlq] at c1
  have hpt : padT t = (t ++ [128]) ++ List.replicate (31 - t.length % 32) 0 := by unfold padT; rw [List.append_assoc]; rfl
  have hpl := padT_length t
  generalize hq : (t.length + 1) % 32 = q at *
  have hq0 : q = 0 ∨ (0 < q ∧ 32 - q = 31 - t.length % 32) := by omega
  have hq32 : q < 32 := by omega
  clear hr hrt hB r hlq
  rcases hq0 with rfl | ⟨hq1, hq2⟩
  · have : 31 - t.length % 32 = 0 := by omega
    rw [this, List.replicate_zero, List.append_nil] at hpt
    rw [← hpt] at HH2
    clear hpt this hq
    obtain ⟨r, hr, -, hB⟩ := HH2.out
    have HR := hid hr
    have HB2 := hid hB
    clear hr hB
    have c2 := fun o => ((HH.out.ext HE2.out).ext ((Ext.refl w2).alloc o)).elim fun rr hh => hh.2.2.cell' (sm_total _ N (absN_length HS.out _) hh.1)
    go_wp2_with fail
    generalize hwD : World.alloc w2 _ = wD
    have zD : Blk wD w2.heap.size (List.replicate 32 (.int .u8 0)) 34 := by rw [← hwD]; exact Blk.mk_alloc rfl rfl
    have eD : Ext w2 wD := by rw [← hwD]; exact (Ext.refl w2).alloc _
    have sD : wD.heap.size = w2.heap.size + 1 := by rw [← hwD]; exact Array.size_push _
    clear hwD c2
    refine (hlong _).mono ?_
    rintro e wE ⟨rfl, eE⟩
    have lE : wD.heap.size ≤ wE.heap.size := eE.size
    go_wp2_with (refine wpl_storew rfl _ _ _ rfl rfl rfl (Blk.mk_alloc rfl rfl) agg_eight rfl rfl (one_u8 _) ?_)
    intro wF bF uF
    have eF : Ext wD wF := uF.ext (eE.alloc _) eE.size
    have HZF := hid (zD.ext eF)
    have HBF := hid bF
    have HEF := hid (eD.ext eF)
    clear bF uF eE zD
    generalize wE.heap.size = gE at *
    go_wp2
    refine wp_region_cls (C := fun w' => ∃ n, w' = wF.drewN n) 2 (by kernel_rfl) (by kernel_rfl) ⟨1, rfl⟩ ?_
    simp only [List.take_succ_cons, List.take_zero, List.drop_succ_cons, List.drop_zero]
    iterate 2 quiet_step (fail)
    refine wpQuiet_nil ?_
    rintro _ ⟨nq, rfl⟩
    have HLL : Hid (((longL u).map u8v).length = 8) := hid (by rw [List.length_map, longL_length])
    have hsp : splice (List.replicate 32 (.int .u8 0)) 24 ((longL u).map u8v) = (List.replicate 24 0 ++ longL u).map u8v := rfl
    have HSP := hid hsp
    have h32 : (List.replicate 24 0 ++ longL u).length = 32 := rfl
    clear hsp
    generalize hLv : (longL u).map u8v = lv at *
    have hlv1 : ∀ v ∈ lv, v.oneCell' = true := by rw [← hLv]; exact one_u8 _
    clear hLv
    have HBV := hid (Cells.of_blk0 (HBF.out.drewN (n := nq)))
    go_wp2_with (refine wpl_copyc rfl _ _ _ _ rfl rfl rfl (HZF.out.drewN (n := nq)) Try.underlying26 size_u8 HLL.out rfl (fun e => by cases e) HBV.out (by simp) hlv1 ?_)
    intro wG bG uG
    change Blk wG _ (splice (List.replicate 32 (.int .u8 0)) 24 lv) _ at bG
    rw [HSP.out] at bG
    generalize hlast : List.replicate 24 0 ++ longL u = last at *
    clear hlast
    have gne : w.heap.size + 1 ≠ w2.heap.size := by omega
    have HBG := hid (((HB2.out.ext HEF.out).drewN (n := nq)).upd uG gne)
    have HSR : Hid (∀ i, i < 32 → wG.cell? ⟨w2.heap.size, 0 + i, none⟩ = some (.int .u8 ((last[i]?.getD 0).toNat : Int))) := hid fun i hi => by
      rw [Nat.zero_add]; exact bG.cell' (u8_at (by omega))
    have eG : Ext w2 wG := uG.ext (HEF.out.drewN nq) (Nat.le_refl _)
    have HZG := hid (HZ2.out.ext eG)
    have HEG := hid (HE2.out.ext eG)
    clear bG uG eG HZF HBF HEF HZ2 HB2 HBV HLL HSP hlv1 h32
    go_wp2_with fail
    refine (block_c _ last _ (w.heap.size + 1) w2.heap.size 0 SmT wG (absN_length HS.out _) HBG.out HSR.out (.inl (Ne.symm gne))).mono ?_
    rintro e wH ⟨rfl, bH, gH⟩
    rw [← HFD.out] at bH
    have HZH := hid (HZG.out.grown gH (by intro h; injection h with h; omega))
    have HEH := hid (HEG.out.grown gH (by intro k hk; cases hk; omega))
    generalize r.map u8v ++ [Value.int IntKind.i64 _, Value.int IntKind.i64 _] = tl at *
    have hlH : 0 + 64 ≤ (fin.map u8v ++ tl).length := by rw [List.length_append, HFL.out]; omega
    have htk : ((fin.map u8v ++ tl).drop 0).take 64 = fin.map u8v := by rw [List.drop_zero, ← HFL.out, List.take_left]
    generalize hvs : fin.map u8v ++ tl = vs at *
    have HVS := hid hvs
    have HTK := hid htk
    have h1f := one_u8 fin
    clear hvs gH htk
    generalize hfv : fin.map u8v = fv at *
    have HFV := hid hfv
    clear hfv
    go_wp2_with (first | (refine wpl_loadp rfl _ _ rfl rfl bH agg_state hlH HTK.out ?_) | refine wpl_storew rfl _ _ _ rfl rfl rfl HZH.out agg_state rfl HFL.out h1f ?_)
    intro wI bI uI
    go_wp2
    refine ret_row rfl rfl bI agg_state HFL.out rfl ⟨by rw [HFV.out], uI.ext HEH.out (Nat.le_refl _)⟩
  · obtain ⟨k, hk⟩ : ∃ k, 32 - q = k := ⟨_, rfl⟩
    have iq1 : IntKind.i64.wrap (32 - (q : Int)) = (k : Int) := by rw [IntWalk.i64_in _ (by omega)]; omega
    have hkq : k ≤ 32 ∧ 0 < k := by omega
    rw [hk] at hq2
    have HK := hid hk
    have HQ2 := hid hq2
    have HPT := hid hpt
    clear hk hq hq2 hpt
    have hdq : decide ((0 : Int) < (q : Int)) = true := decide_eq_true (by omega)
    go_wp2_with (refine wpl_mk8 rfl _ _ rfl (n := k) rfl rfl (by omega) ?_)
    generalize hwC : World.alloc w2 _ = wC
    have zC : Blk wC w2.heap.size ((List.replicate (k) (0 : UInt8)).map u8v) 5 := by rw [← hwC]; exact Blk.mk_alloc rfl (by simp)
    have eC : Ext w2 wC := by rw [← hwC]; exact (Ext.refl w2).alloc _
    clear hwC
    refine (take_c s0 (t ++ [128]) (List.replicate (k) 0) N (w.heap.size + 1) k k (some ⟨w2.heap.size, 0, none⟩) SmT wC HS.out (List.length_replicate ..) (HH2.out.ext eC) (by omega) (Nat.le_refl _) (by omega) (by intro h; cases h) (Cells.of_blk0 zC) (.inr (by intro x hx; cases hx; intro h; injection h with h; simp only at h; omega))).mono ?_
    rintro e w3 ⟨rfl, h3, g3⟩
    rw [HQ2.out, ← HPT.out] at h3
    have gC := grown_none eC (some (w.heap.size + 1))
    have HZ3 := hid ((HZ2.out.grown gC (by intro h; injection h with h; omega)).grown g3 (by intro h; injection h with h; omega))
    have HE3 := hid ((HE2.out.ext eC).grown g3 (by intro k hk; cases hk; omega))
    have lt3 : w.heap.size + 1 < w3.heap.size := h3.lt
    have HH3 := hid h3
    clear h3 g3 zC eC gC HZ2 HH2 HE2 lt2 c1 hq1 hdq iq1 HK hkq HQ2 HPT
    obtain ⟨r, hr, -, hB⟩ := HH3.out
    have HR := hid hr
    have HB3 := hid hB
    clear hr hB
    have c2 := fun o => ((HH.out.ext HE3.out).ext ((Ext.refl w3).alloc o)).elim fun rr hh => hh.2.2.cell' (sm_total _ N (absN_length HS.out _) hh.1)
    go_wp2_with fail
    generalize hwD : World.alloc w3 _ = wD
    have zD : Blk wD w3.heap.size (List.replicate 32 (.int .u8 0)) 34 := by rw [← hwD]; exact Blk.mk_alloc rfl rfl
    have eD : Ext w3 wD := by rw [← hwD]; exact (Ext.refl w3).alloc _
    have sD : wD.heap.size = w3.heap.size + 1 := by rw [← hwD]; exact Array.size_push _
    clear hwD c2
    refine (hlong _).mono ?_
    rintro e wE ⟨rfl, eE⟩
    have lE : wD.heap.size ≤ wE.heap.size := eE.size
    go_wp2_with (refine wpl_storew rfl _ _ _ rfl rfl rfl (Blk.mk_alloc rfl rfl) agg_eight rfl rfl (one_u8 _) ?_)
    intro wF bF uF
    have eF : Ext wD wF := uF.ext (eE.alloc _) eE.size
    have HZF := hid (zD.ext eF)
    have HBF := hid bF
    have HEF := hid (eD.ext eF)
    clear bF uF eE zD
    generalize wE.heap.size = gE at *
    go_wp2
    refine wp_region_cls (C := fun w' => ∃ n, w' = wF.drewN n) 2 (by kernel_rfl) (by kernel_rfl) ⟨1, rfl⟩ ?_
    simp only [List.take_succ_cons, List.take_zero, List.drop_succ_cons, List.drop_zero]
    iterate 2 quiet_step (fail)
    refine wpQuiet_nil ?_
    rintro _ ⟨nq, rfl⟩
    have HLL : Hid (((longL u).map u8v).length = 8) := hid (by rw [List.length_map, longL_length])
    have hsp : splice (List.replicate 32 (.int .u8 0)) 24 ((longL u).map u8v) = (List.replicate 24 0 ++ longL u).map u8v := rfl
    have HSP := hid hsp
    have h32 : (List.replicate 24 0 ++ longL u).length = 32 := rfl
    clear hsp
    generalize hLv : (longL u).map u8v = lv at *
    have hlv1 : ∀ v ∈ lv, v.oneCell' = true := by rw [← hLv]; exact one_u8 _
    clear hLv
    have HBV := hid (Cells.of_blk0 (HBF.out.drewN (n := nq)))
    go_wp2_with (refine wpl_copyc rfl _ _ _ _ rfl rfl rfl (HZF.out.drewN (n := nq)) Try.underlying26 size_u8 HLL.out rfl (fun e => by cases e) HBV.out (by simp) hlv1 ?_)
    intro wG bG uG
    change Blk wG _ (splice (List.replicate 32 (.int .u8 0)) 24 lv) _ at bG
    rw [HSP.out] at bG
    generalize hlast : List.replicate 24 0 ++ longL u = last at *
    clear hlast
    have gne : w.heap.size + 1 ≠ w3.heap.size := by omega
    have HBG := hid (((HB3.out.ext HEF.out).drewN (n := nq)).upd uG gne)
    have HSR : Hid (∀ i, i < 32 → wG.cell? ⟨w3.heap.size, 0 + i, none⟩ = some (.int .u8 ((last[i]?.getD 0).toNat : Int))) := hid fun i hi => by
      rw [Nat.zero_add]; exact bG.cell' (u8_at (by omega))
    have eG : Ext w3 wG := uG.ext (HEF.out.drewN nq) (Nat.le_refl _)
    have HZG := hid (HZ3.out.ext eG)
    have HEG := hid (HE3.out.ext eG)
    clear bG uG eG HZF HBF HEF HZ3 HB3 HBV HLL HSP hlv1 h32
    go_wp2_with fail
    refine (block_c _ last _ (w.heap.size + 1) w3.heap.size 0 SmT wG (absN_length HS.out _) HBG.out HSR.out (.inl (Ne.symm gne))).mono ?_
    rintro e wH ⟨rfl, bH, gH⟩
    rw [← HFD.out] at bH
    have HZH := hid (HZG.out.grown gH (by intro h; injection h with h; omega))
    have HEH := hid (HEG.out.grown gH (by intro k hk; cases hk; omega))
    generalize r.map u8v ++ [Value.int IntKind.i64 _, Value.int IntKind.i64 _] = tl at *
    have hlH : 0 + 64 ≤ (fin.map u8v ++ tl).length := by rw [List.length_append, HFL.out]; omega
    have htk : ((fin.map u8v ++ tl).drop 0).take 64 = fin.map u8v := by rw [List.drop_zero, ← HFL.out, List.take_left]
    generalize hvs : fin.map u8v ++ tl = vs at *
    have HVS := hid hvs
    have HTK := hid htk
    have h1f := one_u8 fin
    clear hvs gH htk
    generalize hfv : fin.map u8v = fv at *
    have HFV := hid hfv
    clear hfv
    go_wp2_with (first | (refine wpl_loadp rfl _ _ rfl rfl bH agg_state hlH HTK.out ?_) | refine wpl_storew rfl _ _ _ rfl rfl rfl HZH.out agg_state rfl HFL.out h1f ?_)
    intro wI bI uI
    go_wp2
    refine ret_row rfl rfl bI agg_state HFL.out rfl ⟨by rw [HFV.out], uI.ext HEH.out (Nat.le_refl _)⟩
end Go.Proofs.Ytjgglnflicemjaa
