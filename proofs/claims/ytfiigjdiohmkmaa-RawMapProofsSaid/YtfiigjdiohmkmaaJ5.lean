/- Contracts and laws that the claim's row leans on (16 texts, joined): ProofsArePrinted; conditions: the lengths. Bits of a key; conditions: the level is below 256. tree.bit and keyref1.bit; conditions: the level is below 256. tree.marked and keyref1.depth; conditions: 32 octets. single and leafOf; conditions: the lengths. tree.side; what both 'up' compute; conditions: the lengths. tree.up; conditions: the lengths. keyref1.up; conditions: the lengths. tree.There; conditions: the lengths. keyref1.There; conditions: the lengths. differs and differ; conditions: the lengths. Regions that draw and make two variables, the first stored into at once; no condition. tree.Absent; conditions: the lengths. keyref1.Absent; conditions: the lengths. Plain laws of Changed: the sums from the parting level up; where two keys part; no condition. Rows of 64 octets (the reference's entries of a map): make one, append one; no condition. -/
import Derived.Test.YtfiigjdiohmkmaaJ4
import Derived.Test.YtfiigjdiohmkmaaB2
namespace Go.Proofs.Ytfiigjdiohmkmaa
section
open Go Go.RowKit

def pI (l : List UInt8) : Int := if parseE l = 0 then long8 l 0 else 0
def pZ (l : List UInt8) : Int := if parseE l = 0 then long8 l 8 else 0
def pN (l : List UInt8) : Int := if parseE l = 0 then ((20 + 32 * manyL l : Nat) : Int) else 0
def pR (l : List UInt8) : List (List UInt8) := if parseE l = 0 then rowsOf l (manyL l) else []
theorem parseE_zero {l : List UInt8} (h : parseE l = 0) : 20 + 32 * manyL l ≤ l.length := by
  unfold parseE at h
  by_cases h1 : l.length < 20
  · rw [if_pos h1] at h; omega
  · rw [if_neg h1] at h
    by_cases h2 : l.length < 20 + 32 * manyL l
    · rw [if_pos h2] at h; omega
    · omega
theorem pR_32 (l : List UInt8) : All32 (pR l) := by
  unfold pR
  by_cases h : parseE l = 0
  · rw [if_pos h]; exact rowsOf_32 (parseE_zero h)
  · rw [if_neg h]; intro x hx; cases hx
theorem pR_le (l : List UInt8) : 32 * (pR l).length ≤ l.length := by
  unfold pR
  by_cases h : parseE l = 0
  · rw [if_pos h, rowsOf_length]; have := parseE_zero h; omega
  · rw [if_neg h]; simp
theorem parsed {l : List UInt8} {w w' : World} {e : Ending} (h : parsePost l w e w') :
    ∃ a c, e = .returned (.tuple #[.agg #[.int .i64 (pI l), .int .i64 (pZ l), .slice a (pR l).length c], .int .i64 (pN l), .int .i64 (parseE l)]) ∧ Cells w' a (rows (pR l)) ∧ Ext w w' := by
  obtain ⟨I, Z, N, pv, rfl, hi, he⟩ := h
  unfold pI pZ pN pR
  by_cases h0 : parseE l = 0
  · rw [if_pos h0] at hi
    obtain ⟨rfl, rfl, rfl, ho⟩ := hi
    obtain ⟨a, c, rfl, _, _, _, hc⟩ := own_sliceT (by omega) ho
    simp only [if_pos h0, rowsOf_length]
    exact ⟨a, c, rfl, hc, he⟩
  · rw [if_neg h0] at hi
    obtain ⟨rfl, rfl, rfl, rfl⟩ := hi
    simp only [if_neg h0]
    exact ⟨none, 0, rfl, .inl rfl, he⟩
def prL (I Z : Int) (ls : List (List UInt8)) : List UInt8 := if printE I Z ls.length = 0 then printL I Z ls else []
theorem printed {I Z : Int} {ls : List (List UInt8)} (h32 : All32 ls) {w w' : World} {e : Ending} (h : printPost I Z ls w e w') :
    ∃ a c, e = .returned (.tuple #[.slice a (prL I Z ls).length c, .int .i64 (printE I Z ls.length)]) ∧ Cells w' a ((prL I Z ls).map u8v) ∧ Ext w w' ∧ (printE I Z ls.length = 0 → w'.ownsRow w.heap.size 5 1 (.slice a (prL I Z ls).length c) (prL I Z ls).length ((prL I Z ls).map u8v)) := by
  obtain ⟨v, rfl, hi, he⟩ := h
  unfold prL
  by_cases h0 : printE I Z ls.length = 0
  · rw [if_pos h0] at hi
    simp only [if_pos h0, printL_length I Z h32]
    obtain ⟨a, c, rfl, _, _, _, hc⟩ := own_slice hi
    exact ⟨a, c, rfl, hc, he, fun _ => hi⟩
  · rw [if_neg h0] at hi
    subst hi
    simp only [if_neg h0]
    exact ⟨none, 0, rfl, .inl rfl, he, fun h => absurd h (by first | exact h0 | exact fun x => x)⟩
theorem printE_zero {I Z : Int} {m : Nat} (h : printE I Z m = 0) : 0 ≤ I ∧ I ≤ 65536 ∧ 0 ≤ Z ∧ Z ≤ 65536 ∧ m ≤ 64 := by
  unfold printE at h
  by_cases h1 : I < 0 ∨ 65536 < I ∨ Z < 0 ∨ 65536 < Z
  · rw [if_pos h1] at h; omega
  · rw [if_neg h1] at h
    by_cases h2 : 64 < m
    · rw [if_pos h2] at h; omega
    · omega
theorem printed_parsed {I Z : Int} {ls : List (List UInt8)} (h32 : All32 ls) (h : printE I Z ls.length = 0) (post : List UInt8) :
    parseE (prL I Z ls ++ post) = 0 ∧ pI (prL I Z ls ++ post) = I ∧ pZ (prL I Z ls ++ post) = Z ∧ pR (prL I Z ls ++ post) = ls ∧ pN (prL I Z ls ++ post) = ((prL I Z ls).length : Nat) ∧ ls.length ≤ 64 := by
  obtain ⟨h1, h2, h3, h4, h5⟩ := printE_zero h
  obtain ⟨i, rfl⟩ := Int.eq_ofNat_of_zero_le h1
  obtain ⟨z, rfl⟩ := Int.eq_ofNat_of_zero_le h3
  obtain ⟨a1, a2, a3, a4, a5⟩ := parse_print (I := i) (Z := z) (ls := ls) (by omega) (by omega) h5 h32 post
  unfold prL
  rw [if_pos h]
  unfold pI pZ pR pN
  rw [if_pos a1, if_pos a1, if_pos a1, if_pos a1, a2, a3, a4, a5, printL_length _ _ h32]
  exact ⟨a1, rfl, rfl, rfl, rfl, h5⟩

theorem prL_le {I Z : Int} {ls : List (List UInt8)} (h32 : All32 ls) : (prL I Z ls).length ≤ 2068 := by
  unfold prL
  by_cases h : printE I Z ls.length = 0
  · rw [if_pos h, printL_length _ _ h32]; have := printE_zero h; omega
  · rw [if_neg h]; simp

/-- a guarded load of a whole block -/
theorem wpl_loadw_g {P : Program} {ops : Array Oper} {Q : Exit → Act → World → Prop} {a : Act} {w : World} {rest : List Oper} {o : Oper} (hw : Region.wanted o (yielded ops a.tmps) = true) (ty : TypeId) (x : Operand) (ho : o.op = .load ty x) {g : Nat} {vs : List Value} {T : TypeId}
    (hx : a.eval x = .pointer (some ⟨g, 0, none⟩)) (hb : Blk w g vs T) {n : Nat} (ht : AggT P ty n) (hn : vs.length = n)
    (h : wpList P ops Q rest (a.put o.dst (.agg vs.toArray)) w) : wpList P ops Q (o :: rest) a w :=
  wpList_step fun K hK => by
    rw [if_pos hw]
    have h1 := run_load_sub (P := P) (off := 0) hb ht (by omega)
    have h2 : (vs.drop 0).take n = vs := by simp [← hn]
    rw [h2] at h1
    unfold Oper.wp execOp
    simp only [ho, hx, Instr.loadAt, Instr.sureAddr, Sem.run_bind, Sem.run_pure, Result.andThen_ok, h1]
    exact hK _ _ h

set_option maxRecDepth 100000 in
set_option maxHeartbeats 2000000 in
theorem proofsArePrinted_c (I Z : Int) (a : Option Addr) (n c : Nat) (ls : List (List UInt8)) (b : Option Addr) (m d : Nat) (l : List UInt8) (w : World) (hn : ls.length = n) (h32 : All32 ls) (hnc : n ≤ c) (hcl : Cells w a (rows ls)) (hm : l.length = m) (hm47 : m ≤ 140737488355328) (hmd : m ≤ d) (hb : Cells w b (l.map u8v)) :
    Calls Try.prog 3 #[.agg #[.int .i64 I, .int .i64 Z, .slice a n c], .slice b m d] w fun e w' => e = .returned (.bool true) ∧ Ext w w' := by
  have hp1 := hid (fun w' h => printProof_c I Z ls n c a w' h32 hn hnc h)
  have hp2 := hid (fun w' h => rprintProof_c I Z ls n c a w' h32 hn hnc h)
  have hq1 := hid (fun w' h => parseProof_c l b m d w' hm hm47 hmd h)
  have hq2 := hid (fun w' h => rparseProof_c l b m d w' hm hm47 hmd h)
  have H32 := hid h32
  have HN := hid hn
  have HA := hid hcl
  have HB := hid hb
  have hpl := pR_le l
  have hrl : (pR l).length ≤ 4611686018427387904 := by omega
  have HPR := hid (pR_32 l)
  have HPL := hid (fun w' a b c d h1 h2 => sameProof_c (pI l) (pZ l) (pR l) a b _ c d w' rfl hrl (pR_32 l) h1 h2)
  have HPD := hid (fun w' e w'' (h : parsePost l w' e w'') => parsed h)
  have HPT := hid (fun w' e w'' (h : printPost I Z ls w' e w'') => printed h32 h)
  have HPP := hid (fun h => printed_parsed (I := I) (Z := Z) (ls := ls) h32 h [1, 2])
  have hPLn := prL_le (I := I) (Z := Z) h32
  generalize pI l = I1 at *
  generalize pZ l = Z1 at *
  generalize pR l = R1 at *
  generalize pN l = N1 at *
  generalize parseE l = E1 at *
  generalize hPL : prL I Z ls = PL at *
  generalize hE : printE I Z ls.length = E at *
  generalize R1.length = M1 at *
  clear h32 hn hcl hb hm hPL hE hpl hrl
  go_enter Try.func3, Try.ntmps3
  go_upto_region 1 with (fail)
  generalize hwA : World.alloc w _ = wA
  have pA : Blk wA w.heap.size [.int .i64 I, .int .i64 Z, .slice a n c] 24 := by rw [← hwA]; exact Blk.mk_alloc rfl rfl
  have eA : Ext w wA := by rw [← hwA]; exact (Ext.refl w).alloc _
  clear hwA
  have PA := hid pA
  have EA := hid eA
  clear pA eA
  go_wp2_with (first | (refine wpl_loadw rfl 24 _ rfl rfl PA.out agg_proof rfl ?_))
  refine (hp1.out wA (HA.out.ext EA.out)).mono ?_
  intro e wB hpost
  obtain ⟨x1, k1, rfl, hc1, e1, ho1⟩ := HPT.out _ _ _ hpost
  have PB := hid (PA.out.ext e1)
  have EB := hid (EA.out.ext e1)
  have C1 := hid hc1
  have O1 := hid ho1
  have hAB : w.heap.size < wA.heap.size := PA.out.lt
  have hAB2 : wA.heap.size ≤ wB.heap.size := e1.size
  clear hpost hc1 e1 ho1 PA EA
  go_wp2_with (first | (refine wpl_loadw rfl 24 _ rfl rfl PB.out agg_proof rfl ?_))
  refine (hp2.out wB (HA.out.ext EB.out)).mono ?_
  intro e wC hpost
  obtain ⟨x2, k2, rfl, hc2, e2, -⟩ := HPT.out _ _ _ hpost
  have PC := hid (PB.out.ext e2)
  have EC := hid (EB.out.ext e2)
  have C2 := hid hc2
  have C1' := hid (C1.out.ext e2)
  have O1' := hid (fun h => ownsRow_ext (O1.out h) e2)
  have hBC : wA.heap.size ≤ wC.heap.size := Nat.le_trans hAB2 e2.size
  clear hpost hc2 e2 PB EB C1 O1
  have q1 : (E != E) = false := by simp
  go_wp2_with fail
  refine (equal8_c PL PL x1 x2 _ _ k1 k2 wC rfl rfl (by omega) C1'.out C2.out).mono ?_
  rintro e wD ⟨rfl, e3⟩
  have PD := hid (PC.out.ext e3)
  have ED := hid (EC.out.ext e3)
  have O1D := hid (fun h => ownsRow_ext (O1'.out h) e3)
  have hBD : wA.heap.size ≤ wD.heap.size := Nat.le_trans hBC e3.size
  have q2 : (PL == PL) = true := by simp
  clear e3 PC EC O1' C1' C2 hp1 hp2 hBC HPT
  by_cases hE : E = 0
  · obtain ⟨f1, f2, f3, f4, f5, f6⟩ := HPP.out hE
    have own := O1D.out hE
    subst hE
    have hlen3 : (PL ++ [1, 2]).length = PL.length + 2 := by simp
    have HPD3 := hid (fun w' e w'' (h : parsePost (PL ++ [1, 2]) w' e w'') => parsed h)
    rw [f1, f2, f3, f4, f5, HN.out] at HPD3
    have HQ3 := hid (fun a c w' h1 h2 => parseProof_c (PL ++ [1, 2]) a (PL.length + 2) c w' hlen3 (by omega) h1 h2)
    have OWN := hid own
    have HSP := hid (fun w' a b c d h1 h2 => sameProof_c I Z ls a b n c d w' HN.out (by have := HN.out; omega) H32.out h1 h2)
    clear f1 f2 f3 f4 f5 f6 own O1D HPP hlen3
    go_wp2_with (first | (at_builtin; refine wpl_append8 rfl _ _ rfl wA.heap.size (ys := [1, 2]) rfl rfl (ownsRow_ext OWN.out ((Ext.refl wD).alloc _)) rfl (by intro h; cases h) (Cells.of_blk0 (Blk.mk_alloc rfl rfl)) (by omega) (Nat.le_trans hBD ((Ext.refl wD).alloc _).size) ?_))
    intro v4 w4 own4 g4
    have own4' : w4.ownsRow wA.heap.size 5 1 v4 (PL.length + 2) ((PL ++ [1, 2]).map u8v) := by rw [List.map_append]; exact own4
    have hv4 := own_block_ge OWN.out
    have E4 := hid (Ext.grown (ED.out.ext ((Ext.refl wD).alloc (.cells #[.int .u8 1, .int .u8 2] 5))) g4 (by intro q hq; have := hv4 _ hq; omega))
    have P4 := hid (Blk.grown (PD.out.ext ((Ext.refl wD).alloc (.cells #[.int .u8 1, .int .u8 2] 5))) g4 (by intro h; have := hv4 _ h.symm; omega))
    obtain ⟨x4, k4, rfl, hk4, -, -, hc4⟩ := own_slice own4'
    have C4 := hid hc4
    clear own4 own4' g4 hv4 OWN PD ED hc4 hBD
    go_wp2_with fail
    refine (HQ3.out x4 k4 w4 hk4 C4.out).mono ?_
    intro e w5 hpost
    obtain ⟨x5, k5, rfl, hc5, e5⟩ := HPD3.out _ _ _ hpost
    have P5 := hid (P4.out.ext e5)
    have E5 := hid (E4.out.ext e5)
    have C5 := hid hc5
    have h5 : w.heap.size < w5.heap.size := P5.out.lt
    clear hpost hc5 e5 P4 E4 C4 HQ3 HPD3
    go_wp2_with (first | (refine wpl_storew rfl _ _ _ rfl rfl rfl (Blk.mk_alloc (vs := [.int .i64 0, .int .i64 0, .slice none 0 0]) rfl rfl) agg_proof rfl (xs := [.int .i64 I, .int .i64 Z, .slice x5 n k5]) rfl (by simp [Value.oneCell']) ?_))
    intro w6 b6 u6
    have e6 : Ext w5 w6 := u6.ext ((Ext.refl w5).alloc _) (Nat.le_refl _)
    have P6 := hid (P5.out.ext e6)
    have E6 := hid (E5.out.ext e6)
    have C6 := hid (C5.out.ext e6)
    have B6 := hid b6
    clear u6 e6 P5 E5 C5 b6
    go_wp2_with (first | (refine wpl_loadw_g rfl 24 _ rfl rfl P6.out agg_proof rfl ?_) | (refine wpl_loadw_g rfl 24 _ rfl rfl B6.out agg_proof rfl ?_))
    refine (HSP.out w6 a x5 c k5 (HA.out.ext E6.out) C6.out).mono ?_
    rintro e wE ⟨rfl, e7⟩
    have EE := hid (E6.out.ext e7)
    clear e7 P6 E6 C6 B6 HSP h5
    go_wp2_with fail
    refine (hq1.out wE (HB.out.ext EE.out)).mono ?_
    intro e wF hpost
    obtain ⟨xF, kF, rfl, hcF, eF⟩ := HPD.out _ _ _ hpost
    have EF := hid (EE.out.ext eF)
    have CF := hid hcF
    clear hpost hcF eF EE
    go_wp2_with (first | (refine wpl_storew rfl _ _ _ rfl rfl rfl (Blk.mk_alloc (vs := [.int .i64 0, .int .i64 0, .slice none 0 0]) rfl rfl) agg_proof rfl (xs := [.int .i64 I1, .int .i64 Z1, .slice xF M1 kF]) rfl (by simp [Value.oneCell']) ?_))
    intro wG bG uG
    have eG : Ext wF wG := uG.ext ((Ext.refl wF).alloc _) (Nat.le_refl _)
    have EG := hid (EF.out.ext eG)
    have CG := hid (CF.out.ext eG)
    have BG := hid bG
    clear uG eG EF CF bG
    generalize wF.heap.size = gF at *
    go_wp2_with fail
    refine (hq2.out wG (HB.out.ext EG.out)).mono ?_
    intro e wH hpost
    obtain ⟨xH, kH, rfl, hcH, eH⟩ := HPD.out _ _ _ hpost
    have EH := hid (EG.out.ext eH)
    have CH := hid (CG.out.ext eH)
    have BH := hid (BG.out.ext eH)
    have DH := hid hcH
    have hlt : gF < wH.heap.size := BH.out.lt
    clear hpost hcH eH EG CG BG
    go_wp2_with (first | (refine wpl_storew rfl _ _ _ rfl rfl rfl (Blk.mk_alloc (vs := [.int .i64 0, .int .i64 0, .slice none 0 0]) rfl rfl) agg_proof rfl (xs := [.int .i64 I1, .int .i64 Z1, .slice xH M1 kH]) rfl (by simp [Value.oneCell']) ?_))
    intro wI bI uI
    have eI : Ext wH wI := uI.ext ((Ext.refl wH).alloc _) (Nat.le_refl _)
    have EI := hid (EH.out.ext eI)
    have CI := hid (CH.out.ext eI)
    have BI := hid (BH.out.ext eI)
    have DI := hid (DH.out.ext eI)
    have AI := hid bI
    clear uI eI EH CH BH DH bI
    generalize wH.heap.size = gH at *
    have r1 : (E1 == E1) = true := by simp
    have r2 : (N1 == N1) = true := by simp
    go_wp2_with (first | (refine wpl_loadw_g rfl 24 _ rfl rfl BI.out agg_proof rfl ?_) | (refine wpl_loadw_g rfl 24 _ rfl rfl AI.out agg_proof rfl ?_))
    refine (HPL.out wI xF xH kF kH CI.out DI.out).mono ?_
    rintro e wJ ⟨rfl, eJ⟩
    go_wp2
    go_ret
    exact ⟨rfl, EI.out.ext eJ⟩
  · have EE := hid ED.out
    have q3 : (E == 0) = false := by simp [hE]
    clear ED O1D HPP PD hBD
    generalize wD = wE at *
    go_wp2_with fail
    refine (hq1.out wE (HB.out.ext EE.out)).mono ?_
    intro e wF hpost
    obtain ⟨xF, kF, rfl, hcF, eF⟩ := HPD.out _ _ _ hpost
    have EF := hid (EE.out.ext eF)
    have CF := hid hcF
    clear hpost hcF eF EE
    go_wp2_with (first | (refine wpl_storew rfl _ _ _ rfl rfl rfl (Blk.mk_alloc (vs := [.int .i64 0, .int .i64 0, .slice none 0 0]) rfl rfl) agg_proof rfl (xs := [.int .i64 I1, .int .i64 Z1, .slice xF M1 kF]) rfl (by simp [Value.oneCell']) ?_))
    intro wG bG uG
    have eG : Ext wF wG := uG.ext ((Ext.refl wF).alloc _) (Nat.le_refl _)
    have EG := hid (EF.out.ext eG)
    have CG := hid (CF.out.ext eG)
    have BG := hid bG
    clear uG eG EF CF bG
    generalize wF.heap.size = gF at *
    go_wp2_with fail
    refine (hq2.out wG (HB.out.ext EG.out)).mono ?_
    intro e wH hpost
    obtain ⟨xH, kH, rfl, hcH, eH⟩ := HPD.out _ _ _ hpost
    have EH := hid (EG.out.ext eH)
    have CH := hid (CG.out.ext eH)
    have BH := hid (BG.out.ext eH)
    have DH := hid hcH
    have hlt : gF < wH.heap.size := BH.out.lt
    clear hpost hcH eH EG CG BG
    go_wp2_with (first | (refine wpl_storew rfl _ _ _ rfl rfl rfl (Blk.mk_alloc (vs := [.int .i64 0, .int .i64 0, .slice none 0 0]) rfl rfl) agg_proof rfl (xs := [.int .i64 I1, .int .i64 Z1, .slice xH M1 kH]) rfl (by simp [Value.oneCell']) ?_))
    intro wI bI uI
    have eI : Ext wH wI := uI.ext ((Ext.refl wH).alloc _) (Nat.le_refl _)
    have EI := hid (EH.out.ext eI)
    have CI := hid (CH.out.ext eI)
    have BI := hid (BH.out.ext eI)
    have DI := hid (DH.out.ext eI)
    have AI := hid bI
    clear uI eI EH CH BH DH bI
    generalize wH.heap.size = gH at *
    have r1 : (E1 == E1) = true := by simp
    have r2 : (N1 == N1) = true := by simp
    go_wp2_with (first | (refine wpl_loadw_g rfl 24 _ rfl rfl BI.out agg_proof rfl ?_) | (refine wpl_loadw_g rfl 24 _ rfl rfl AI.out agg_proof rfl ?_))
    refine (HPL.out wI xF xH kF kH CI.out DI.out).mono ?_
    rintro e wJ ⟨rfl, eJ⟩
    go_wp2
    go_ret
    exact ⟨rfl, EI.out.ext eJ⟩
end

section
open Go Go.RowKit

def bitL (k : List UInt8) (i : Nat) : Nat := (k[i / 8]?.getD 0).toNat / 2 ^ (7 - i % 8) % 2
theorem bitL_lt (k : List UInt8) (i : Nat) : bitL k i < 2 := Nat.mod_lt _ (by omega)
def cntL (m : List UInt8) : Nat → Nat
  | 0 => 0
  | i + 1 => cntL m i + bitL m i
def depL (m : List UInt8) : Nat → Nat
  | 0 => 0
  | i + 1 => if bitL m i = 1 then i + 1 else depL m i
theorem cntL_le (m : List UInt8) (i : Nat) : cntL m i ≤ i := by
  induction i with
  | zero => exact Nat.le_refl _
  | succ i ih => have := bitL_lt m i; simp only [cntL]; omega
theorem depL_le (m : List UInt8) (i : Nat) : depL m i ≤ i := by
  induction i with
  | zero => exact Nat.le_refl _
  | succ i ih => simp only [depL]; split <;> omega
def topB (c : Nat) : Nat := if c % 2 = 1 then 8 else if c / 2 % 2 = 1 then 7 else if c / 4 % 2 = 1 then 6 else if c / 8 % 2 = 1 then 5 else if c / 16 % 2 = 1 then 4 else if c / 32 % 2 = 1 then 3 else if c / 64 % 2 = 1 then 2 else if c / 128 % 2 = 1 then 1 else 0
theorem ones_sum : ∀ c : Fin 256, Lib.onesCount c.val = c.val / 128 % 2 + c.val / 64 % 2 + c.val / 32 % 2 + c.val / 16 % 2 + c.val / 8 % 2 + c.val / 4 % 2 + c.val / 2 % 2 + c.val % 2 := by decide +kernel
theorem top_tz : ∀ c : Fin 256, (c.val = 0 ∧ topB c.val = 0) ∨ (c.val ≠ 0 ∧ 1 ≤ topB c.val ∧ topB c.val + Lib.trailingZeros8 c.val = 8) := by decide +kernel
theorem bitL_8 (m : List UInt8) (i j : Nat) (h : j < 8) : bitL m (8 * i + j) = (m[i]?.getD 0).toNat / 2 ^ (7 - j) % 2 := by
  unfold bitL
  rw [show (8 * i + j) / 8 = i by omega, show (8 * i + j) % 8 = j by omega]
theorem cnt_8 (m : List UInt8) (i : Nat) : cntL m (8 * (i + 1)) = cntL m (8 * i) + Lib.onesCount (m[i]?.getD 0).toNat := by
  rw [show 8 * (i + 1) = 8 * i + 7 + 1 by omega]
  have e7 : cntL m (8 * i + 7 + 1) = cntL m (8 * i + 6 + 1) + bitL m (8 * i + 7) := rfl
  have e6 : cntL m (8 * i + 6 + 1) = cntL m (8 * i + 5 + 1) + bitL m (8 * i + 6) := rfl
  have e5 : cntL m (8 * i + 5 + 1) = cntL m (8 * i + 4 + 1) + bitL m (8 * i + 5) := rfl
  have e4 : cntL m (8 * i + 4 + 1) = cntL m (8 * i + 3 + 1) + bitL m (8 * i + 4) := rfl
  have e3 : cntL m (8 * i + 3 + 1) = cntL m (8 * i + 2 + 1) + bitL m (8 * i + 3) := rfl
  have e2 : cntL m (8 * i + 2 + 1) = cntL m (8 * i + 1 + 1) + bitL m (8 * i + 2) := rfl
  have e1 : cntL m (8 * i + 1 + 1) = cntL m (8 * i + 0 + 1) + bitL m (8 * i + 1) := rfl
  have e0 : cntL m (8 * i + 0 + 1) = cntL m (8 * i) + bitL m (8 * i + 0) := rfl
  rw [e7, e6, e5, e4, e3, e2, e1, e0]
  rw [ones_sum ⟨(m[i]?.getD 0).toNat, (m[i]?.getD 0).toNat_lt⟩]
  have h0 := bitL_8 m i 0 (by omega)
  have h1 := bitL_8 m i 1 (by omega)
  have h2 := bitL_8 m i 2 (by omega)
  have h3 := bitL_8 m i 3 (by omega)
  have h4 := bitL_8 m i 4 (by omega)
  have h5 := bitL_8 m i 5 (by omega)
  have h6 := bitL_8 m i 6 (by omega)
  have h7 := bitL_8 m i 7 (by omega)
  rw [h0, h1, h2, h3, h4, h5, h6, h7]
  simp only [Nat.reduceSub, Nat.reducePow, Nat.div_one]
  omega
theorem dep_8 (m : List UInt8) (i : Nat) : depL m (8 * (i + 1)) = if (m[i]?.getD 0).toNat = 0 then depL m (8 * i) else 8 * i + 8 - Lib.trailingZeros8 (m[i]?.getD 0).toNat := by
  have ht := top_tz ⟨(m[i]?.getD 0).toNat, (m[i]?.getD 0).toNat_lt⟩
  have h0 := bitL_8 m i 0 (by omega)
  have h1 := bitL_8 m i 1 (by omega)
  have h2 := bitL_8 m i 2 (by omega)
  have h3 := bitL_8 m i 3 (by omega)
  have h4 := bitL_8 m i 4 (by omega)
  have h5 := bitL_8 m i 5 (by omega)
  have h6 := bitL_8 m i 6 (by omega)
  have h7 := bitL_8 m i 7 (by omega)
  have hd : depL m (8 * (i + 1)) = if topB (m[i]?.getD 0).toNat = 0 then depL m (8 * i) else 8 * i + topB (m[i]?.getD 0).toNat := by
    rw [show 8 * (i + 1) = 8 * i + 7 + 1 by omega]
    simp only [Nat.add_zero, Nat.reduceSub, Nat.reducePow, Nat.div_one] at h0 h1 h2 h3 h4 h5 h6 h7
    have e7 : depL m (8 * i + 7 + 1) = if bitL m (8 * i + 7) = 1 then 8 * i + 7 + 1 else depL m (8 * i + 6 + 1) := rfl
    have e6 : depL m (8 * i + 6 + 1) = if bitL m (8 * i + 6) = 1 then 8 * i + 6 + 1 else depL m (8 * i + 5 + 1) := rfl
    have e5 : depL m (8 * i + 5 + 1) = if bitL m (8 * i + 5) = 1 then 8 * i + 5 + 1 else depL m (8 * i + 4 + 1) := rfl
    have e4 : depL m (8 * i + 4 + 1) = if bitL m (8 * i + 4) = 1 then 8 * i + 4 + 1 else depL m (8 * i + 3 + 1) := rfl
    have e3 : depL m (8 * i + 3 + 1) = if bitL m (8 * i + 3) = 1 then 8 * i + 3 + 1 else depL m (8 * i + 2 + 1) := rfl
    have e2 : depL m (8 * i + 2 + 1) = if bitL m (8 * i + 2) = 1 then 8 * i + 2 + 1 else depL m (8 * i + 1 + 1) := rfl
    have e1 : depL m (8 * i + 1 + 1) = if bitL m (8 * i + 1) = 1 then 8 * i + 1 + 1 else depL m (8 * i + 1) := rfl
    have e0 : depL m (8 * i + 1) = if bitL m (8 * i) = 1 then 8 * i + 1 else depL m (8 * i) := rfl
    rw [e7, e6, e5, e4, e3, e2, e1, e0, h0, h1, h2, h3, h4, h5, h6, h7]
    generalize (m[i]?.getD 0).toNat = c
    unfold topB
    by_cases b0 : c % 2 = 1
    · simp only [if_pos b0]; rfl
    by_cases b1 : c / 2 % 2 = 1
    · simp only [if_neg b0, if_pos b1]; rfl
    by_cases b2 : c / 4 % 2 = 1
    · simp only [if_neg b0, if_neg b1, if_pos b2]; rfl
    by_cases b3 : c / 8 % 2 = 1
    · simp only [if_neg b0, if_neg b1, if_neg b2, if_pos b3]; rfl
    by_cases b4 : c / 16 % 2 = 1
    · simp only [if_neg b0, if_neg b1, if_neg b2, if_neg b3, if_pos b4]; rfl
    by_cases b5 : c / 32 % 2 = 1
    · simp only [if_neg b0, if_neg b1, if_neg b2, if_neg b3, if_neg b4, if_pos b5]; rfl
    by_cases b6 : c / 64 % 2 = 1
    · simp only [if_neg b0, if_neg b1, if_neg b2, if_neg b3, if_neg b4, if_neg b5, if_pos b6]; rfl
    by_cases b7 : c / 128 % 2 = 1
    · simp only [if_neg b0, if_neg b1, if_neg b2, if_neg b3, if_neg b4, if_neg b5, if_neg b6, if_pos b7]; rfl
    simp only [if_neg b0, if_neg b1, if_neg b2, if_neg b3, if_neg b4, if_neg b5, if_neg b6, if_neg b7]; rfl
  rw [hd]
  simp only at ht
  rcases ht with ⟨a, b⟩ | ⟨a, b, c⟩
  · rw [if_pos b, if_pos a]
  · rw [if_neg (by omega), if_neg a]; omega
end

section
open Go Go.RowKit

theorem and_one (x : UInt8) (k : Nat) : bits .and .i64 (wrap64 ((x.toNat : Int) / 2 ^ k)) 1 = ((x.toNat / 2 ^ k % 2 : Nat) : Int) := by
  have hx := x.toNat_lt
  have hq : ((x.toNat : Int) / 2 ^ k) = ((x.toNat / 2 ^ k : Nat) : Int) := by simp
  have hle : x.toNat / 2 ^ k ≤ x.toNat := Nat.div_le_self _ _
  rw [hq]
  generalize x.toNat / 2 ^ k = q at *
  have hw : wrap64 (q : Int) = q := by first | exact IntWalk.i64_in _ (by omega) | (unfold wrap64; omega)
  rw [hw]
  have ea : (BitVec.ofInt 64 (q : Int)).toNat = q := by rw [BitVec.toNat_ofInt]; omega
  have eb : (BitVec.ofInt 64 (1 : Int)).toNat = 1 := by decide
  change IntKind.i64.wrap ((BitVec.ofInt 64 (q : Int) &&& BitVec.ofInt 64 (1 : Int)).toNat : Int) = _
  rw [BitVec.toNat_and, ea, eb, Nat.and_one_is_mod, IntWalk.i64_in _ (by omega)]
theorem and_one8 (x : UInt8) (k : Nat)   : wrap64 (bits .and .u8 ((x.toNat : Int) / 2 ^ k) 1) = ((x.toNat / 2 ^ k % 2 : Nat) : Int) := by
  have hx := x.toNat_lt
  have hq : ((x.toNat : Int) / 2 ^ k) = ((x.toNat / 2 ^ k : Nat) : Int) := by simp
  have hle : x.toNat / 2 ^ k ≤ x.toNat := Nat.div_le_self _ _
  rw [hq]
  generalize x.toNat / 2 ^ k = q at *
  have h : bits .and .u8 (q : Int) ((1 : Nat) : Int) = ((q &&& 1 : Nat) : Int) := u8_and_nat q 1 (by omega) (by omega)
  have h1 : bits .and .u8 (q : Int) 1 = ((q % 2 : Nat) : Int) := by rw [← Nat.and_one_is_mod]; exact h
  rw [h1]
  first | exact IntWalk.i64_in _ (by omega) | (unfold wrap64; omega)

set_option maxRecDepth 100000 in
set_option maxHeartbeats 1000000 in
theorem bit_c (k : List UInt8) (i : Nat) (w : World) (hk : k.length = 32) (hi : i < 256) :
    Calls Try.prog 78 #[.agg (k.map u8v).toArray, .int .i64 (i : Int)] w fun e w' => e = .returned (.int .i64 ((bitL k i : Nat) : Int)) ∧ Ext w w' := by
  obtain ⟨x, hx⟩ : ∃ x, k[i / 8]? = some x := ⟨k[i / 8]'(by omega), by simp⟩
  have hb : bitL k i = x.toNat / 2 ^ (7 - i % 8) % 2 := by unfold bitL; rw [hx]; rfl
  rw [hb]
  have hgx : (k.map u8v)[i / 8]? = some (.int .u8 (x.toNat : Int)) := by rw [List.getElem?_map, hx]; rfl
  have HGX := hid hgx
  have hx256 := x.toNat_lt
  have HK := hid hk
  clear hgx hx hb hk
  go_enter Try.func78, Try.ntmps78
  go_upto_region 1 with (fail)
  generalize hwA : World.alloc w _ = wA
  have pA : Blk wA w.heap.size (k.map u8v) 36 := by rw [← hwA]; exact Blk.mk_alloc rfl rfl
  have eA : Ext w wA := by rw [← hwA]; exact (Ext.refl w).alloc _
  have c0 : wA.cell? ⟨w.heap.size, i / 8, none⟩ = some (.int .u8 (x.toNat : Int)) := pA.cell' HGX.out
  clear hwA pA
  go_wp2
  go_ret
  exact ⟨congrArg Ending.returned (congrArg (Value.int .i64) (and_one x _)), eA⟩

set_option maxRecDepth 100000 in
set_option maxHeartbeats 1000000 in
theorem rbit_c (k : List UInt8) (i : Nat) (w : World) (hk : k.length = 32) (hi : i < 256) :
    Calls Try.prog 79 #[.agg (k.map u8v).toArray, .int .i64 (i : Int)] w fun e w' => e = .returned (.int .i64 ((bitL k i : Nat) : Int)) ∧ Ext w w' := by
  obtain ⟨x, hx⟩ : ∃ x, k[i / 8]? = some x := ⟨k[i / 8]'(by omega), by simp⟩
  have hb : bitL k i = x.toNat / 2 ^ (7 - i % 8) % 2 := by unfold bitL; rw [hx]; rfl
  rw [hb]
  have hgx : (k.map u8v)[i / 8]? = some (.int .u8 (x.toNat : Int)) := by rw [List.getElem?_map, hx]; rfl
  have HGX := hid hgx
  have hx256 := x.toNat_lt
  have HK := hid hk
  clear hgx hx hb hk
  go_enter Try.func79, Try.ntmps79
  go_upto_region 1 with (fail)
  generalize hwA : World.alloc w _ = wA
  have pA : Blk wA w.heap.size (k.map u8v) 36 := by rw [← hwA]; exact Blk.mk_alloc rfl rfl
  have eA : Ext w wA := by rw [← hwA]; exact (Ext.refl w).alloc _
  have c0 : wA.cell? ⟨w.heap.size, i / 8, none⟩ = some (.int .u8 (x.toNat : Int)) := pA.cell' HGX.out
  clear hwA pA
  go_wp2
  go_ret
  exact ⟨congrArg Ending.returned (congrArg (Value.int .i64) (and_one8 x _)), eA⟩
end

section
open Go Go.RowKit

theorem agg_lev : AggT Try.prog 35 32 := ⟨⟨_, Try.underlying35, rfl⟩, by kernel_rfl⟩
theorem agg_mproof : AggT Try.prog 50 33 := ⟨⟨_, Try.underlying50, rfl⟩, by kernel_rfl⟩
/-- the value of a proof of a map -/
def mpL (m : List UInt8) (s : Value) : List Value := m.map u8v ++ [s]
theorem mpL_length {m : List UInt8} (h : m.length = 32) (s : Value) : (mpL m s).length = 33 := by simp [mpL, h]
theorem mpL_lev {m : List UInt8} (h : m.length = 32) (s : Value) : ((mpL m s).drop 0).take 32 = m.map u8v := by
  unfold mpL
  rw [List.drop_zero, List.take_append_of_le_length (by simp [h]), List.take_of_length_le (by simp [h])]
theorem mpL_at {m : List UInt8} (h : m.length = 32) (s : Value) : (mpL m s)[32]? = some s := by
  unfold mpL
  rw [List.getElem?_append_right (by simp [h])]
  simp [h]

set_option maxRecDepth 100000 in
set_option maxHeartbeats 1000000 in
theorem marked_c (m : List UInt8) (w : World) (hm : m.length = 32) :
    Calls Try.prog 57 #[.agg (m.map u8v).toArray] w fun e w' => e = .returned (.tuple #[.int .i64 ((cntL m 256 : Nat) : Int), .int .i64 ((depL m 256 : Nat) : Int)]) ∧ Ext w w' := by
  have HM := hid hm
  have HMV : Hid ((m.map u8v).length = 32) := hid (by rw [List.length_map, hm])
  go_enter Try.func57, Try.ntmps57
  go_upto_region 1 with (fail)
  generalize hwA : World.alloc w _ = wA
  have pA : Blk wA w.heap.size (m.map u8v) 35 := by rw [← hwA]; exact Blk.mk_alloc rfl rfl
  have eA : Ext w wA := by rw [← hwA]; exact (Ext.refl w).alloc _
  clear hwA
  have PA := hid pA
  have EA := hid eA
  clear pA eA hm
  go_wp2_with (first | (refine wpl_loadw rfl 35 _ rfl rfl PA.out agg_lev HMV.out ?_))
  go_loopw [2, 3, 7] (fun x y z wr => ∃ i : Nat, i ≤ 32 ∧ z = .int .i64 (i : Int) ∧ x = .int .i64 ((cntL m (8 * i) : Nat) : Int) ∧ y = .int .i64 ((depL m (8 * i) : Nat) : Int) ∧ wr = wA) (fun _ _ z _ => 32 - (intOf z).toNat)
  case atStart => exact ⟨0, by omega, rfl, rfl, rfl, by first | trivial | rfl⟩
  case round =>
    obtain ⟨i, hi, rfl, rfl, rfl, rfl⟩ := hrel
    by_cases hlt : i < 32
    · have hc := cnt_8 m i
      have hd := dep_8 m i
      obtain ⟨x, hx⟩ : ∃ x, m[i]? = some x := ⟨m[i]'(by rw [HM.out]; exact hlt), by simp⟩
      rw [hx] at hc hd
      simp only [Option.getD_some] at hc hd
      have hgx : (m.map u8v)[i]? = some (.int .u8 (x.toNat : Int)) := by rw [List.getElem?_map, hx]; rfl
      have hx256 := x.toNat_lt
      have hones := hid (fun w' => onesCount8_c (x.toNat : Int) w' (by omega) (by omega))
      have htz := hid (fun w' => trailingZeros8_c (x.toNat : Int) w' (by omega) (by omega))
      rw [Int.toNat_natCast] at hones htz
      have ho8 := Lib.onesCount_le8 ⟨x.toNat, hx256⟩
      have ht8 := Lib.trailingZeros8_le8 ⟨x.toNat, hx256⟩
      simp only at ho8 ht8
      have hcl := cntL_le m (8 * i)
      have hdl := depL_le m (8 * i)
      generalize Lib.onesCount x.toNat = o at *
      generalize Lib.trailingZeros8 x.toNat = z at *
      generalize hcc : cntL m (8 * i) = c at *
      generalize hdd : depL m (8 * i) = d at *
      have HC := hid hc
      have HD := hid hd
      have hri : (Instr.index 35 (.agg (m.map u8v).toArray) (.int .i64 (i : Int))).run Try.prog wr = .ok (.int .u8 (x.toNat : Int)) wr := run_index_arr Try.underlying35 one_u8T i hlt (by rw [List.getElem?_toArray]; exact hgx) wr
      have hlt2 : decide ((i : Int) < 32) = true := decide_eq_true (by omega)
      clear hc hd hcc hdd
      by_cases h0 : x.toNat = 0
      · have g1 : ((x.toNat : Int) != 0) = false := by rw [h0]; rfl
        have g2 : (x.toNat != 0) = false := by rw [h0]; rfl
        have hd : depL m (8 * (i + 1)) = d := by rw [HD.out, if_pos h0]
        have HD' := hid hd
        clear hd h0
        go_wp2_with (first | (go_at_call 76; refine (hones.out _).mono ?_; rintro e w' ⟨rfl, rfl⟩))
        go_roundw
        case rel => exact ⟨i + 1, by omega, by first | rfl | go_num, by rw [HC.out]; first | rfl | go_num, by rw [HD'.out], by first | trivial | rfl⟩
        case measure => simp [intOf]; omega
      · have g1 : ((x.toNat : Int) != 0) = true := by simp [h0]
        have g2 : (x.toNat != 0) = true := by simp [h0]
        have hd : depL m (8 * (i + 1)) = 8 * i + 8 - z := by rw [HD.out, if_neg h0]
        have HD' := hid hd
        clear hd
        go_wp2_with (first | (go_at_call 76; refine (hones.out _).mono ?_; rintro e w' ⟨rfl, rfl⟩) | (go_at_call 77; refine (htz.out _).mono ?_; rintro e w' ⟨rfl, rfl⟩))
        go_roundw
        case rel => exact ⟨i + 1, by omega, by first | rfl | go_num, by rw [HC.out]; first | rfl | go_num, by rw [HD'.out]; congr 1; omega, by first | trivial | rfl⟩
        case measure => simp [intOf]; omega
    · obtain rfl : i = 32 := by omega
      go_wp2
      go_ret2
      exact ⟨rfl, EA.out⟩

set_option maxRecDepth 100000 in
set_option maxHeartbeats 1000000 in
theorem depth_c (m : List UInt8) (s : Value) (w : World) (hm : m.length = 32) :
    Calls Try.prog 60 #[.agg (mpL m s).toArray] w fun e w' => e = .returned (.tuple #[.int .i64 ((depL m 256 : Nat) : Int), .int .i64 ((cntL m 256 : Nat) : Int)]) ∧ Ext w w' := by
  have HM := hid hm
  have HL33 := hid (mpL_length hm s)
  have HLE : Hid (0 + 32 ≤ (mpL m s).length) := hid (by rw [mpL_length hm s]; omega)
  have HLV := hid (mpL_lev hm s)
  have hbit := hid (fun i w' h => rbit_c m i w' hm h)
  go_enter Try.func60, Try.ntmps60
  go_upto_region 1 with (fail)
  generalize hwA : World.alloc w _ = wA
  have pA : Blk wA w.heap.size (mpL m s) 50 := by rw [← hwA]; exact Blk.mk_alloc rfl rfl
  have eA : Ext w wA := by rw [← hwA]; exact (Ext.refl w).alloc _
  clear hwA
  have PA := hid pA
  have EA := hid eA
  clear pA eA hm
  generalize mpL m s = vs at *
  go_wp2
  go_loopw [2, 3, 5] (fun x y z wr => ∃ i : Nat, i ≤ 256 ∧ z = .int .i64 (i : Int) ∧ x = .int .i64 ((depL m i : Nat) : Int) ∧ y = .int .i64 ((cntL m i : Nat) : Int) ∧ Ext wA wr) (fun _ _ z _ => 256 - (intOf z).toNat)
  case atStart => exact ⟨0, by omega, rfl, rfl, rfl, Ext.refl _⟩
  case round =>
    obtain ⟨i, hi, rfl, rfl, rfl, hE⟩ := hrel
    have EW := hid hE
    have PW := hid (PA.out.ext hE)
    clear hE
    by_cases hlt : i < 256
    · have hc : cntL m (i + 1) = cntL m i + bitL m i := rfl
      have hd : depL m (i + 1) = if bitL m i = 1 then i + 1 else depL m i := rfl
      have hb := hid (fun w' => hbit.out i w' hlt)
      have hcl := cntL_le m i
      have hdl := depL_le m i
      have hb2 := bitL_lt m i
      generalize hcc : cntL m i = c at *
      generalize hdd : depL m i = d at *
      generalize bitL m i = bb at *
      have HC := hid hc
      have HD := hid hd
      clear hc hd hcc hdd
      have hlt2 : decide ((i : Int) < 256) = true := decide_eq_true (by omega)
      by_cases h1 : bb = 1
      · have hd : depL m (i + 1) = i + 1 := by rw [HD.out, if_pos h1]
        have hc : cntL m (i + 1) = c + 1 := by rw [HC.out, h1]
        have HD' := hid hd
        have HC' := hid hc
        have g1 : ((bb : Int) == 1) = true := by rw [h1]; rfl
        have g2 : (bb == 1) = true := by rw [h1]; rfl
        clear hd hc h1
        go_wp2_with (first | (refine wpl_loadp rfl 35 _ rfl rfl PW.out agg_lev HLE.out HLV.out ?_) | (go_at_call 79; refine (hb.out _).mono ?_; rintro e w' ⟨rfl, e2⟩))
        go_roundw
        case rel => exact ⟨i + 1, by omega, by first | rfl | go_num, by rw [HD'.out]; first | rfl | go_num, by rw [HC'.out]; first | rfl | go_num, EW.out.ext e2⟩
        case measure => simp [intOf]; omega
      · have hd : depL m (i + 1) = d := by rw [HD.out, if_neg h1]
        have hc : cntL m (i + 1) = c := by rw [HC.out]; omega
        have HD' := hid hd
        have HC' := hid hc
        have g1 : ((bb : Int) == 1) = false := by simp; omega
        have g2 : (bb == 1) = false := by simp [h1]
        clear hd hc
        go_wp2_with (first | (refine wpl_loadp rfl 35 _ rfl rfl PW.out agg_lev HLE.out HLV.out ?_) | (go_at_call 79; refine (hb.out _).mono ?_; rintro e w' ⟨rfl, e2⟩))
        go_roundw
        case rel => exact ⟨i + 1, by omega, by first | rfl | go_num, by rw [HD'.out], by rw [HC'.out], EW.out.ext e2⟩
        case measure => simp [intOf]; omega
    · obtain rfl : i = 256 := by omega
      go_wp2
      go_ret2
      exact ⟨rfl, EA.out.ext EW.out⟩
end

section
open Go Go.RowKit

def mleafL (x y : List UInt8) : List UInt8 := sumL 4 (x ++ y)
theorem mleafL_length (x y : List UInt8) : (mleafL x y).length = 32 := sumL_length _ _

set_option maxRecDepth 100000 in
set_option maxHeartbeats 1000000 in
theorem single_c (x y : List UInt8) (w : World) (hx : x.length = 32) (hy : y.length = 32) :
    Calls Try.prog 59 #[.agg (x.map u8v).toArray, .agg (y.map u8v).toArray] w fun e w' => e = .returned (.agg ((mleafL x y).map u8v).toArray) ∧ Ext w w' := by
  have HX := hid hx
  have HY := hid hy
  have HSL : Hid (((mleafL x y).map u8v).length = 32) := hid (by rw [List.length_map, mleafL_length])
  have o1 := one_u8 (mleafL x y)
  have hcat : ∀ h1 h2, cat [(some ⟨h1, 0, none⟩, 32, x), (some ⟨h2, 0, none⟩, 32, y)] = x ++ y := by intro h1 h2; simp [cat]
  have hlen : (x ++ y).length = 64 := by rw [List.length_append, hx, hy]
  have hso : sumOfV 4 (x ++ y) 64 = .tuple #[.agg ((mleafL x y).map u8v).toArray, .int .i64 0] := by rw [sumOfV, if_neg (by omega), if_pos (by omega)]; rfl
  have HSO := hid hso
  have HLEN := hid hlen
  have HCAT := hid hcat
  clear hx hy hso hlen hcat
  generalize (mleafL x y).map u8v = nv at *
  go_enter Try.func59, Try.ntmps59
  go_wp2_with fail
  generalize hwA : World.alloc (World.alloc (World.alloc w _) _) _ = wA
  have xA : Blk wA w.heap.size (x.map u8v) 36 := by rw [← hwA]; exact ((Blk.mk_alloc rfl rfl).alloc _).alloc _
  have yA : Blk wA (w.heap.size + 1) (y.map u8v) 36 := by rw [← hwA]; exact (Blk.mk_alloc (by simp) rfl).alloc _
  have zA : Blk wA (w.heap.size + 2) (List.replicate 32 (.int .u8 0)) 36 := by rw [← hwA]; exact Blk.mk_alloc (by simp) rfl
  have eA : Ext w wA := by rw [← hwA]; exact ((((Ext.refl w).alloc _).alloc _).alloc _)
  clear hwA
  have XA := hid xA
  have YA := hid yA
  have ZA := hid zA
  have EA := hid eA
  clear xA yA zA eA
  obtain ⟨C, hC⟩ : ∃ C : World → Prop, C = fun w' => Ext wA w' := ⟨_, rfl⟩
  have hC0 : ∀ w', C w' ↔ Ext wA w' := fun w' => by rw [hC]
  clear hC
  have HCC := hid hC0
  clear hC0
  have hCx : ∀ w w', C w → Ext w w' → C w' := fun w w' h1 h2 => (HCC.out w').2 (((HCC.out w).1 h1).ext h2)
  refine wp_region_held_drew (S := C) (by kernel_rfl) ((HCC.out _).2 (Ext.refl wA).drew) (fun hS0 => ?_)
  refine held_take 0 (v := ?tv1) rfl (by kernel_rfl) (by kernel_rfl) (by kernel_rfl) (fun _ _ _ h => h) (.inl ⟨rfl, ?ty1⟩) hS0 ?tr1
  case ty1 => (intro _ _; go_simp; try with_reducible rfl)
  case tr1 =>
  simp only [Act.put, List.setIfInBounds_toArray, List.set_cons_succ, List.set_cons_zero]
  refine held_take 1 (v := ?tv2) rfl (by kernel_rfl) (by kernel_rfl) (by kernel_rfl) (fun _ _ _ h => h) (.inl ⟨rfl, ?ty2⟩) hS0 ?tr2
  case ty2 => (intro _ _; go_simp; try with_reducible rfl)
  case tr2 =>
  simp only [Act.put, List.setIfInBounds_toArray, List.set_cons_succ, List.set_cons_zero]
  refine Fl_start (B := World.heap wA |>.size) (A := 8) (d := 5) (T := 36) (vs := List.replicate 32 (.int .u8 0)) (D := C) undef rfl hCx (fun _ h => h) (fun _ h => ((HCC.out _).1 h).size) hS0 ?_
  try dsimp only
  simp only [Act.put, List.setIfInBounds_toArray, List.set_cons_succ, List.set_cons_zero]
  refine Fl_step 2 (β := Nat) (fun g => .slice (some ⟨g, 0, none⟩) 2 2) (fun g w' => Blk w' g [.slice (some ⟨w.heap.size, 0, none⟩) 32 32, .slice (some ⟨w.heap.size + 1, 0, none⟩) 32 32] 25) rfl rfl rfl rfl (fun _ _ => rfl) (by kernel_rfl) (by kernel_rfl) (by kernel_rfl) rfl (fun _ _ => by simp only [Act.put, List.setIfInBounds_toArray, List.set_cons_succ, List.set_cons_zero]) ?phi2 ?step2 ?rest2
  case phi2 => exact fun _ _ _ h he => h.ext he
  case step2 =>
    intro x w1 hD Q' hQ
    go_wp2_with fail
    exact hQ w1.heap.size _ ((Ext.refl w1).alloc _) (Blk.mk_alloc rfl rfl)
  case rest2 =>
  intro g
  try dsimp only
  try simp only [Act.put, List.setIfInBounds_toArray, List.set_cons_succ, List.set_cons_zero]
  refine Fl_step 3 (β := Option Addr × Nat) (fun b => .slice b.1 64 b.2) (SlcAt 64 ((x ++ y).map u8v)) rfl rfl rfl rfl (fun _ _ => rfl) (by kernel_rfl) (by kernel_rfl) (by kernel_rfl) rfl (fun _ _ => by simp only [Act.put, List.setIfInBounds_toArray, List.set_cons_succ, List.set_cons_zero]) ?phi3 ?step3 ?rest3
  case phi3 => exact SlcAt.ext
  case step3 =>
    rintro x0 w1 ⟨hC1, hb⟩ Q' hQ
    have e1 := (HCC.out w1).1 hC1
    have HB := hid hb
    have HE := hid e1
    clear hb e1 hC1
    go_wp2_with fail
    refine (concat_c [(some ⟨w.heap.size, 0, none⟩, 32, x), (some ⟨w.heap.size + 1, 0, none⟩, 32, y)] g 2 2 w1 rfl (by omega) (by omega) ?hg ?hc ?hn ?hl).mono ?_
    case hg =>
      intro i it hit
      match i, hit with
      | 0, hit => cases hit; rw [itemV]; simp only; rw [HX.out]; exact HB.out.cell' rfl
      | 1, hit => cases hit; rw [itemV]; simp only; rw [HY.out]; exact HB.out.cell' rfl
    case hc =>
      intro it hit
      simp only [List.mem_cons, List.not_mem_nil, or_false] at hit
      rcases hit with rfl | rfl
      · exact Cells.of_blk0 (XA.out.ext HE.out)
      · exact Cells.of_blk0 (YA.out.ext HE.out)
    case hn =>
      intro it hit
      simp only [List.mem_cons, List.not_mem_nil, or_false] at hit
      rcases hit with rfl | rfl <;> (intro h; cases h)
    case hl => rw [HCAT.out, HLEN.out]; omega
    rintro e w2 ⟨v, rfl, own, e2⟩
    rw [HCAT.out, HLEN.out] at own
    obtain ⟨a, c, rfl, h1, h2, h3, h4⟩ := own_slice own
    go_wp2_with fail
    exact hQ (a, c) w2 e2 ⟨h1, h2, h3, h4⟩
  case rest3 =>
  rintro ⟨a, c⟩
  try dsimp only
  try simp only [Act.put, List.setIfInBounds_toArray, List.set_cons_succ, List.set_cons_zero]
  refine Fl_step 4 (β := Unit) (fun _ => .tuple #[.agg nv.toArray, .int .i64 0]) (fun _ _ => True) rfl rfl rfl rfl (fun _ _ => rfl) (by kernel_rfl) (by kernel_rfl) (by kernel_rfl) rfl (fun _ _ => by simp only [Act.put, List.setIfInBounds_toArray, List.set_cons_succ, List.set_cons_zero]) ?phi4 ?step4 ?rest4
  case phi4 => exact fun _ _ _ _ _ => trivial
  case step4 =>
    rintro x0 w1 ⟨_, h1, h2, h3, h4⟩ Q' hQ
    simp only at h1 h2 h3 h4
    have HC := hid h4
    clear h4
    go_wp2_with fail
    refine (sumOf_c 4 (x ++ y) 64 c a w1 HLEN.out h1 h2 h3 HC.out).mono ?_
    rintro e w2 ⟨rfl, e2⟩
    rw [HSO.out]
    go_wp2_with fail
    exact hQ () w2 e2 trivial
  case rest4 =>
  rintro ⟨⟩
  try dsimp only
  try simp only [Act.put, List.setIfInBounds_toArray, List.set_cons_succ, List.set_cons_zero]
  refine Fl_take 5 (v := ?tv3) rfl (by kernel_rfl) (by kernel_rfl) (by kernel_rfl) (by kernel_rfl) (by kernel_rfl) rfl (fun _ _ _ h => h) (fun _ => .inl ⟨rfl, ?ty3⟩) ?tr3
  case ty3 => (intro _ _; go_simp; try with_reducible rfl)
  case tr3 =>
  try dsimp only
  simp only [Act.put, List.setIfInBounds_toArray, List.set_cons_succ, List.set_cons_zero]
  refine Fl_take 6 (v := ?tv4) rfl (by kernel_rfl) (by kernel_rfl) (by kernel_rfl) (by kernel_rfl) (by kernel_rfl) rfl (fun _ _ _ h => h) (fun _ => .inl ⟨rfl, ?ty4⟩) ?tr4
  case ty4 => (intro _ _; go_simp; try with_reducible rfl)
  case tr4 =>
  try dsimp only
  simp only [Act.put, List.setIfInBounds_toArray, List.set_cons_succ, List.set_cons_zero]
  refine Fl_take 7 (v := ?tv5) rfl (by kernel_rfl) (by kernel_rfl) (by kernel_rfl) (by kernel_rfl) (by kernel_rfl) rfl (fun _ _ _ h => h) (fun _ => .inl ⟨rfl, ?ty5⟩) ?tr5
  case ty5 => (intro _ _; go_simp; try with_reducible rfl)
  case tr5 =>
  try dsimp only
  simp only [Act.put, List.setIfInBounds_toArray, List.set_cons_succ, List.set_cons_zero]
  refine Fl_end rfl rfl rfl (fun _ _ => rfl) (by kernel_rfl) (fun _ _ => by simp only [Act.put, List.setIfInBounds_toArray, List.set_cons_succ, List.set_cons_zero]) ?_
  rintro b w3 ⟨⟨⟨hC3, _⟩, _⟩, _⟩ lb hb
  have HB := hid hb
  have E3 := hid (EA.out.ext ((HCC.out w3).1 hC3))
  have Z3 := hid (ZA.out.ext ((HCC.out w3).1 hC3))
  have HC3 := hid hC3
  clear hb hC3
  refine held_one (i := 9) (by kernel_rfl) rfl ?_
  intro Q' hQ
  go_wp2_with (refine wpl_storew rfl _ _ _ rfl rfl rfl HB.out agg_apisum (by simp) HSL.out o1 ?_)
  intro w4 b4 u4
  have hE4 := u4.ext ((HCC.out w3).1 HC3.out) lb
  refine hQ _ _ ((HCC.out w4).2 hE4) ?_
  have HC4 := hid ((HCC.out w4).2 hE4)
  have B4 := hid b4
  have Z4 := hid (ZA.out.ext hE4)
  have E4 := hid (EA.out.ext hE4)
  clear hQ Q' u4 b4 hE4
  try dsimp only
  try simp only [Act.put, List.setIfInBounds_toArray, List.set_cons_succ, List.set_cons_zero]
  refine held_one (i := 10) (by kernel_rfl) rfl ?_
  intro Q' hQ
  go_wp2_with fail
  refine hQ _ _ ((HCC.out w4).2 ?_) ?_
  · exact (HCC.out w4).1 HC4.out
  clear hQ Q'
  refine wpAnyH_done (by kernel_rfl) ?_ _
  go_wp2_with (first | (refine wpl_loadw rfl _ _ rfl rfl B4.out agg_apisum HSL.out ?_) | (refine wpl_storew rfl _ _ _ rfl rfl rfl Z4.out agg_apisum (by simp) HSL.out o1 ?_))
  intro w5 b5 u5
  go_wp2
  refine ret_row rfl rfl b5 agg_apisum HSL.out rfl ⟨rfl, u5.ext E4.out (by omega)⟩



set_option maxRecDepth 100000 in
set_option maxHeartbeats 1000000 in
theorem rleafOf_c (x y : List UInt8) (w : World) (hx : x.length = 32) (hy : y.length = 32) :
    Calls Try.prog 62 #[.agg (x.map u8v).toArray, .agg (y.map u8v).toArray] w fun e w' => e = .returned (.agg ((mleafL x y).map u8v).toArray) ∧ Ext w w' := by
  have HX := hid hx
  have HY := hid hy
  have HSL : Hid (((mleafL x y).map u8v).length = 32) := hid (by rw [List.length_map, mleafL_length])
  have o1 := one_u8 (mleafL x y)
  have hlen : (x ++ y).length = 64 := by rw [List.length_append, hx, hy]
  have hsum := fun w c a h => rsum_c 4 (x ++ y) 64 c a w (by omega) (by omega) hlen (by omega) h
  rw [show sumL 4 (x ++ y) = mleafL x y from rfl] at hsum
  have HSUM := hid hsum
  clear hx hy hlen hsum
  generalize (mleafL x y).map u8v = nv at *
  go_enter Try.func62, Try.ntmps62
  go_wp2_with fail
  generalize hwA : World.alloc (World.alloc (World.alloc w _) _) _ = wA
  have xA : Blk wA w.heap.size (x.map u8v) 36 := by rw [← hwA]; exact ((Blk.mk_alloc rfl rfl).alloc _).alloc _
  have yA : Blk wA (w.heap.size + 1) (y.map u8v) 36 := by rw [← hwA]; exact (Blk.mk_alloc (by simp) rfl).alloc _
  have zA : Blk wA (w.heap.size + 2) (List.replicate 32 (.int .u8 0)) 36 := by rw [← hwA]; exact Blk.mk_alloc (by simp) rfl
  have eA : Ext w wA := by rw [← hwA]; exact ((((Ext.refl w).alloc _).alloc _).alloc _)
  have hwl : w.heap.size ≤ wA.heap.size := eA.size
  clear hwA
  have XA := hid xA
  have YA := hid yA
  have ZA := hid zA
  have EA := hid eA
  clear xA yA zA eA
  obtain ⟨C, hC⟩ : ∃ C : World → Prop, C = Cls w wA [w.heap.size, w.heap.size + 1] [(w.heap.size + 2, 32, 36)] := ⟨_, rfl⟩
  have hC0 : ∀ w', C w' ↔ Cls w wA [w.heap.size, w.heap.size + 1] [(w.heap.size + 2, 32, 36)] w' := fun w' => by rw [hC]
  clear hC
  have HCC := hid hC0
  clear hC0
  have hCx : ∀ w w', C w → Ext w w' → C w' := fun w w' h1 h2 => (HCC.out w').2 (((HCC.out w).1 h1).ext h2)
  have hCA : C wA := (HCC.out _).2 (Cls.one_room EA.out (Kept.two XA.out.lt YA.out.lt) ZA.out (by simp))
  refine wp_region_held_drew (S := C) (by kernel_rfl) (hCx _ _ hCA (Ext.refl _).drew) (fun hS0 => ?_)
  refine held_take 0 (v := ?tv6) rfl (by kernel_rfl) (by kernel_rfl) (by kernel_rfl) (fun _ _ _ h => h) (.inl ⟨rfl, ?ty6⟩) hS0 ?tr6
  case ty6 => (intro _ _; go_simp; try with_reducible rfl)
  case tr6 =>
  simp only [Act.put, List.setIfInBounds_toArray, List.set_cons_succ, List.set_cons_zero]
  refine held_take 2 (v := ?tv7) rfl (by kernel_rfl) (by kernel_rfl) (by kernel_rfl) (fun _ _ _ h => h) (.inl ⟨rfl, ?ty7⟩) hS0 ?tr7
  case ty7 => (intro _ _; go_simp; try with_reducible rfl)
  case tr7 =>
  simp only [Act.put, List.setIfInBounds_toArray, List.set_cons_succ, List.set_cons_zero]
  generalize wA.drew = wD at *
  have hwd : wA.heap.size ≤ wD.heap.size := ((HCC.out wD).1 hS0).kept.1
  refine held_one (i := 1) (by kernel_rfl) rfl ?_
  intro Q' hQ
  go_wp2_with fail
  refine (clone_c x (some ⟨w.heap.size, 0, none⟩) 32 32 wD HX.out (by omega) (Cells.of_blk0 (((HCC.out wD).1 hS0).blk XA.out (by simp)))).mono ?_
  rintro e w1 ⟨v1, rfl, own1, -, e1⟩
  have hC1 := hCx _ _ hS0 e1
  go_wp2_with fail
  refine hQ _ _ hC1 ?_
  clear hS0 hQ Q'
  have O1 := hid own1
  have YC1 := hid (((HCC.out w1).1 hC1).blk YA.out (by simp))
  have HC1 := hid hC1
  clear hC1
  have hb1 : wD.heap.size ≤ w1.heap.size := e1.size
  clear own1 e1
  try dsimp only
  try simp only [Act.put, List.setIfInBounds_toArray, List.set_cons_succ, List.set_cons_zero]
  refine held_one (i := 3) (by kernel_rfl) rfl ?_
  intro Q' hQ
  go_wp2_with (first | (at_builtin; refine wpl_append8 rfl _ _ rfl wD.heap.size (ys := y) rfl rfl O1.out HY.out (by intro h; cases h) (Cells.of_blk0 YC1.out) (by omega) hb1 ?_))
  intro v2 w2 own2 g2
  have own2' : w2.ownsRow wD.heap.size 5 1 v2 64 ((x ++ y).map u8v) := by rw [List.map_append]; exact own2
  have hv2 := own_block_ge O1.out
  have hC2 : C w2 := (HCC.out w2).2 (((HCC.out w1).1 HC1.out).grown g2 (by intro q hq; have := hv2 _ hq; omega) hwl)
  go_wp2_with fail
  refine hQ _ _ hC2 ?_
  clear hQ Q' own2 g2 hv2 O1 HC1 hb1
  obtain ⟨a, c, rfl, -, -, -, hcl⟩ := own_slice own2'
  have HCL := hid hcl
  clear own2' hcl
  try dsimp only
  try simp only [Act.put, List.setIfInBounds_toArray, List.set_cons_succ, List.set_cons_zero]
  refine held_one (i := 4) (by kernel_rfl) rfl ?_
  intro Q' hQ
  go_wp2_with fail
  refine (HSUM.out w2 c a HCL.out).mono ?_
  rintro e w3 ⟨rfl, e3⟩
  have hC3 := hCx _ _ hC2 e3
  go_wp2_with fail
  refine hQ _ _ hC3 ?_
  clear hQ Q'
  obtain ⟨vz, hvz, z3⟩ := ((HCC.out w3).1 hC3).at_room (r := w.heap.size + 2) (n := 32) (T := 36) (by simp)
  have Z3 := hid z3
  have HVZ := hid hvz
  have HC3 := hid hC3
  clear z3 hvz hC3 hC2 HSUM HCL
  try dsimp only
  try simp only [Act.put, List.setIfInBounds_toArray, List.set_cons_succ, List.set_cons_zero]
  refine held_one (i := 5) (by kernel_rfl) rfl ?_
  intro Q' hQ
  go_wp2_with (refine wpl_storew rfl _ _ _ rfl rfl rfl Z3.out agg_apisum HVZ.out HSL.out o1 ?_)
  intro w4 b4 u4
  go_wp2_with fail
  have B4 := hid b4
  have hS : C w4 := (HCC.out w4).2 (((HCC.out w3).1 HC3.out).store u4 b4 (by simp [HSL.out]) (by omega) (by simp <;> omega))
  refine hQ _ _ hS ?_
  clear hQ Q'
  refine wpAnyH_done (by kernel_rfl) ?_ _
  go_wp2
  refine ret_row rfl rfl b4 agg_apisum HSL.out rfl ⟨rfl, ((HCC.out w4).1 hS).base⟩

def sideL (k : List UInt8) (i : Nat) (s o : List UInt8) : List UInt8 := if bitL k i = 0 then nodeL s o else nodeL o s
theorem sideL_length (k : List UInt8) (i : Nat) (s o : List UInt8) : (sideL k i s o).length = 32 := by unfold sideL; split <;> exact nodeL_length _ _
end

section
open Go Go.RowKit

theorem cnt_dep (m : List UInt8) (n : Nat) : cntL m (depL m n) = cntL m n := by
  induction n with
  | zero => rfl
  | succ n ih =>
    have := bitL_lt m n
    simp only [depL]
    split
    · rfl
    · rw [ih]; simp only [cntL]; omega
def upL (lv k : List UInt8) (ls : List (List UInt8)) : Nat → List UInt8 → List UInt8
  | 0, s => s
  | i + 1, s => upL lv k ls i (sideL k i s (if bitL lv i = 1 then ls[cntL lv i]?.getD zero32 else zero32))
theorem upL_length {lv k : List UInt8} {ls : List (List UInt8)} (i : Nat) (s : List UInt8) (h : s.length = 32) : (upL lv k ls i s).length = 32 := by
  induction i generalizing s with
  | zero => exact h
  | succ i ih => exact ih _ (sideL_length _ _ _ _)

set_option maxRecDepth 100000 in
set_option maxHeartbeats 1000000 in
theorem side_c (k s o : List UInt8) (i : Nat) (w : World) (hk : k.length = 32) (hs : s.length = 32) (ho : o.length = 32) (hi : i < 256) :
    Calls Try.prog 65 #[.agg (k.map u8v).toArray, .int .i64 (i : Int), .agg (s.map u8v).toArray, .agg (o.map u8v).toArray] w fun e w' => e = .returned (.agg ((sideL k i s o).map u8v).toArray) ∧ Ext w w' := by
  have hb := hid (fun w' => bit_c k i w' hk hi)
  have hb2 := bitL_lt k i
  have h1 := hid (fun w' => node_c s o w' hs ho)
  have h2 := hid (fun w' => node_c o s w' ho hs)
  have HK := hid (show (k.map u8v).length = 32 by rw [List.length_map, hk])
  have HS := hid (show (s.map u8v).length = 32 by rw [List.length_map, hs])
  have HO := hid (show (o.map u8v).length = 32 by rw [List.length_map, ho])
  have L1 := hid (show ((nodeL s o).map u8v).length = 32 by rw [List.length_map, nodeL_length])
  have L2 := hid (show ((nodeL o s).map u8v).length = 32 by rw [List.length_map, nodeL_length])
  have O1 := one_u8 (nodeL s o)
  have O2 := one_u8 (nodeL o s)
  obtain ⟨R, hR⟩ : ∃ R, sideL k i s o = R := ⟨_, rfl⟩
  rw [hR]
  unfold sideL at hR
  generalize bitL k i = b at *
  generalize nodeL s o = n1 at *
  generalize nodeL o s = n2 at *
  clear hk hs ho
  by_cases h0 : b = 0
  · rw [if_pos h0] at hR
    subst hR
    have g1 : ((b : Int) == 0) = true := by rw [h0]; rfl
    have g2 : (b == 0) = true := by rw [h0]; rfl
    clear h0
    go_enter Try.func65, Try.ntmps65
    go_upto_region 1 with (fail)
    generalize hwA : World.alloc (World.alloc (World.alloc (World.alloc w _) _) _) _ = wA
    have kA : Blk wA w.heap.size (k.map u8v) 36 := by rw [← hwA]; exact (((Blk.mk_alloc rfl rfl).alloc _).alloc _).alloc _
    have sA : Blk wA (w.heap.size + 1) (s.map u8v) 36 := by rw [← hwA]; exact ((Blk.mk_alloc (by simp) rfl).alloc _).alloc _
    have oA : Blk wA (w.heap.size + 2) (o.map u8v) 36 := by rw [← hwA]; exact (Blk.mk_alloc (by simp) rfl).alloc _
    have zA : Blk wA (w.heap.size + 3) (List.replicate 32 (.int .u8 0)) 36 := by rw [← hwA]; exact Blk.mk_alloc (by simp) rfl
    have eA : Ext w wA := by rw [← hwA]; exact ((((Ext.refl w).alloc _).alloc _).alloc _).alloc _
    clear hwA
    have KA := hid kA
    have SA := hid sA
    have OA := hid oA
    have ZA := hid zA
    have EA := hid eA
    clear kA sA oA zA eA
    go_wp2_with (first | (refine wpl_loadw rfl _ _ rfl rfl KA.out agg_apisum HK.out ?_))
    refine (hb.out _).mono ?_
    rintro e wB ⟨rfl, eB⟩
    have SB := hid (SA.out.ext eB)
    have OB := hid (OA.out.ext eB)
    have ZB := hid (ZA.out.ext eB)
    have EB := hid (EA.out.ext eB)
    clear eB KA SA OA ZA EA
    go_wp2_with (first | (refine wpl_loadw rfl 36 (.tmp 6) rfl rfl SB.out agg_apisum HS.out ?_) | (refine wpl_loadw rfl 36 (.tmp 7) rfl rfl OB.out agg_apisum HO.out ?_))
    refine (h1.out _).mono ?_
    rintro e wC ⟨rfl, eC⟩
    have ZC := hid (ZB.out.ext eC)
    have EC := hid (EB.out.ext eC)
    clear eC SB OB ZB EB
    go_wp2_with (refine wpl_storew rfl _ _ _ rfl rfl rfl ZC.out agg_apisum (by simp) L1.out O1 ?_)
    intro w4 b4 u4
    go_wp2
    refine ret_row rfl rfl b4 agg_apisum L1.out rfl ⟨rfl, u4.ext EC.out (by omega)⟩
  · rw [if_neg h0] at hR
    subst hR
    have g1 : ((b : Int) == 0) = false := by simp; omega
    have g2 : (b == 0) = false := by simp [h0]
    go_enter Try.func65, Try.ntmps65
    go_upto_region 1 with (fail)
    generalize hwA : World.alloc (World.alloc (World.alloc (World.alloc w _) _) _) _ = wA
    have kA : Blk wA w.heap.size (k.map u8v) 36 := by rw [← hwA]; exact (((Blk.mk_alloc rfl rfl).alloc _).alloc _).alloc _
    have sA : Blk wA (w.heap.size + 1) (s.map u8v) 36 := by rw [← hwA]; exact ((Blk.mk_alloc (by simp) rfl).alloc _).alloc _
    have oA : Blk wA (w.heap.size + 2) (o.map u8v) 36 := by rw [← hwA]; exact (Blk.mk_alloc (by simp) rfl).alloc _
    have zA : Blk wA (w.heap.size + 3) (List.replicate 32 (.int .u8 0)) 36 := by rw [← hwA]; exact Blk.mk_alloc (by simp) rfl
    have eA : Ext w wA := by rw [← hwA]; exact ((((Ext.refl w).alloc _).alloc _).alloc _).alloc _
    clear hwA
    have KA := hid kA
    have SA := hid sA
    have OA := hid oA
    have ZA := hid zA
    have EA := hid eA
    clear kA sA oA zA eA
    go_wp2_with (first | (refine wpl_loadw rfl _ _ rfl rfl KA.out agg_apisum HK.out ?_))
    refine (hb.out _).mono ?_
    rintro e wB ⟨rfl, eB⟩
    have SB := hid (SA.out.ext eB)
    have OB := hid (OA.out.ext eB)
    have ZB := hid (ZA.out.ext eB)
    have EB := hid (EA.out.ext eB)
    clear eB KA SA OA ZA EA
    go_wp2_with (first | (refine wpl_loadw rfl 36 (.tmp 6) rfl rfl SB.out agg_apisum HS.out ?_) | (refine wpl_loadw rfl 36 (.tmp 7) rfl rfl OB.out agg_apisum HO.out ?_))
    refine (h2.out _).mono ?_
    rintro e wC ⟨rfl, eC⟩
    have ZC := hid (ZB.out.ext eC)
    have EC := hid (EB.out.ext eC)
    clear eC SB OB ZB EB
    go_wp2_with (refine wpl_storew rfl _ _ _ rfl rfl rfl ZC.out agg_apisum (by simp) L2.out O2 ?_)
    intro w4 b4 u4
    go_wp2
    refine ret_row rfl rfl b4 agg_apisum L2.out rfl ⟨rfl, u4.ext EC.out (by omega)⟩
end

section
open Go Go.RowKit

theorem cnt_mono (m : List UInt8) {i j : Nat} (h : i ≤ j) : cntL m i ≤ cntL m j := by
  induction j with
  | zero => have : i = 0 := by omega
            subst this; exact Nat.le_refl _
  | succ j ih =>
    by_cases hij : i = j + 1
    · subst hij; exact Nat.le_refl _
    · have := ih (by omega); simp only [cntL]; omega

set_option maxRecDepth 100000 in
set_option maxHeartbeats 2000000 in
theorem up_c (lv k s : List UInt8) (ls : List (List UInt8)) (a : Option Addr) (n c : Nat) (w : World) (hv : lv.length = 32) (hk : k.length = 32) (hs : s.length = 32) (hn : ls.length = n) (hcn : cntL lv 256 ≤ n) (h32 : All32 ls) (hcl : Cells w a (rows ls)) :
    Calls Try.prog 58 #[.agg (k.map u8v).toArray, .agg (s.map u8v).toArray, .agg (mpL lv (.slice a n c)).toArray] w fun e w' => e = .returned (.agg ((upL lv k ls (depL lv 256) s).map u8v).toArray) ∧ Ext w w' := by
  have HK := hid (show (k.map u8v).length = 32 by rw [List.length_map, hk])
  have HS0 := hid (show (s.map u8v).length = 32 by rw [List.length_map, hs])
  have HL33 := hid (mpL_length hv (.slice a n c))
  have HLE : Hid (0 + 32 ≤ (mpL lv (.slice a n c)).length) := hid (by rw [mpL_length hv]; omega)
  have HLV := hid (mpL_lev hv (.slice a n c))
  have HAT := hid (mpL_at hv (.slice a n c))
  have HKL := hid hk
  have HSL := hid hs
  have HVL := hid hv
  have HN := hid hn
  have H32 := hid h32
  have HC := hid hcl
  have hcd := cnt_dep lv 256
  have hd256 := depL_le lv 256
  obtain ⟨R, hR⟩ : ∃ R, upL lv k ls (depL lv 256) s = R := ⟨_, rfl⟩
  have HRL := hid (show (R.map u8v).length = 32 by rw [List.length_map, ← hR]; exact upL_length _ _ hs)
  have OR := one_u8 R
  rw [hR]
  have hmk := hid (fun w' => marked_c lv w' hv)
  rw [← hcd] at hcn hmk
  generalize depL lv 256 = D at *
  have HR := hid hR
  generalize hvs : mpL lv (.slice a n c) = vs at *
  clear hk hs hv hn hcl h32 hcd hR hvs
  go_enter Try.func58, Try.ntmps58
  go_upto_region 1 with (fail)
  generalize hwA : World.alloc (World.alloc (World.alloc (World.alloc w _) _) _) _ = wA
  have kA : Blk wA w.heap.size (k.map u8v) 36 := by rw [← hwA]; exact (((Blk.mk_alloc rfl rfl).alloc _).alloc _).alloc _
  have sA : Blk wA (w.heap.size + 1) (s.map u8v) 36 := by rw [← hwA]; exact ((Blk.mk_alloc (by simp) rfl).alloc _).alloc _
  have pA : Blk wA (w.heap.size + 2) vs 50 := by rw [← hwA]; exact (Blk.mk_alloc (by simp) rfl).alloc _
  have zA : Blk wA (w.heap.size + 3) (List.replicate 32 (.int .u8 0)) 36 := by rw [← hwA]; exact Blk.mk_alloc (by simp) rfl
  have eA : Ext w wA := by rw [← hwA]; exact ((((Ext.refl w).alloc _).alloc _).alloc _).alloc _
  clear hwA
  have KA := hid kA
  have SA := hid sA
  have PA := hid pA
  have ZA := hid zA
  have EA := hid eA
  clear kA sA pA zA eA
  go_wp2_with (first | (refine wpl_loadp rfl 35 _ rfl rfl PA.out agg_lev HLE.out HLV.out ?_))
  refine (hmk.out _).mono ?_
  rintro e wB ⟨rfl, eB⟩
  have KB := hid (KA.out.ext eB)
  have SB := hid (SA.out.ext eB)
  have PB := hid (PA.out.ext eB)
  have ZB := hid (ZA.out.ext eB)
  have EB := hid (EA.out.ext eB)
  clear eB KA SA PA ZA EA hmk
  generalize hg : w.heap.size = g at *
  go_wp2
  go_loopw [7, 9] (fun x y wr => ∃ (i : Nat) (z : Int) (q : List UInt8), z + 1 = i ∧ i ≤ D ∧ y = .int .i64 z ∧ x = .int .i64 ((cntL lv i : Nat) : Int) ∧ q.length = 32 ∧ upL lv k ls i q = R ∧ Blk wr g (k.map u8v) 36 ∧ Blk wr (g + 1) (q.map u8v) 36 ∧ Blk wr (g + 2) vs 50 ∧ Blk wr (g + 3) (List.replicate 32 (.int .u8 0)) 36 ∧ Ext w wr) (fun x y _ => ((intOf y) + 1).toNat)
  case atStart => exact ⟨D, (D : Int) - 1, s, by omega, Nat.le_refl _, by first | rfl | go_num, by first | rfl | go_num, HSL.out, HR.out, KB.out, SB.out, PB.out, ZB.out, EB.out⟩
  case round =>
    obtain ⟨i, z, q, hz, hi, rfl, rfl, hq, hup, hKB, hSB, hPB, hZB, hEB⟩ := hrel
    have KW := hid hKB
    have SW := hid hSB
    have PW := hid hPB
    have ZW := hid hZB
    have EW := hid hEB
    have HQ := hid hq
    have HQV := hid (show (q.map u8v).length = 32 by rw [List.length_map, hq])
    clear hKB hSB hPB hZB hEB KB SB PB ZB EB
    cases i with
    | zero =>
      obtain rfl : z = -1 := by omega
      have hqR : q = R := hup
      subst hqR
      clear hup hq
      go_wp2_with (first | (refine wpl_loadw rfl 36 _ rfl rfl SW.out agg_apisum HQV.out ?_) | (refine wpl_storew rfl _ _ _ rfl rfl rfl ZW.out agg_apisum (by simp) HQV.out OR ?_))
      intro w4 b4 u4
      go_wp2
      refine ret_row rfl rfl b4 agg_apisum HQV.out rfl ⟨rfl, u4.ext EW.out (by omega)⟩
    | succ i =>
      obtain rfl : z = (i : Int) := by omega
      have hup' : upL lv k ls i (sideL k i q (if bitL lv i = 1 then ls[cntL lv i]?.getD zero32 else zero32)) = R := hup
      have hc1 : cntL lv (i + 1) = cntL lv i + bitL lv i := rfl
      have hcD := cnt_mono lv hi
      have hbit := hid (fun w' => bit_c lv i w' HVL.out (by omega))
      have hb2 := bitL_lt lv i
      have hcle := cntL_le lv i
      rw [hc1] at hcD ⊢
      have g0 : decide ((i : Int) ≥ 0) = true := decide_eq_true (by omega)
      have g0' : decide ((0 : Int) ≤ (i : Int)) = true := decide_eq_true (by omega)
      have hkL := HKL.out
      have hqL := HQ.out
      have HVR := HVL
      generalize hbb : bitL lv i = bb at *
      generalize hcc : cntL lv i = cc at *
      clear hup hc1 hq hbb
      go_wp2_with (first | (refine wpl_storew rfl _ (.tmp 10) _ rfl rfl rfl (Blk.mk_alloc (vs := List.replicate 32 (.int .u8 0)) rfl rfl) agg_apisum (by simp) (xs := List.replicate 32 (.int .u8 0)) (by simp) (one_zeros 32) ?_))
      intro w1 b1 u1
      have e1 : Ext wr w1 := u1.ext ((Ext.refl wr).alloc _) (Nat.le_refl _)
      clear u1
      have K1 := hid (KW.out.ext e1)
      have S1 := hid (SW.out.ext e1)
      have P1 := hid (PW.out.ext e1)
      have Z1 := hid (ZW.out.ext e1)
      have E1 := hid (EW.out.ext e1)
      have B1 := hid b1
      have hgs : g + 3 < wr.heap.size := ZW.out.lt
      clear e1 b1 KW SW PW ZW EW
      generalize wr.heap.size = gs at *
      go_wp2_with (first | (refine wpl_loadp rfl 35 _ rfl rfl P1.out agg_lev HLE.out HLV.out ?_))
      refine (hbit.out _).mono ?_
      rintro e w2 ⟨rfl, e2⟩
      have K2 := hid (K1.out.ext e2)
      have S2 := hid (S1.out.ext e2)
      have P2 := hid (P1.out.ext e2)
      have Z2 := hid (Z1.out.ext e2)
      have E2 := hid (E1.out.ext e2)
      have B2 := hid (B1.out.ext e2)
      clear e2 K1 S1 P1 Z1 E1 B1 hbit
      by_cases h1 : bb = 1
      · have g1 : ((bb : Int) == 1) = true := by rw [h1]; rfl
        have g2 : (bb == 1) = true := by rw [h1]; rfl
        rw [if_pos h1] at hup'
        subst h1
        have hccn : cc < n := by omega
        obtain ⟨y, hy⟩ : ∃ y, ls[cc]? = some y := ⟨ls[cc]'(by rw [HN.out]; exact hccn), by simp⟩
        have hyl : y.length = 32 := H32.out.at hy
        obtain ⟨A, rfl, hca⟩ : ∃ A, a = some A ∧ CellsAt w2 (A.add (cc * 32)) (y.map u8v) := by
          cases a with
          | none => rcases HC.out with h | ⟨_, _, h, _⟩
                    · have := rows_length H32.out; rw [h, HN.out] at this; simp at this; omega
                    · cases h
          | some A => exact ⟨A, rfl, (HC.out.rowAt H32.out hy).ext E2.out⟩
        have HCA := hid hca
        have HY1 := hid (show (y.map u8v).length = 32 by rw [List.length_map]; exact hyl)
        have oy := one_u8 y
        rw [hy] at hup'
        simp only [Option.getD_some] at hup'
        have c32 : w2.cell? ⟨g + 2, 32, none⟩ = some (.slice (some A) n c) := P2.out.cell' HAT.out
        clear hca hy
        go_wp2_with (first | (refine wpl_run rfl (exec_index (i := cc) rfl rfl rfl Try.underlying22 size_apisum hccn w2) ?_) | (refine wpl_run rfl (exec_load_at rfl rfl HCA.out agg_apisum HY1.out) ?_) | (refine wpl_storew rfl _ (.tmp 10) _ rfl rfl rfl B2.out agg_apisum (by simp) HY1.out oy ?_))
        intro w4 b4 u4
        have K4 := hid (K2.out.upd u4 (by omega))
        have S4 := hid (S2.out.upd u4 (by omega))
        have P4 := hid (P2.out.upd u4 (by omega))
        have Z4 := hid (Z2.out.upd u4 (by omega))
        have E4 := hid (u4.ext E2.out (by omega))
        have B4 := hid b4
        clear c32 u4 b4 K2 S2 P2 Z2 E2 B2 HCA
        have hsd := hid (fun w' => side_c k q y i w' hkL hqL hyl (by omega))
        have HSD := hid (sideL_length k i q y)
        have HSDV := hid (show ((sideL k i q y).map u8v).length = 32 by rw [List.length_map]; exact sideL_length k i q y)
        have osd := one_u8 (sideL k i q y)
        have HYV := hid (show (y.map u8v).length = 32 by rw [List.length_map]; exact hyl)
        generalize sideL k i q y = q2 at *
        have HUP := hid hup'
        clear hup'
        go_wp2_with (first | (refine wpl_loadw rfl 36 (.tmp 3) rfl rfl K4.out agg_apisum HK.out ?_) | (refine wpl_loadw rfl 36 (.tmp 4) rfl rfl S4.out agg_apisum HQV.out ?_) | (refine wpl_loadw rfl 36 (.tmp 10) rfl rfl B4.out agg_apisum HYV.out ?_))
        refine (hsd.out _).mono ?_
        rintro e w5 ⟨rfl, e5⟩
        have K5 := hid (K4.out.ext e5)
        have S5 := hid (S4.out.ext e5)
        have P5 := hid (P4.out.ext e5)
        have Z5 := hid (Z4.out.ext e5)
        have E5 := hid (E4.out.ext e5)
        clear e5 K4 S4 P4 Z4 E4 B4
        go_wp2_with (first | (refine wpl_storew rfl _ (.tmp 4) _ rfl rfl rfl S5.out agg_apisum HQV.out HSDV.out osd ?_))
        intro w6 b6 u6
        have K6 := hid (K5.out.upd u6 (by omega))
        have P6 := hid (P5.out.upd u6 (by omega))
        have Z6 := hid (Z5.out.upd u6 (by omega))
        have E6 := hid (u6.ext E5.out (by omega))
        have S6 := hid b6
        clear b6 u6 K5 S5 P5 Z5 E5
        go_wp2
        go_roundw
        case rel => exact ⟨i, (i : Int) - 1, q2, by omega, by omega, by first | rfl | go_num, by first | rfl | go_num | (congr 1; omega), HSD.out, HUP.out, K6.out, S6.out, P6.out, Z6.out, E6.out⟩
        case measure => first | (simp [intOf]; done) | (simp [intOf]; omega)
      · have g1 : ((bb : Int) == 1) = false := by simp; omega
        have g2 : (bb == 1) = false := by simp [h1]
        rw [if_neg h1] at hup'
        obtain rfl : bb = 0 := by omega
        clear h1
        have hyl : zero32.length = 32 := by simp [zero32]
        have hzz : List.replicate 32 (Value.int .u8 0) = zero32.map u8v := by first | rw [zero32_map] | exact zero32_map.symm
        have B2' := hid (show Blk w2 gs (zero32.map u8v) 36 by rw [← hzz]; exact B2.out)
        clear B2
        have B2 := hid B2'.out
        clear B2' hzz
        generalize zero32 = y at *
        have hsd := hid (fun w' => side_c k q y i w' hkL hqL hyl (by omega))
        have HSD := hid (sideL_length k i q y)
        have HSDV := hid (show ((sideL k i q y).map u8v).length = 32 by rw [List.length_map]; exact sideL_length k i q y)
        have osd := one_u8 (sideL k i q y)
        have HYV := hid (show (y.map u8v).length = 32 by rw [List.length_map]; exact hyl)
        generalize sideL k i q y = q2 at *
        have HUP := hid hup'
        clear hup'
        go_wp2_with (first | (refine wpl_loadw rfl 36 (.tmp 3) rfl rfl K2.out agg_apisum HK.out ?_) | (refine wpl_loadw rfl 36 (.tmp 4) rfl rfl S2.out agg_apisum HQV.out ?_) | (refine wpl_loadw rfl 36 (.tmp 10) rfl rfl B2.out agg_apisum HYV.out ?_))
        refine (hsd.out _).mono ?_
        rintro e w5 ⟨rfl, e5⟩
        have K5 := hid (K2.out.ext e5)
        have S5 := hid (S2.out.ext e5)
        have P5 := hid (P2.out.ext e5)
        have Z5 := hid (Z2.out.ext e5)
        have E5 := hid (E2.out.ext e5)
        clear e5 K2 S2 P2 Z2 E2 B2
        go_wp2_with (first | (refine wpl_storew rfl _ (.tmp 4) _ rfl rfl rfl S5.out agg_apisum HQV.out HSDV.out osd ?_))
        intro w6 b6 u6
        have K6 := hid (K5.out.upd u6 (by omega))
        have P6 := hid (P5.out.upd u6 (by omega))
        have Z6 := hid (Z5.out.upd u6 (by omega))
        have E6 := hid (u6.ext E5.out (by omega))
        have S6 := hid b6
        clear b6 u6 K5 S5 P5 Z5 E5
        go_wp2
        go_roundw
        case rel => exact ⟨i, (i : Int) - 1, q2, by omega, by omega, by first | rfl | go_num, by first | rfl | go_num | (congr 1; omega), HSD.out, HUP.out, K6.out, S6.out, P6.out, Z6.out, E6.out⟩
        case measure => first | (simp [intOf]; done) | (simp [intOf]; omega)
end

section
open Go Go.RowKit

set_option maxRecDepth 100000 in
set_option maxHeartbeats 2000000 in
theorem rup_c (lv k s : List UInt8) (ls : List (List UInt8)) (a : Option Addr) (n c : Nat) (w : World) (hv : lv.length = 32) (hk : k.length = 32) (hs : s.length = 32) (hn : ls.length = n) (hcn : cntL lv 256 ≤ n) (h32 : All32 ls) (hcl : Cells w a (rows ls)) :
    Calls Try.prog 61 #[.agg (k.map u8v).toArray, .agg (s.map u8v).toArray, .agg (mpL lv (.slice a n c)).toArray] w fun e w' => e = .returned (.agg ((upL lv k ls (depL lv 256) s).map u8v).toArray) ∧ Ext w w' := by
  have HK := hid (show (k.map u8v).length = 32 by rw [List.length_map, hk])
  have HS0 := hid (show (s.map u8v).length = 32 by rw [List.length_map, hs])
  have HL33 := hid (mpL_length hv (.slice a n c))
  have HLE : Hid (0 + 32 ≤ (mpL lv (.slice a n c)).length) := hid (by rw [mpL_length hv]; omega)
  have HLV := hid (mpL_lev hv (.slice a n c))
  have HAT := hid (mpL_at hv (.slice a n c))
  have HKL := hid hk
  have HSL := hid hs
  have HVL := hid hv
  have HN := hid hn
  have H32 := hid h32
  have HC := hid hcl
  have hcd := cnt_dep lv 256
  have hd256 := depL_le lv 256
  obtain ⟨R, hR⟩ : ∃ R, upL lv k ls (depL lv 256) s = R := ⟨_, rfl⟩
  have HRL := hid (show (R.map u8v).length = 32 by rw [List.length_map, ← hR]; exact upL_length _ _ hs)
  have OR := one_u8 R
  rw [hR]
  have hmk := hid (fun w' => depth_c lv (.slice a n c) w' hv)
  rw [← hcd] at hcn hmk
  generalize depL lv 256 = D at *
  have HR := hid hR
  generalize hvs : mpL lv (.slice a n c) = vs at *
  clear hk hs hv hn hcl h32 hcd hR hvs
  go_enter Try.func61, Try.ntmps61
  go_upto_region 1 with (fail)
  generalize hwA : World.alloc (World.alloc (World.alloc (World.alloc w _) _) _) _ = wA
  have kA : Blk wA w.heap.size (k.map u8v) 36 := by rw [← hwA]; exact (((Blk.mk_alloc rfl rfl).alloc _).alloc _).alloc _
  have sA : Blk wA (w.heap.size + 1) (s.map u8v) 36 := by rw [← hwA]; exact ((Blk.mk_alloc (by simp) rfl).alloc _).alloc _
  have pA : Blk wA (w.heap.size + 2) vs 50 := by rw [← hwA]; exact (Blk.mk_alloc (by simp) rfl).alloc _
  have zA : Blk wA (w.heap.size + 3) (List.replicate 32 (.int .u8 0)) 36 := by rw [← hwA]; exact Blk.mk_alloc (by simp) rfl
  have eA : Ext w wA := by rw [← hwA]; exact ((((Ext.refl w).alloc _).alloc _).alloc _).alloc _
  clear hwA
  have KA := hid kA
  have SA := hid sA
  have PA := hid pA
  have ZA := hid zA
  have EA := hid eA
  clear kA sA pA zA eA
  go_wp2_with (first | (refine wpl_loadw rfl 50 _ rfl rfl PA.out agg_mproof HL33.out ?_))
  refine (hmk.out _).mono ?_
  rintro e wB ⟨rfl, eB⟩
  have KB := hid (KA.out.ext eB)
  have SB := hid (SA.out.ext eB)
  have PB := hid (PA.out.ext eB)
  have ZB := hid (ZA.out.ext eB)
  have EB := hid (EA.out.ext eB)
  clear eB KA SA PA ZA EA hmk
  generalize hg : w.heap.size = g at *
  go_wp2
  go_loopw [8, 9] (fun x y wr => ∃ (i : Nat) (z : Int) (q : List UInt8), z + 1 = i ∧ i ≤ D ∧ y = .int .i64 z ∧ x = .int .i64 ((cntL lv i : Nat) : Int) ∧ q.length = 32 ∧ upL lv k ls i q = R ∧ Blk wr g (k.map u8v) 36 ∧ Blk wr (g + 1) (q.map u8v) 36 ∧ Blk wr (g + 2) vs 50 ∧ Blk wr (g + 3) (List.replicate 32 (.int .u8 0)) 36 ∧ Ext w wr) (fun x y _ => ((intOf y) + 1).toNat)
  case atStart => exact ⟨D, (D : Int) - 1, s, by omega, Nat.le_refl _, by first | rfl | go_num, by first | rfl | go_num, HSL.out, HR.out, KB.out, SB.out, PB.out, ZB.out, EB.out⟩
  case round =>
    obtain ⟨i, z, q, hz, hi, rfl, rfl, hq, hup, hKB, hSB, hPB, hZB, hEB⟩ := hrel
    have KW := hid hKB
    have SW := hid hSB
    have PW := hid hPB
    have ZW := hid hZB
    have EW := hid hEB
    have HQ := hid hq
    have HQV := hid (show (q.map u8v).length = 32 by rw [List.length_map, hq])
    clear hKB hSB hPB hZB hEB KB SB PB ZB EB
    cases i with
    | zero =>
      obtain rfl : z = -1 := by omega
      have hqR : q = R := hup
      subst hqR
      clear hup hq
      go_wp2_with (first | (refine wpl_loadw rfl 36 _ rfl rfl SW.out agg_apisum HQV.out ?_) | (refine wpl_storew rfl _ _ _ rfl rfl rfl ZW.out agg_apisum (by simp) HQV.out OR ?_))
      intro w4 b4 u4
      go_wp2
      refine ret_row rfl rfl b4 agg_apisum HQV.out rfl ⟨rfl, u4.ext EW.out (by omega)⟩
    | succ i =>
      obtain rfl : z = (i : Int) := by omega
      have hup' : upL lv k ls i (sideL k i q (if bitL lv i = 1 then ls[cntL lv i]?.getD zero32 else zero32)) = R := hup
      have hc1 : cntL lv (i + 1) = cntL lv i + bitL lv i := rfl
      have hcD := cnt_mono lv hi
      have hbit := hid (fun w' => rbit_c lv i w' HVL.out (by omega))
      have hb2 := bitL_lt lv i
      have hcle := cntL_le lv i
      rw [hc1] at hcD ⊢
      have g0 : decide ((i : Int) ≥ 0) = true := decide_eq_true (by omega)
      have g0' : decide ((0 : Int) ≤ (i : Int)) = true := decide_eq_true (by omega)
      have hkL := HKL.out
      have hqL := HQ.out
      have HVR := HVL
      generalize hbb : bitL lv i = bb at *
      generalize hcc : cntL lv i = cc at *
      clear hup hc1 hq hbb
      go_upto_region 6 with (fail)
      generalize hw1 : World.alloc wr _ = w1
      have b1 : Blk w1 wr.heap.size (List.replicate 32 (.int .u8 0)) 36 := by rw [← hw1]; exact Blk.mk_alloc rfl rfl
      have e1 : Ext wr w1 := by rw [← hw1]; exact (Ext.refl wr).alloc _
      clear hw1
      have K1 := hid (KW.out.ext e1)
      have S1 := hid (SW.out.ext e1)
      have P1 := hid (PW.out.ext e1)
      have Z1 := hid (ZW.out.ext e1)
      have E1 := hid (EW.out.ext e1)
      have B1 := hid b1
      have hgs : g + 3 < wr.heap.size := ZW.out.lt
      clear e1 b1 KW SW PW ZW EW
      generalize wr.heap.size = gs at *
      go_wp2_with (first | (refine wpl_loadp rfl 35 _ rfl rfl P1.out agg_lev HLE.out HLV.out ?_))
      refine (hbit.out _).mono ?_
      rintro e w2 ⟨rfl, e2⟩
      have K2 := hid (K1.out.ext e2)
      have S2 := hid (S1.out.ext e2)
      have P2 := hid (P1.out.ext e2)
      have Z2 := hid (Z1.out.ext e2)
      have E2 := hid (E1.out.ext e2)
      have B2 := hid (B1.out.ext e2)
      clear e2 K1 S1 P1 Z1 E1 B1 hbit
      by_cases h1 : bb = 1
      · have g1 : ((bb : Int) == 1) = true := by rw [h1]; rfl
        have g2 : (bb == 1) = true := by rw [h1]; rfl
        rw [if_pos h1] at hup'
        subst h1
        have hccn : cc < n := by omega
        obtain ⟨y, hy⟩ : ∃ y, ls[cc]? = some y := ⟨ls[cc]'(by rw [HN.out]; exact hccn), by simp⟩
        have hyl : y.length = 32 := H32.out.at hy
        obtain ⟨A, rfl, hca⟩ : ∃ A, a = some A ∧ CellsAt w2 (A.add (cc * 32)) (y.map u8v) := by
          cases a with
          | none => rcases HC.out with h | ⟨_, _, h, _⟩
                    · have := rows_length H32.out; rw [h, HN.out] at this; simp at this; omega
                    · cases h
          | some A => exact ⟨A, rfl, (HC.out.rowAt H32.out hy).ext E2.out⟩
        have HCA := hid hca
        have HY1 := hid (show (y.map u8v).length = 32 by rw [List.length_map]; exact hyl)
        have oy := one_u8 y
        rw [hy] at hup'
        simp only [Option.getD_some] at hup'
        have c32 : w2.cell? ⟨g + 2, 32, none⟩ = some (.slice (some A) n c) := P2.out.cell' HAT.out
        clear hca hy
        go_wp2_with (first | (refine wpl_run rfl (exec_index (i := cc) rfl rfl rfl Try.underlying22 size_apisum hccn w2) ?_) | (refine wpl_run rfl (exec_load_at rfl rfl HCA.out agg_apisum HY1.out) ?_) | (refine wpl_storew rfl _ (.tmp 10) _ rfl rfl rfl B2.out agg_apisum (by simp) HY1.out oy ?_))
        intro w4 b4 u4
        have K4 := hid (K2.out.upd u4 (by omega))
        have S4 := hid (S2.out.upd u4 (by omega))
        have P4 := hid (P2.out.upd u4 (by omega))
        have Z4 := hid (Z2.out.upd u4 (by omega))
        have E4 := hid (u4.ext E2.out (by omega))
        have B4 := hid b4
        clear c32 u4 b4 K2 S2 P2 Z2 E2 B2 HCA
        have hrb := hid (fun w' => rbit_c k i w' hkL (by omega))
        have hkb2 := bitL_lt k i
        have HYV := hid (show (y.map u8v).length = 32 by rw [List.length_map]; exact hyl)
        have hn1 := hid (fun w' => rnode_c q y w' hqL hyl)
        have hn2 := hid (fun w' => rnode_c y q w' hyl hqL)
        have HSD := hid (sideL_length k i q y)
        have HSDV := hid (show ((sideL k i q y).map u8v).length = 32 by rw [List.length_map]; exact sideL_length k i q y)
        have osd := one_u8 (sideL k i q y)
        have hsd : sideL k i q y = if bitL k i = 0 then nodeL q y else nodeL y q := rfl
        generalize sideL k i q y = q2 at *
        generalize bitL k i = kb at *
        generalize nodeL q y = n1 at *
        generalize nodeL y q = n2 at *
        have HUP := hid hup'
        clear hup'
        by_cases hk0 : kb = 0
        · have g3 : ((kb : Int) == 0) = true := by rw [hk0]; rfl
          have g4 : (kb == 0) = true := by simp [hk0]
          rw [if_pos hk0] at hsd
          subst hsd
          clear hk0
          go_wp2_with (first | (refine wpl_loadw rfl 36 (.tmp 3) rfl rfl K4.out agg_apisum HK.out ?_))
          refine (hrb.out _).mono ?_
          rintro e w3 ⟨rfl, e3⟩
          have K3 := hid (K4.out.ext e3)
          have S3 := hid (S4.out.ext e3)
          have P3 := hid (P4.out.ext e3)
          have Z3 := hid (Z4.out.ext e3)
          have E3 := hid (E4.out.ext e3)
          have B3 := hid (B4.out.ext e3)
          clear e3 K4 S4 P4 Z4 E4 B4
          go_wp2_with (first | (refine wpl_loadw rfl 36 (.tmp 4) rfl rfl S3.out agg_apisum HQV.out ?_) | (refine wpl_loadw rfl 36 (.tmp 10) rfl rfl B3.out agg_apisum HYV.out ?_))
          refine (hn1.out _).mono ?_
          rintro e w5 ⟨rfl, e5⟩
          have K5 := hid (K3.out.ext e5)
          have S5 := hid (S3.out.ext e5)
          have P5 := hid (P3.out.ext e5)
          have Z5 := hid (Z3.out.ext e5)
          have E5 := hid (E3.out.ext e5)
          clear e5 K3 S3 P3 Z3 E3 B3
          go_wp2_with (first | (refine wpl_storew rfl _ (.tmp 4) _ rfl rfl rfl S5.out agg_apisum HQV.out HSDV.out osd ?_))
          intro w6 b6 u6
          have K6 := hid (K5.out.upd u6 (by omega))
          have P6 := hid (P5.out.upd u6 (by omega))
          have Z6 := hid (Z5.out.upd u6 (by omega))
          have E6 := hid (u6.ext E5.out (by omega))
          have S6 := hid b6
          clear b6 u6 K5 S5 P5 Z5 E5
          go_wp2
          go_roundw
          case rel => exact ⟨i, (i : Int) - 1, _, by omega, by omega, by first | rfl | go_num, by first | rfl | go_num | (congr 1; omega), HSD.out, HUP.out, K6.out, S6.out, P6.out, Z6.out, E6.out⟩
          case measure => first | (simp [intOf]; done) | (simp [intOf]; omega)
        · have g3 : ((kb : Int) == 0) = false := by simp; omega
          have g4 : (kb == 0) = false := by simp [hk0]
          rw [if_neg hk0] at hsd
          subst hsd
          clear hk0
          go_wp2_with (first | (refine wpl_loadw rfl 36 (.tmp 3) rfl rfl K4.out agg_apisum HK.out ?_))
          refine (hrb.out _).mono ?_
          rintro e w3 ⟨rfl, e3⟩
          have K3 := hid (K4.out.ext e3)
          have S3 := hid (S4.out.ext e3)
          have P3 := hid (P4.out.ext e3)
          have Z3 := hid (Z4.out.ext e3)
          have E3 := hid (E4.out.ext e3)
          have B3 := hid (B4.out.ext e3)
          clear e3 K4 S4 P4 Z4 E4 B4
          go_wp2_with (first | (refine wpl_loadw rfl 36 (.tmp 4) rfl rfl S3.out agg_apisum HQV.out ?_) | (refine wpl_loadw rfl 36 (.tmp 10) rfl rfl B3.out agg_apisum HYV.out ?_))
          refine (hn2.out _).mono ?_
          rintro e w5 ⟨rfl, e5⟩
          have K5 := hid (K3.out.ext e5)
          have S5 := hid (S3.out.ext e5)
          have P5 := hid (P3.out.ext e5)
          have Z5 := hid (Z3.out.ext e5)
          have E5 := hid (E3.out.ext e5)
          clear e5 K3 S3 P3 Z3 E3 B3
          go_wp2_with (first | (refine wpl_storew rfl _ (.tmp 4) _ rfl rfl rfl S5.out agg_apisum HQV.out HSDV.out osd ?_))
          intro w6 b6 u6
          have K6 := hid (K5.out.upd u6 (by omega))
          have P6 := hid (P5.out.upd u6 (by omega))
          have Z6 := hid (Z5.out.upd u6 (by omega))
          have E6 := hid (u6.ext E5.out (by omega))
          have S6 := hid b6
          clear b6 u6 K5 S5 P5 Z5 E5
          go_wp2
          go_roundw
          case rel => exact ⟨i, (i : Int) - 1, _, by omega, by omega, by first | rfl | go_num, by first | rfl | go_num | (congr 1; omega), HSD.out, HUP.out, K6.out, S6.out, P6.out, Z6.out, E6.out⟩
          case measure => first | (simp [intOf]; done) | (simp [intOf]; omega)
      · have g1 : ((bb : Int) == 1) = false := by simp; omega
        have g2 : (bb == 1) = false := by simp [h1]
        rw [if_neg h1] at hup'
        obtain rfl : bb = 0 := by omega
        clear h1
        have hyl : zero32.length = 32 := by simp [zero32]
        have hzz : List.replicate 32 (Value.int .u8 0) = zero32.map u8v := by first | rw [zero32_map] | exact zero32_map.symm
        have B2' := hid (show Blk w2 gs (zero32.map u8v) 36 by rw [← hzz]; exact B2.out)
        clear B2
        have B2 := hid B2'.out
        clear B2' hzz
        generalize zero32 = y at *
        have hrb := hid (fun w' => rbit_c k i w' hkL (by omega))
        have hkb2 := bitL_lt k i
        have HYV := hid (show (y.map u8v).length = 32 by rw [List.length_map]; exact hyl)
        have hn1 := hid (fun w' => rnode_c q y w' hqL hyl)
        have hn2 := hid (fun w' => rnode_c y q w' hyl hqL)
        have HSD := hid (sideL_length k i q y)
        have HSDV := hid (show ((sideL k i q y).map u8v).length = 32 by rw [List.length_map]; exact sideL_length k i q y)
        have osd := one_u8 (sideL k i q y)
        have hsd : sideL k i q y = if bitL k i = 0 then nodeL q y else nodeL y q := rfl
        generalize sideL k i q y = q2 at *
        generalize bitL k i = kb at *
        generalize nodeL q y = n1 at *
        generalize nodeL y q = n2 at *
        have HUP := hid hup'
        clear hup'
        by_cases hk0 : kb = 0
        · have g3 : ((kb : Int) == 0) = true := by rw [hk0]; rfl
          have g4 : (kb == 0) = true := by simp [hk0]
          rw [if_pos hk0] at hsd
          subst hsd
          clear hk0
          go_wp2_with (first | (refine wpl_loadw rfl 36 (.tmp 3) rfl rfl K2.out agg_apisum HK.out ?_))
          refine (hrb.out _).mono ?_
          rintro e w3 ⟨rfl, e3⟩
          have K3 := hid (K2.out.ext e3)
          have S3 := hid (S2.out.ext e3)
          have P3 := hid (P2.out.ext e3)
          have Z3 := hid (Z2.out.ext e3)
          have E3 := hid (E2.out.ext e3)
          have B3 := hid (B2.out.ext e3)
          clear e3 K2 S2 P2 Z2 E2 B2
          go_wp2_with (first | (refine wpl_loadw rfl 36 (.tmp 4) rfl rfl S3.out agg_apisum HQV.out ?_) | (refine wpl_loadw rfl 36 (.tmp 10) rfl rfl B3.out agg_apisum HYV.out ?_))
          refine (hn1.out _).mono ?_
          rintro e w5 ⟨rfl, e5⟩
          have K5 := hid (K3.out.ext e5)
          have S5 := hid (S3.out.ext e5)
          have P5 := hid (P3.out.ext e5)
          have Z5 := hid (Z3.out.ext e5)
          have E5 := hid (E3.out.ext e5)
          clear e5 K3 S3 P3 Z3 E3 B3
          go_wp2_with (first | (refine wpl_storew rfl _ (.tmp 4) _ rfl rfl rfl S5.out agg_apisum HQV.out HSDV.out osd ?_))
          intro w6 b6 u6
          have K6 := hid (K5.out.upd u6 (by omega))
          have P6 := hid (P5.out.upd u6 (by omega))
          have Z6 := hid (Z5.out.upd u6 (by omega))
          have E6 := hid (u6.ext E5.out (by omega))
          have S6 := hid b6
          clear b6 u6 K5 S5 P5 Z5 E5
          go_wp2
          go_roundw
          case rel => exact ⟨i, (i : Int) - 1, _, by omega, by omega, by first | rfl | go_num, by first | rfl | go_num | (congr 1; omega), HSD.out, HUP.out, K6.out, S6.out, P6.out, Z6.out, E6.out⟩
          case measure => first | (simp [intOf]; done) | (simp [intOf]; omega)
        · have g3 : ((kb : Int) == 0) = false := by simp; omega
          have g4 : (kb == 0) = false := by simp [hk0]
          rw [if_neg hk0] at hsd
          subst hsd
          clear hk0
          go_wp2_with (first | (refine wpl_loadw rfl 36 (.tmp 3) rfl rfl K2.out agg_apisum HK.out ?_))
          refine (hrb.out _).mono ?_
          rintro e w3 ⟨rfl, e3⟩
          have K3 := hid (K2.out.ext e3)
          have S3 := hid (S2.out.ext e3)
          have P3 := hid (P2.out.ext e3)
          have Z3 := hid (Z2.out.ext e3)
          have E3 := hid (E2.out.ext e3)
          have B3 := hid (B2.out.ext e3)
          clear e3 K2 S2 P2 Z2 E2 B2
          go_wp2_with (first | (refine wpl_loadw rfl 36 (.tmp 4) rfl rfl S3.out agg_apisum HQV.out ?_) | (refine wpl_loadw rfl 36 (.tmp 10) rfl rfl B3.out agg_apisum HYV.out ?_))
          refine (hn2.out _).mono ?_
          rintro e w5 ⟨rfl, e5⟩
          have K5 := hid (K3.out.ext e5)
          have S5 := hid (S3.out.ext e5)
          have P5 := hid (P3.out.ext e5)
          have Z5 := hid (Z3.out.ext e5)
          have E5 := hid (E3.out.ext e5)
          clear e5 K3 S3 P3 Z3 E3 B3
          go_wp2_with (first | (refine wpl_storew rfl _ (.tmp 4) _ rfl rfl rfl S5.out agg_apisum HQV.out HSDV.out osd ?_))
          intro w6 b6 u6
          have K6 := hid (K5.out.upd u6 (by omega))
          have P6 := hid (P5.out.upd u6 (by omega))
          have Z6 := hid (Z5.out.upd u6 (by omega))
          have E6 := hid (u6.ext E5.out (by omega))
          have S6 := hid b6
          clear b6 u6 K5 S5 P5 Z5 E5
          go_wp2
          go_roundw
          case rel => exact ⟨i, (i : Int) - 1, _, by omega, by omega, by first | rfl | go_num, by first | rfl | go_num | (congr 1; omega), HSD.out, HUP.out, K6.out, S6.out, P6.out, Z6.out, E6.out⟩
          case measure => first | (simp [intOf]; done) | (simp [intOf]; omega)
end

section
open Go Go.RowKit

theorem zero32_len : zero32.length = 32 := by simp [zero32]
def thereE (root k v lv : List UInt8) (ls : List (List UInt8)) : Int :=
  if v == zero32 then 2 else if ls.length ≠ cntL lv 256 then 12 else if upL lv k ls (depL lv 256) (mleafL k v) == root then 0 else 12

set_option maxRecDepth 100000 in
set_option maxHeartbeats 2000000 in
theorem there_c (root k v lv : List UInt8) (ls : List (List UInt8)) (a : Option Addr) (n c : Nat) (w : World) (hr : root.length = 32) (hk : k.length = 32) (hv : v.length = 32) (hlv : lv.length = 32) (hn : ls.length = n) (hn63 : n ≤ 9223372036854775807) (h32 : All32 ls) (hcl : Cells w a (rows ls)) :
    Calls Try.prog 27 #[.agg (root.map u8v).toArray, .agg (k.map u8v).toArray, .agg (v.map u8v).toArray, .agg (mpL lv (.slice a n c)).toArray] w fun e w' => e = .returned (.int .i64 (thereE root k v lv ls)) ∧ Ext w w' := by
  have HR := hid (show (root.map u8v).length = 32 by rw [List.length_map, hr])
  have HK := hid (show (k.map u8v).length = 32 by rw [List.length_map, hk])
  have HV := hid (show (v.map u8v).length = 32 by rw [List.length_map, hv])
  have HL33 := hid (mpL_length hlv (.slice a n c))
  have HLE : Hid (0 + 32 ≤ (mpL lv (.slice a n c)).length) := hid (by rw [mpL_length hlv]; omega)
  have HLV := hid (mpL_lev hlv (.slice a n c))
  have HAT := hid (mpL_at hlv (.slice a n c))
  have HC := hid hcl
  have HEZ := hid (fun w => eq_arr Try.underlying36 v zero32 hv zero32_len w)
  have hlf := hid (fun w' => single_c k v w' hk hv)
  have hlfl := mleafL_length k v
  have hup := hid (fun w' hcnt h => up_c lv k (mleafL k v) ls a n c w' hlv hk hlfl hn hcnt h32 h)
  have hupl := upL_length (lv := lv) (k := k) (ls := ls) (depL lv 256) (mleafL k v) hlfl
  have HNE := hid (fun w => neq_arr Try.underlying36 (upL lv k ls (depL lv 256) (mleafL k v)) root hupl hr w)
  have hmk := hid (fun w' => marked_c lv w' hlv)
  have hc256 := cntL_le lv 256
  obtain ⟨E, hE⟩ : ∃ E, thereE root k v lv ls = E := ⟨_, rfl⟩
  rw [hE]
  unfold thereE at hE
  rw [hn] at hE
  generalize depL lv 256 = D at *
  generalize cntL lv 256 = M at *
  generalize upL lv k ls D (mleafL k v) = u at *
  generalize mleafL k v = lf at *
  generalize hvs : mpL lv (.slice a n c) = vs at *
  clear hr hk hv hlv hn h32 hcl hvs hlfl hupl
  go_enter Try.func27, Try.ntmps27
  go_upto_region 1 with (fail)
  generalize hwA : World.alloc (World.alloc (World.alloc (World.alloc w _) _) _) _ = wA
  have rA : Blk wA w.heap.size (root.map u8v) 36 := by rw [← hwA]; exact (((Blk.mk_alloc rfl rfl).alloc _).alloc _).alloc _
  have kA : Blk wA (w.heap.size + 1) (k.map u8v) 36 := by rw [← hwA]; exact ((Blk.mk_alloc (by simp) rfl).alloc _).alloc _
  have vA : Blk wA (w.heap.size + 2) (v.map u8v) 36 := by rw [← hwA]; exact (Blk.mk_alloc (by simp) rfl).alloc _
  have pA : Blk wA (w.heap.size + 3) vs 50 := by rw [← hwA]; exact Blk.mk_alloc (by simp) rfl
  have eA : Ext w wA := by rw [← hwA]; exact ((((Ext.refl w).alloc _).alloc _).alloc _).alloc _
  clear hwA
  have RA := hid rA
  have KA := hid kA
  have VA := hid vA
  have PA := hid pA
  have EA := hid eA
  clear rA kA vA pA eA
  cases hvz : (v == zero32) with
  | true =>
    rw [hvz, if_pos rfl] at hE
    rw [hvz] at HEZ
    subst hE
    go_wp2_with (first | (refine wpl_loadw rfl 36 (.tmp 6) rfl rfl VA.out agg_apisum HV.out ?_) | (refine wpg_cmp rfl .eql _ _ _ _ rfl rfl rfl guard_sum HEZ.out ?_))
    go_ret
    exact ⟨rfl, EA.out⟩
  | false =>
    rw [hvz, if_neg (by decide)] at hE
    rw [hvz] at HEZ
    clear hvz
    go_wp2_with (first | (refine wpl_loadw rfl 36 (.tmp 6) rfl rfl VA.out agg_apisum HV.out ?_) | (refine wpg_cmp rfl .eql _ _ _ _ rfl rfl rfl guard_sum HEZ.out ?_) | (refine wpl_loadp rfl 35 _ rfl rfl PA.out agg_lev HLE.out HLV.out ?_))
    refine (hmk.out _).mono ?_
    rintro e wB ⟨rfl, eB⟩
    have RB := hid (RA.out.ext eB)
    have KB := hid (KA.out.ext eB)
    have VB := hid (VA.out.ext eB)
    have PB := hid (PA.out.ext eB)
    have EB := hid (EA.out.ext eB)
    clear eB RA KA VA PA EA hmk HEZ
    go_wp2
    obtain ⟨C, hC⟩ : ∃ C : World → Prop, C = Cls w wB [w.heap.size, w.heap.size + 1, w.heap.size + 2, w.heap.size + 3] [] := ⟨_, rfl⟩
    have hC0 : ∀ w', C w' ↔ Cls w wB [w.heap.size, w.heap.size + 1, w.heap.size + 2, w.heap.size + 3] [] w' := fun w' => by rw [hC]
    clear hC
    have HCC := hid hC0
    clear hC0
    have hCx : ∀ w w', C w → Ext w w' → C w' := fun w w' h1 h2 => (HCC.out w').2 (((HCC.out w).1 h1).ext h2)
    have hCA : C wB := (HCC.out _).2 (Cls.no_room EB.out (Kept.four RB.out.lt KB.out.lt VB.out.lt PB.out.lt))
    have e32 : ∀ w1, C w1 → w1.cell? ⟨w.heap.size + 3, 32, none⟩ = some (.slice a n c) := fun w1 h1 => (((HCC.out w1).1 h1).blk PB.out (by simp)).cell' HAT.out
    by_cases hnm : n = M
    · subst hnm
      rw [if_neg (by omega)] at hE
      have g1 : ((n : Int) != (n : Int)) = false := by simp
      have g2 : (n != n) = false := by simp
      refine wp_region_held_drew (S := C) (by kernel_rfl) (hCx _ _ hCA (Ext.refl _).drew) (fun hS0 => ?_)
      refine held_take 0 (v := ?tv1) rfl (by kernel_rfl) (by kernel_rfl) (by kernel_rfl) (fun _ _ _ h => h) (.inl ⟨rfl, ?ty1⟩) hS0 ?tr1
      case ty1 => (intro _ _; go_simp; try with_reducible rfl)
      case tr1 =>
      simp only [Act.put, List.setIfInBounds_toArray, List.set_cons_succ, List.set_cons_zero]
      refine held_take 1 (v := ?tv2) rfl (by kernel_rfl) (by kernel_rfl) (by kernel_rfl) (fun _ _ _ h => h) (.inl ⟨rfl, ?ty2⟩) hS0 ?tr2
      case ty2 => (intro wq hwq; have hcq := (e32) wq hwq; go_simp; try with_reducible rfl)
      case tr2 =>
      simp only [Act.put, List.setIfInBounds_toArray, List.set_cons_succ, List.set_cons_zero]
      refine held_take 2 (v := ?tv3) rfl (by kernel_rfl) (by kernel_rfl) (by kernel_rfl) (fun _ _ _ h => h) (.inl ⟨rfl, ?ty3⟩) hS0 ?tr3
      case ty3 => (intro _ _; go_simp; try with_reducible rfl)
      case tr3 =>
      simp only [Act.put, List.setIfInBounds_toArray, List.set_cons_succ, List.set_cons_zero]
      refine held_take 3 (v := ?tv4) rfl (by kernel_rfl) (by kernel_rfl) (by kernel_rfl) (fun _ _ _ h => h) (.inl ⟨rfl, ?ty4⟩) hS0 ?tr4
      case ty4 => (intro _ _; go_simp; try with_reducible rfl)
      case tr4 =>
      simp only [Act.put, List.setIfInBounds_toArray, List.set_cons_succ, List.set_cons_zero]
      refine held_take 4 (v := ?tv5) rfl (by kernel_rfl) (by kernel_rfl) (by kernel_rfl) (fun _ _ _ h => h) (.inl ⟨rfl, ?ty5⟩) hS0 ?tr5
      case ty5 => (intro _ _; go_simp; try with_reducible rfl)
      case tr5 =>
      simp only [Act.put, List.setIfInBounds_toArray, List.set_cons_succ, List.set_cons_zero]
      refine held_take 5 (v := ?tv6) rfl (by kernel_rfl) (by kernel_rfl) (by kernel_rfl) (fun _ _ _ h => h) (.inl ⟨rfl, ?ty6⟩) hS0 ?tr6
      case ty6 => (intro _ _; go_simp; try with_reducible rfl)
      case tr6 =>
      simp only [Act.put, List.setIfInBounds_toArray, List.set_cons_succ, List.set_cons_zero]
      refine held_take 6 (v := _) rfl (by kernel_rfl) (by kernel_rfl) (by kernel_rfl) (fun _ _ _ h => h) (yieldsI_loadw rfl 36 _ rfl rfl (fun w1 h => ((HCC.out w1).1 h).blk KB.out (by simp)) agg_apisum HK.out) hS0 ?_
      simp only [Act.put, List.setIfInBounds_toArray, List.set_cons_succ, List.set_cons_zero]
      refine held_take 7 (v := _) rfl (by kernel_rfl) (by kernel_rfl) (by kernel_rfl) (fun _ _ _ h => h) (yieldsI_loadw rfl 36 _ rfl rfl (fun w1 h => ((HCC.out w1).1 h).blk KB.out (by simp)) agg_apisum HK.out) hS0 ?_
      simp only [Act.put, List.setIfInBounds_toArray, List.set_cons_succ, List.set_cons_zero]
      refine held_take 8 (v := _) rfl (by kernel_rfl) (by kernel_rfl) (by kernel_rfl) (fun _ _ _ h => h) (yieldsI_loadw rfl 36 _ rfl rfl (fun w1 h => ((HCC.out w1).1 h).blk VB.out (by simp)) agg_apisum HV.out) hS0 ?_
      simp only [Act.put, List.setIfInBounds_toArray, List.set_cons_succ, List.set_cons_zero]
      refine held_take 10 (v := _) rfl (by kernel_rfl) (by kernel_rfl) (by kernel_rfl) (fun _ _ _ h => h) (yieldsI_loadw rfl 50 _ rfl rfl (fun w1 h => ((HCC.out w1).1 h).blk PB.out (by simp)) agg_mproof HL33.out) hS0 ?_
      simp only [Act.put, List.setIfInBounds_toArray, List.set_cons_succ, List.set_cons_zero]
      refine held_take 12 (v := _) rfl (by kernel_rfl) (by kernel_rfl) (by kernel_rfl) (fun _ _ _ h => h) (yieldsI_loadw rfl 36 _ rfl rfl (fun w1 h => ((HCC.out w1).1 h).blk RB.out (by simp)) agg_apisum HR.out) hS0 ?_
      simp only [Act.put, List.setIfInBounds_toArray, List.set_cons_succ, List.set_cons_zero]
      generalize wB.drew = wD at *
      refine held_one (i := 9) (by kernel_rfl) rfl ?_
      intro Q' hQ
      go_wp2_with fail
      refine (hlf.out wD).mono ?_
      rintro e w1 ⟨rfl, e1⟩
      have hC1 := hCx _ _ hS0 e1
      go_wp2_with fail
      refine hQ _ _ hC1 ?_
      clear hQ Q' hS0 e1
      try dsimp only
      try simp only [Act.put, List.setIfInBounds_toArray, List.set_cons_succ, List.set_cons_zero]
      refine held_one (i := 11) (by kernel_rfl) rfl ?_
      intro Q' hQ
      go_wp2_with fail
      refine (hup.out w1 (by omega) (HC.out.ext ((HCC.out w1).1 hC1).base)).mono ?_
      rintro e w2 ⟨rfl, e2⟩
      have hS0 := hCx _ _ hC1 e2
      go_wp2_with fail
      refine hQ _ _ hS0 ?_
      clear hQ Q' hC1 e2
      try dsimp only
      try simp only [Act.put, List.setIfInBounds_toArray, List.set_cons_succ, List.set_cons_zero]
      refine held_take 13 (v := _) rfl (by kernel_rfl) (by kernel_rfl) (by kernel_rfl) (fun _ _ _ h => h) (yieldsI_run rfl (fun w1 _ => exec_cmp rfl rfl rfl guard_sum HNE.out w1)) hS0 ?_
      simp only [Act.put, List.setIfInBounds_toArray, List.set_cons_succ, List.set_cons_zero]
      refine held_take 14 (v := ?tv7) rfl (by kernel_rfl) (by kernel_rfl) (by kernel_rfl) (fun _ _ _ h => h) (.inl ⟨rfl, ?ty7⟩) hS0 ?tr7
      case ty7 => (intro _ _; go_simp; try with_reducible rfl)
      case tr7 =>
      simp only [Act.put, List.setIfInBounds_toArray, List.set_cons_succ, List.set_cons_zero]
      refine wpAnyH_done (by kernel_rfl) ?_ _
      have E2 := hid ((HCC.out w2).1 hS0).base
      clear hS0 hCx hCA HCC e32
      cases hur : (u == root) with
      | true =>
        rw [hur, if_pos rfl] at hE
        subst hE
        go_wp2
        go_ret
        exact ⟨rfl, E2.out⟩
      | false =>
        rw [hur, if_neg (by decide)] at hE
        subst hE
        go_wp2
        go_ret
        exact ⟨rfl, E2.out⟩
    · rw [if_pos hnm] at hE
      subst hE
      have g1 : ((n : Int) != (M : Int)) = true := by simp; omega
      have g2 : (n != M) = true := by simp [hnm]
      have g3 : ((M : Int) != (n : Int)) = true := by simp; omega
      have g4 : (M != n) = true := by simp; omega
      refine wp_region_held_drew (S := C) (by kernel_rfl) (hCx _ _ hCA (Ext.refl _).drew) (fun hS0 => ?_)
      refine held_take 0 (v := ?tv8) rfl (by kernel_rfl) (by kernel_rfl) (by kernel_rfl) (fun _ _ _ h => h) (.inl ⟨rfl, ?ty8⟩) hS0 ?tr8
      case ty8 => (intro _ _; go_simp; try with_reducible rfl)
      case tr8 =>
      simp only [Act.put, List.setIfInBounds_toArray, List.set_cons_succ, List.set_cons_zero]
      refine held_take 1 (v := ?tv9) rfl (by kernel_rfl) (by kernel_rfl) (by kernel_rfl) (fun _ _ _ h => h) (.inl ⟨rfl, ?ty9⟩) hS0 ?tr9
      case ty9 => (intro wq hwq; have hcq := (e32) wq hwq; go_simp; try with_reducible rfl)
      case tr9 =>
      simp only [Act.put, List.setIfInBounds_toArray, List.set_cons_succ, List.set_cons_zero]
      refine held_take 2 (v := ?tv10) rfl (by kernel_rfl) (by kernel_rfl) (by kernel_rfl) (fun _ _ _ h => h) (.inl ⟨rfl, ?ty10⟩) hS0 ?tr10
      case ty10 => (intro _ _; go_simp; try with_reducible rfl)
      case tr10 =>
      simp only [Act.put, List.setIfInBounds_toArray, List.set_cons_succ, List.set_cons_zero]
      refine held_take 3 (v := ?tv11) rfl (by kernel_rfl) (by kernel_rfl) (by kernel_rfl) (fun _ _ _ h => h) (.inl ⟨rfl, ?ty11⟩) hS0 ?tr11
      case ty11 => (intro _ _; go_simp; try with_reducible rfl)
      case tr11 =>
      simp only [Act.put, List.setIfInBounds_toArray, List.set_cons_succ, List.set_cons_zero]
      refine held_take 4 (v := ?tv12) rfl (by kernel_rfl) (by kernel_rfl) (by kernel_rfl) (fun _ _ _ h => h) (.inl ⟨rfl, ?ty12⟩) hS0 ?tr12
      case ty12 => (intro _ _; go_simp; try with_reducible rfl)
      case tr12 =>
      simp only [Act.put, List.setIfInBounds_toArray, List.set_cons_succ, List.set_cons_zero]
      refine held_take 5 (v := ?tv13) rfl (by kernel_rfl) (by kernel_rfl) (by kernel_rfl) (fun _ _ _ h => h) (.inl ⟨rfl, ?ty13⟩) hS0 ?tr13
      case ty13 => (intro _ _; go_simp; try with_reducible rfl)
      case tr13 =>
      simp only [Act.put, List.setIfInBounds_toArray, List.set_cons_succ, List.set_cons_zero]
      refine held_take 6 (v := undef) rfl (by kernel_rfl) (by kernel_rfl) (by kernel_rfl) (fun _ _ _ h => h) (.inr ⟨rfl, rfl⟩) hS0 ?_
      simp only [Act.put, List.setIfInBounds_toArray, List.set_cons_succ, List.set_cons_zero]
      refine held_take 7 (v := undef) rfl (by kernel_rfl) (by kernel_rfl) (by kernel_rfl) (fun _ _ _ h => h) (.inr ⟨rfl, rfl⟩) hS0 ?_
      simp only [Act.put, List.setIfInBounds_toArray, List.set_cons_succ, List.set_cons_zero]
      refine held_take 8 (v := undef) rfl (by kernel_rfl) (by kernel_rfl) (by kernel_rfl) (fun _ _ _ h => h) (.inr ⟨rfl, rfl⟩) hS0 ?_
      simp only [Act.put, List.setIfInBounds_toArray, List.set_cons_succ, List.set_cons_zero]
      refine held_take 9 (v := undef) rfl (by kernel_rfl) (by kernel_rfl) (by kernel_rfl) (fun _ _ _ h => h) (.inr ⟨rfl, rfl⟩) hS0 ?_
      simp only [Act.put, List.setIfInBounds_toArray, List.set_cons_succ, List.set_cons_zero]
      refine held_take 10 (v := undef) rfl (by kernel_rfl) (by kernel_rfl) (by kernel_rfl) (fun _ _ _ h => h) (.inr ⟨rfl, rfl⟩) hS0 ?_
      simp only [Act.put, List.setIfInBounds_toArray, List.set_cons_succ, List.set_cons_zero]
      refine held_take 11 (v := undef) rfl (by kernel_rfl) (by kernel_rfl) (by kernel_rfl) (fun _ _ _ h => h) (.inr ⟨rfl, rfl⟩) hS0 ?_
      simp only [Act.put, List.setIfInBounds_toArray, List.set_cons_succ, List.set_cons_zero]
      refine held_take 12 (v := undef) rfl (by kernel_rfl) (by kernel_rfl) (by kernel_rfl) (fun _ _ _ h => h) (.inr ⟨rfl, rfl⟩) hS0 ?_
      simp only [Act.put, List.setIfInBounds_toArray, List.set_cons_succ, List.set_cons_zero]
      refine held_take 13 (v := undef) rfl (by kernel_rfl) (by kernel_rfl) (by kernel_rfl) (fun _ _ _ h => h) (.inr ⟨rfl, rfl⟩) hS0 ?_
      simp only [Act.put, List.setIfInBounds_toArray, List.set_cons_succ, List.set_cons_zero]
      refine held_take 14 (v := ?tv14) rfl (by kernel_rfl) (by kernel_rfl) (by kernel_rfl) (fun _ _ _ h => h) (.inl ⟨rfl, ?ty14⟩) hS0 ?tr14
      case ty14 => (intro _ _; go_simp; try with_reducible rfl)
      case tr14 =>
      simp only [Act.put, List.setIfInBounds_toArray, List.set_cons_succ, List.set_cons_zero]
      refine wpAnyH_done (by kernel_rfl) ?_ _
      have E2 := hid ((HCC.out _).1 hS0).base
      go_wp2
      go_ret
      exact ⟨rfl, E2.out⟩
end

section
open Go Go.RowKit

set_option maxRecDepth 100000 in
set_option maxHeartbeats 2000000 in
theorem rthere_c (root k v lv : List UInt8) (ls : List (List UInt8)) (a : Option Addr) (n c : Nat) (w : World) (hr : root.length = 32) (hk : k.length = 32) (hv : v.length = 32) (hlv : lv.length = 32) (hn : ls.length = n) (hn63 : n ≤ 9223372036854775807) (h32 : All32 ls) (hcl : Cells w a (rows ls)) :
    Calls Try.prog 28 #[.agg (root.map u8v).toArray, .agg (k.map u8v).toArray, .agg (v.map u8v).toArray, .agg (mpL lv (.slice a n c)).toArray] w fun e w' => e = .returned (.int .i64 (thereE root k v lv ls)) ∧ Ext w w' := by
  have HR := hid (show (root.map u8v).length = 32 by rw [List.length_map, hr])
  have HK := hid (show (k.map u8v).length = 32 by rw [List.length_map, hk])
  have HV := hid (show (v.map u8v).length = 32 by rw [List.length_map, hv])
  have HL33 := hid (mpL_length hlv (.slice a n c))
  have HLE : Hid (0 + 32 ≤ (mpL lv (.slice a n c)).length) := hid (by rw [mpL_length hlv]; omega)
  have HLV := hid (mpL_lev hlv (.slice a n c))
  have HAT := hid (mpL_at hlv (.slice a n c))
  have HC := hid hcl
  have HEZ := hid (fun w => eq_arr Try.underlying36 v zero32 hv zero32_len w)
  have hlf := hid (fun w' => rleafOf_c k v w' hk hv)
  have hlfl := mleafL_length k v
  have hup := hid (fun w' hcnt h => rup_c lv k (mleafL k v) ls a n c w' hlv hk hlfl hn hcnt h32 h)
  have hupl := upL_length (lv := lv) (k := k) (ls := ls) (depL lv 256) (mleafL k v) hlfl
  have HNE := hid (fun w => neq_arr Try.underlying36 (upL lv k ls (depL lv 256) (mleafL k v)) root hupl hr w)
  have hmk := hid (fun w' => depth_c lv (.slice a n c) w' hlv)
  have hc256 := cntL_le lv 256
  obtain ⟨E, hE⟩ : ∃ E, thereE root k v lv ls = E := ⟨_, rfl⟩
  rw [hE]
  unfold thereE at hE
  rw [hn] at hE
  generalize depL lv 256 = D at *
  generalize cntL lv 256 = M at *
  generalize upL lv k ls D (mleafL k v) = u at *
  generalize mleafL k v = lf at *
  generalize hvs : mpL lv (.slice a n c) = vs at *
  clear hr hk hv hlv hn h32 hcl hvs hlfl hupl
  go_enter Try.func28, Try.ntmps28
  go_upto_region 1 with (fail)
  generalize hwA : World.alloc (World.alloc (World.alloc (World.alloc w _) _) _) _ = wA
  have rA : Blk wA w.heap.size (root.map u8v) 36 := by rw [← hwA]; exact (((Blk.mk_alloc rfl rfl).alloc _).alloc _).alloc _
  have kA : Blk wA (w.heap.size + 1) (k.map u8v) 36 := by rw [← hwA]; exact ((Blk.mk_alloc (by simp) rfl).alloc _).alloc _
  have vA : Blk wA (w.heap.size + 2) (v.map u8v) 36 := by rw [← hwA]; exact (Blk.mk_alloc (by simp) rfl).alloc _
  have pA : Blk wA (w.heap.size + 3) vs 50 := by rw [← hwA]; exact Blk.mk_alloc (by simp) rfl
  have eA : Ext w wA := by rw [← hwA]; exact ((((Ext.refl w).alloc _).alloc _).alloc _).alloc _
  clear hwA
  have RA := hid rA
  have KA := hid kA
  have VA := hid vA
  have PA := hid pA
  have EA := hid eA
  clear rA kA vA pA eA
  cases hvz : (v == zero32) with
  | true =>
    rw [hvz, if_pos rfl] at hE
    rw [hvz] at HEZ
    subst hE
    go_wp2_with (first | (refine wpl_loadw rfl 36 (.tmp 6) rfl rfl VA.out agg_apisum HV.out ?_) | (refine wpg_cmp rfl .eql _ _ _ _ rfl rfl rfl guard_sum HEZ.out ?_))
    go_ret
    exact ⟨rfl, EA.out⟩
  | false =>
    rw [hvz, if_neg (by decide)] at hE
    rw [hvz] at HEZ
    clear hvz
    go_wp2_with (first | (refine wpl_loadw rfl 36 (.tmp 6) rfl rfl VA.out agg_apisum HV.out ?_) | (refine wpg_cmp rfl .eql _ _ _ _ rfl rfl rfl guard_sum HEZ.out ?_) | (refine wpl_loadw rfl 50 (.tmp 7) rfl rfl PA.out agg_mproof HL33.out ?_))
    refine (hmk.out _).mono ?_
    rintro e wB ⟨rfl, eB⟩
    have RB := hid (RA.out.ext eB)
    have KB := hid (KA.out.ext eB)
    have VB := hid (VA.out.ext eB)
    have PB := hid (PA.out.ext eB)
    have EB := hid (EA.out.ext eB)
    clear eB RA KA VA PA EA hmk HEZ
    go_wp2
    obtain ⟨C, hC⟩ : ∃ C : World → Prop, C = Cls w wB [w.heap.size, w.heap.size + 1, w.heap.size + 2, w.heap.size + 3] [] := ⟨_, rfl⟩
    have hC0 : ∀ w', C w' ↔ Cls w wB [w.heap.size, w.heap.size + 1, w.heap.size + 2, w.heap.size + 3] [] w' := fun w' => by rw [hC]
    clear hC
    have HCC := hid hC0
    clear hC0
    have hCx : ∀ w w', C w → Ext w w' → C w' := fun w w' h1 h2 => (HCC.out w').2 (((HCC.out w).1 h1).ext h2)
    have hCA : C wB := (HCC.out _).2 (Cls.no_room EB.out (Kept.four RB.out.lt KB.out.lt VB.out.lt PB.out.lt))
    have e32 : ∀ w1, C w1 → w1.cell? ⟨w.heap.size + 3, 32, none⟩ = some (.slice a n c) := fun w1 h1 => (((HCC.out w1).1 h1).blk PB.out (by simp)).cell' HAT.out
    by_cases hnm : n = M
    · subst hnm
      rw [if_neg (by omega)] at hE
      have g1 : ((n : Int) != (n : Int)) = false := by simp
      have g2 : (n != n) = false := by simp
      refine wp_region_held_drew (S := C) (by kernel_rfl) (hCx _ _ hCA (Ext.refl _).drew) (fun hS0 => ?_)
      refine held_take 0 (v := ?tv1) rfl (by kernel_rfl) (by kernel_rfl) (by kernel_rfl) (fun _ _ _ h => h) (.inl ⟨rfl, ?ty1⟩) hS0 ?tr1
      case ty1 => (intro _ _; go_simp; try with_reducible rfl)
      case tr1 =>
      simp only [Act.put, List.setIfInBounds_toArray, List.set_cons_succ, List.set_cons_zero]
      refine held_take 1 (v := ?tv2) rfl (by kernel_rfl) (by kernel_rfl) (by kernel_rfl) (fun _ _ _ h => h) (.inl ⟨rfl, ?ty2⟩) hS0 ?tr2
      case ty2 => (intro _ _; go_simp; try with_reducible rfl)
      case tr2 =>
      simp only [Act.put, List.setIfInBounds_toArray, List.set_cons_succ, List.set_cons_zero]
      refine held_take 2 (v := ?tv3) rfl (by kernel_rfl) (by kernel_rfl) (by kernel_rfl) (fun _ _ _ h => h) (.inl ⟨rfl, ?ty3⟩) hS0 ?tr3
      case ty3 => (intro wq hwq; have hcq := (e32) wq hwq; go_simp; try with_reducible rfl)
      case tr3 =>
      simp only [Act.put, List.setIfInBounds_toArray, List.set_cons_succ, List.set_cons_zero]
      refine held_take 3 (v := ?tv4) rfl (by kernel_rfl) (by kernel_rfl) (by kernel_rfl) (fun _ _ _ h => h) (.inl ⟨rfl, ?ty4⟩) hS0 ?tr4
      case ty4 => (intro _ _; go_simp; try with_reducible rfl)
      case tr4 =>
      simp only [Act.put, List.setIfInBounds_toArray, List.set_cons_succ, List.set_cons_zero]
      refine held_take 4 (v := ?tv5) rfl (by kernel_rfl) (by kernel_rfl) (by kernel_rfl) (fun _ _ _ h => h) (.inl ⟨rfl, ?ty5⟩) hS0 ?tr5
      case ty5 => (intro _ _; go_simp; try with_reducible rfl)
      case tr5 =>
      simp only [Act.put, List.setIfInBounds_toArray, List.set_cons_succ, List.set_cons_zero]
      refine held_take 5 (v := ?tv6) rfl (by kernel_rfl) (by kernel_rfl) (by kernel_rfl) (fun _ _ _ h => h) (.inl ⟨rfl, ?ty6⟩) hS0 ?tr6
      case ty6 => (intro _ _; go_simp; try with_reducible rfl)
      case tr6 =>
      simp only [Act.put, List.setIfInBounds_toArray, List.set_cons_succ, List.set_cons_zero]
      refine held_take 6 (v := _) rfl (by kernel_rfl) (by kernel_rfl) (by kernel_rfl) (fun _ _ _ h => h) (yieldsI_loadw rfl 36 _ rfl rfl (fun w1 h => ((HCC.out w1).1 h).blk KB.out (by simp)) agg_apisum HK.out) hS0 ?_
      simp only [Act.put, List.setIfInBounds_toArray, List.set_cons_succ, List.set_cons_zero]
      refine held_take 7 (v := _) rfl (by kernel_rfl) (by kernel_rfl) (by kernel_rfl) (fun _ _ _ h => h) (yieldsI_loadw rfl 36 _ rfl rfl (fun w1 h => ((HCC.out w1).1 h).blk KB.out (by simp)) agg_apisum HK.out) hS0 ?_
      simp only [Act.put, List.setIfInBounds_toArray, List.set_cons_succ, List.set_cons_zero]
      refine held_take 8 (v := _) rfl (by kernel_rfl) (by kernel_rfl) (by kernel_rfl) (fun _ _ _ h => h) (yieldsI_loadw rfl 36 _ rfl rfl (fun w1 h => ((HCC.out w1).1 h).blk VB.out (by simp)) agg_apisum HV.out) hS0 ?_
      simp only [Act.put, List.setIfInBounds_toArray, List.set_cons_succ, List.set_cons_zero]
      refine held_take 10 (v := _) rfl (by kernel_rfl) (by kernel_rfl) (by kernel_rfl) (fun _ _ _ h => h) (yieldsI_loadw rfl 50 _ rfl rfl (fun w1 h => ((HCC.out w1).1 h).blk PB.out (by simp)) agg_mproof HL33.out) hS0 ?_
      simp only [Act.put, List.setIfInBounds_toArray, List.set_cons_succ, List.set_cons_zero]
      refine held_take 12 (v := _) rfl (by kernel_rfl) (by kernel_rfl) (by kernel_rfl) (fun _ _ _ h => h) (yieldsI_loadw rfl 36 _ rfl rfl (fun w1 h => ((HCC.out w1).1 h).blk RB.out (by simp)) agg_apisum HR.out) hS0 ?_
      simp only [Act.put, List.setIfInBounds_toArray, List.set_cons_succ, List.set_cons_zero]
      generalize wB.drew = wD at *
      refine held_one (i := 9) (by kernel_rfl) rfl ?_
      intro Q' hQ
      go_wp2_with fail
      refine (hlf.out wD).mono ?_
      rintro e w1 ⟨rfl, e1⟩
      have hC1 := hCx _ _ hS0 e1
      go_wp2_with fail
      refine hQ _ _ hC1 ?_
      clear hQ Q' hS0 e1
      try dsimp only
      try simp only [Act.put, List.setIfInBounds_toArray, List.set_cons_succ, List.set_cons_zero]
      refine held_one (i := 11) (by kernel_rfl) rfl ?_
      intro Q' hQ
      go_wp2_with fail
      refine (hup.out w1 (by omega) (HC.out.ext ((HCC.out w1).1 hC1).base)).mono ?_
      rintro e w2 ⟨rfl, e2⟩
      have hS0 := hCx _ _ hC1 e2
      go_wp2_with fail
      refine hQ _ _ hS0 ?_
      clear hQ Q' hC1 e2
      try dsimp only
      try simp only [Act.put, List.setIfInBounds_toArray, List.set_cons_succ, List.set_cons_zero]
      refine held_take 13 (v := _) rfl (by kernel_rfl) (by kernel_rfl) (by kernel_rfl) (fun _ _ _ h => h) (yieldsI_run rfl (fun w1 _ => exec_cmp rfl rfl rfl guard_sum HNE.out w1)) hS0 ?_
      simp only [Act.put, List.setIfInBounds_toArray, List.set_cons_succ, List.set_cons_zero]
      refine held_take 14 (v := ?tv7) rfl (by kernel_rfl) (by kernel_rfl) (by kernel_rfl) (fun _ _ _ h => h) (.inl ⟨rfl, ?ty7⟩) hS0 ?tr7
      case ty7 => (intro _ _; go_simp; try with_reducible rfl)
      case tr7 =>
      simp only [Act.put, List.setIfInBounds_toArray, List.set_cons_succ, List.set_cons_zero]
      refine wpAnyH_done (by kernel_rfl) ?_ _
      have E2 := hid ((HCC.out w2).1 hS0).base
      clear hS0 hCx hCA HCC e32
      cases hur : (u == root) with
      | true =>
        rw [hur, if_pos rfl] at hE
        subst hE
        go_wp2
        go_ret
        exact ⟨rfl, E2.out⟩
      | false =>
        rw [hur, if_neg (by decide)] at hE
        subst hE
        go_wp2
        go_ret
        exact ⟨rfl, E2.out⟩
    · rw [if_pos hnm] at hE
      subst hE
      have g1 : ((n : Int) != (M : Int)) = true := by simp; omega
      have g2 : (n != M) = true := by simp [hnm]
      have g3 : ((M : Int) != (n : Int)) = true := by simp; omega
      have g4 : (M != n) = true := by simp; omega
      refine wp_region_held_drew (S := C) (by kernel_rfl) (hCx _ _ hCA (Ext.refl _).drew) (fun hS0 => ?_)
      refine held_take 0 (v := ?tv8) rfl (by kernel_rfl) (by kernel_rfl) (by kernel_rfl) (fun _ _ _ h => h) (.inl ⟨rfl, ?ty8⟩) hS0 ?tr8
      case ty8 => (intro _ _; go_simp; try with_reducible rfl)
      case tr8 =>
      simp only [Act.put, List.setIfInBounds_toArray, List.set_cons_succ, List.set_cons_zero]
      refine held_take 1 (v := ?tv9) rfl (by kernel_rfl) (by kernel_rfl) (by kernel_rfl) (fun _ _ _ h => h) (.inl ⟨rfl, ?ty9⟩) hS0 ?tr9
      case ty9 => (intro _ _; go_simp; try with_reducible rfl)
      case tr9 =>
      simp only [Act.put, List.setIfInBounds_toArray, List.set_cons_succ, List.set_cons_zero]
      refine held_take 2 (v := ?tv10) rfl (by kernel_rfl) (by kernel_rfl) (by kernel_rfl) (fun _ _ _ h => h) (.inl ⟨rfl, ?ty10⟩) hS0 ?tr10
      case ty10 => (intro wq hwq; have hcq := (e32) wq hwq; go_simp; try with_reducible rfl)
      case tr10 =>
      simp only [Act.put, List.setIfInBounds_toArray, List.set_cons_succ, List.set_cons_zero]
      refine held_take 3 (v := ?tv11) rfl (by kernel_rfl) (by kernel_rfl) (by kernel_rfl) (fun _ _ _ h => h) (.inl ⟨rfl, ?ty11⟩) hS0 ?tr11
      case ty11 => (intro _ _; go_simp; try with_reducible rfl)
      case tr11 =>
      simp only [Act.put, List.setIfInBounds_toArray, List.set_cons_succ, List.set_cons_zero]
      refine held_take 4 (v := ?tv12) rfl (by kernel_rfl) (by kernel_rfl) (by kernel_rfl) (fun _ _ _ h => h) (.inl ⟨rfl, ?ty12⟩) hS0 ?tr12
      case ty12 => (intro _ _; go_simp; try with_reducible rfl)
      case tr12 =>
      simp only [Act.put, List.setIfInBounds_toArray, List.set_cons_succ, List.set_cons_zero]
      refine held_take 5 (v := ?tv13) rfl (by kernel_rfl) (by kernel_rfl) (by kernel_rfl) (fun _ _ _ h => h) (.inl ⟨rfl, ?ty13⟩) hS0 ?tr13
      case ty13 => (intro _ _; go_simp; try with_reducible rfl)
      case tr13 =>
      simp only [Act.put, List.setIfInBounds_toArray, List.set_cons_succ, List.set_cons_zero]
      refine held_take 6 (v := undef) rfl (by kernel_rfl) (by kernel_rfl) (by kernel_rfl) (fun _ _ _ h => h) (.inr ⟨rfl, rfl⟩) hS0 ?_
      simp only [Act.put, List.setIfInBounds_toArray, List.set_cons_succ, List.set_cons_zero]
      refine held_take 7 (v := undef) rfl (by kernel_rfl) (by kernel_rfl) (by kernel_rfl) (fun _ _ _ h => h) (.inr ⟨rfl, rfl⟩) hS0 ?_
      simp only [Act.put, List.setIfInBounds_toArray, List.set_cons_succ, List.set_cons_zero]
      refine held_take 8 (v := undef) rfl (by kernel_rfl) (by kernel_rfl) (by kernel_rfl) (fun _ _ _ h => h) (.inr ⟨rfl, rfl⟩) hS0 ?_
      simp only [Act.put, List.setIfInBounds_toArray, List.set_cons_succ, List.set_cons_zero]
      refine held_take 9 (v := undef) rfl (by kernel_rfl) (by kernel_rfl) (by kernel_rfl) (fun _ _ _ h => h) (.inr ⟨rfl, rfl⟩) hS0 ?_
      simp only [Act.put, List.setIfInBounds_toArray, List.set_cons_succ, List.set_cons_zero]
      refine held_take 10 (v := undef) rfl (by kernel_rfl) (by kernel_rfl) (by kernel_rfl) (fun _ _ _ h => h) (.inr ⟨rfl, rfl⟩) hS0 ?_
      simp only [Act.put, List.setIfInBounds_toArray, List.set_cons_succ, List.set_cons_zero]
      refine held_take 11 (v := undef) rfl (by kernel_rfl) (by kernel_rfl) (by kernel_rfl) (fun _ _ _ h => h) (.inr ⟨rfl, rfl⟩) hS0 ?_
      simp only [Act.put, List.setIfInBounds_toArray, List.set_cons_succ, List.set_cons_zero]
      refine held_take 12 (v := undef) rfl (by kernel_rfl) (by kernel_rfl) (by kernel_rfl) (fun _ _ _ h => h) (.inr ⟨rfl, rfl⟩) hS0 ?_
      simp only [Act.put, List.setIfInBounds_toArray, List.set_cons_succ, List.set_cons_zero]
      refine held_take 13 (v := undef) rfl (by kernel_rfl) (by kernel_rfl) (by kernel_rfl) (fun _ _ _ h => h) (.inr ⟨rfl, rfl⟩) hS0 ?_
      simp only [Act.put, List.setIfInBounds_toArray, List.set_cons_succ, List.set_cons_zero]
      refine held_take 14 (v := ?tv14) rfl (by kernel_rfl) (by kernel_rfl) (by kernel_rfl) (fun _ _ _ h => h) (.inl ⟨rfl, ?ty14⟩) hS0 ?tr14
      case ty14 => (intro _ _; go_simp; try with_reducible rfl)
      case tr14 =>
      simp only [Act.put, List.setIfInBounds_toArray, List.set_cons_succ, List.set_cons_zero]
      refine wpAnyH_done (by kernel_rfl) ?_ _
      have E2 := hid ((HCC.out _).1 hS0).base
      go_wp2
      go_ret
      exact ⟨rfl, E2.out⟩
end

section
open Go Go.RowKit

def difF (a b : List UInt8) : Nat → Nat → Nat
  | 0, i => i
  | f + 1, i => if bitL a i = bitL b i then difF a b f (i + 1) else i
def difL (a b : List UInt8) : Nat := difF a b 256 0
theorem difF_le (a b : List UInt8) (f i : Nat) : difF a b f i ≤ i + f := by
  induction f generalizing i with
  | zero => exact Nat.le_refl _
  | succ f ih => simp only [difF]; split
                 · have := ih (i + 1); omega
                 · omega

set_option maxRecDepth 100000 in
set_option maxHeartbeats 1000000 in
theorem differs_c (x y : List UInt8) (w : World) (hx : x.length = 32) (hy : y.length = 32) :
    Calls Try.prog 63 #[.agg (x.map u8v).toArray, .agg (y.map u8v).toArray] w fun e w' => e = .returned (.int .i64 ((difL x y : Nat) : Int)) ∧ Ext w w' := by
  have HX := hid (show (x.map u8v).length = 32 by rw [List.length_map, hx])
  have HY := hid (show (y.map u8v).length = 32 by rw [List.length_map, hy])
  have hb1 := hid (fun i w' h => bit_c x i w' hx h)
  have hb2 := hid (fun i w' h => bit_c y i w' hy h)
  obtain ⟨R, hR⟩ : ∃ R, difL x y = R := ⟨_, rfl⟩
  rw [hR]
  unfold difL at hR
  have HR := hid hR
  clear hR hx hy
  go_enter Try.func63, Try.ntmps63
  go_upto_region 1 with (fail)
  generalize hwA : World.alloc (World.alloc w _) _ = wA
  have xA : Blk wA w.heap.size (x.map u8v) 36 := by rw [← hwA]; exact (Blk.mk_alloc rfl rfl).alloc _
  have yA : Blk wA (w.heap.size + 1) (y.map u8v) 36 := by rw [← hwA]; exact Blk.mk_alloc (by simp) rfl
  have eA : Ext w wA := by rw [← hwA]; exact ((Ext.refl w).alloc _).alloc _
  clear hwA
  have XA := hid xA
  have YA := hid yA
  have EA := hid eA
  clear xA yA eA
  go_wp2
  go_loopw [6] (fun t wr => ∃ i : Nat, i ≤ 256 ∧ t = .int .i64 (i : Int) ∧ difF x y (256 - i) i = R ∧ Ext wA wr) (fun t _ => 256 - (intOf t).toNat)
  case atStart => exact ⟨0, by omega, rfl, HR.out, Ext.refl _⟩
  case round =>
    obtain ⟨i, hi, rfl, hrest, hE⟩ := hrel
    have EW := hid (EA.out.ext hE)
    have EV := hid hE
    have XW := hid (XA.out.ext hE)
    have YW := hid (YA.out.ext hE)
    clear hE
    by_cases hlt : i < 256
    · have hst : difF x y (256 - i) i = if bitL x i = bitL y i then difF x y (256 - (i + 1)) (i + 1) else i := by
        rw [show 256 - i = 255 - i + 1 by omega, show 256 - (i + 1) = 255 - i by omega]; rfl
      rw [hst] at hrest
      have h1 := hid (fun w' => hb1.out i w' hlt)
      have h2 := hid (fun w' => hb2.out i w' hlt)
      generalize bitL x i = p at *
      generalize bitL y i = q at *
      have g0 : decide ((i : Int) < 256) = true := decide_eq_true (by omega)
      have HREST := hid hrest
      clear hst hrest
      go_wp2
      obtain ⟨C, hC⟩ : ∃ C : World → Prop, C = Cls w wr [w.heap.size, w.heap.size + 1] [] := ⟨_, rfl⟩
      have hC0 : ∀ w', C w' ↔ Cls w wr [w.heap.size, w.heap.size + 1] [] w' := fun w' => by rw [hC]
      clear hC
      have HCC := hid hC0
      clear hC0
      have hCx : ∀ w w', C w → Ext w w' → C w' := fun w w' h1 h2 => (HCC.out w').2 (((HCC.out w).1 h1).ext h2)
      have hCA : C wr := (HCC.out _).2 (Cls.no_room EW.out (Kept.two XW.out.lt YW.out.lt))
      by_cases hpq : p = q
      · have g1 : ((p : Int) != (q : Int)) = false := by rw [hpq]; simp
        have g2 : (p != q) = false := by rw [hpq]; simp
        have hr2 := HREST.out
        rw [if_pos hpq] at hr2
        have HR2 := hid hr2
        clear hpq hr2
        refine wp_region_held_drew (S := C) (by kernel_rfl) (hCx _ _ hCA (Ext.refl _).drew) (fun hS0 => ?_)
        refine held_take 0 (v := _) rfl (by kernel_rfl) (by kernel_rfl) (by kernel_rfl) (fun _ _ _ h => h) (yieldsI_loadw rfl 36 _ rfl rfl (fun w1 h => ((HCC.out w1).1 h).blk XW.out (by simp)) agg_apisum HX.out) hS0 ?_
        simp only [Act.put, List.setIfInBounds_toArray, List.set_cons_succ, List.set_cons_zero]
        refine held_take 1 (v := ?tv1) rfl (by kernel_rfl) (by kernel_rfl) (by kernel_rfl) (fun _ _ _ h => h) (.inl ⟨rfl, ?ty1⟩) hS0 ?tr1
        case ty1 => (intro _ _; go_simp; try with_reducible rfl)
        case tr1 =>
        simp only [Act.put, List.setIfInBounds_toArray, List.set_cons_succ, List.set_cons_zero]
        refine held_take 3 (v := _) rfl (by kernel_rfl) (by kernel_rfl) (by kernel_rfl) (fun _ _ _ h => h) (yieldsI_loadw rfl 36 _ rfl rfl (fun w1 h => ((HCC.out w1).1 h).blk YW.out (by simp)) agg_apisum HY.out) hS0 ?_
        simp only [Act.put, List.setIfInBounds_toArray, List.set_cons_succ, List.set_cons_zero]
        refine held_take 4 (v := ?tv2) rfl (by kernel_rfl) (by kernel_rfl) (by kernel_rfl) (fun _ _ _ h => h) (.inl ⟨rfl, ?ty2⟩) hS0 ?tr2
        case ty2 => (intro _ _; go_simp; try with_reducible rfl)
        case tr2 =>
        simp only [Act.put, List.setIfInBounds_toArray, List.set_cons_succ, List.set_cons_zero]
        have eD : Ext wr wr.drew := (Ext.refl wr).drew
        generalize wr.drew = wD at *
        refine held_one (i := 2) (by kernel_rfl) rfl ?_
        intro Q' hQ
        go_wp2_with fail
        refine (h1.out wD).mono ?_
        rintro e w1 ⟨rfl, e1⟩
        have hC1 := hCx _ _ hS0 e1
        go_wp2_with fail
        refine hQ _ _ hC1 ?_
        clear hQ Q' hS0
        try dsimp only
        try simp only [Act.put, List.setIfInBounds_toArray, List.set_cons_succ, List.set_cons_zero]
        refine held_one (i := 5) (by kernel_rfl) rfl ?_
        intro Q' hQ
        go_wp2_with fail
        refine (h2.out w1).mono ?_
        rintro e w2 ⟨rfl, e2⟩
        have hS0 := hCx _ _ hC1 e2
        have EX := hid ((eD.ext e1).ext e2)
        go_wp2_with fail
        refine hQ _ _ hS0 ?_
        clear hQ Q' hC1 e1 e2 eD
        try dsimp only
        try simp only [Act.put, List.setIfInBounds_toArray, List.set_cons_succ, List.set_cons_zero]
        refine held_take 6 (v := ?tv3) rfl (by kernel_rfl) (by kernel_rfl) (by kernel_rfl) (fun _ _ _ h => h) (.inl ⟨rfl, ?ty3⟩) hS0 ?tr3
        case ty3 => (intro _ _; go_simp; try with_reducible rfl)
        case tr3 =>
        simp only [Act.put, List.setIfInBounds_toArray, List.set_cons_succ, List.set_cons_zero]
        refine wpAnyH_done (by kernel_rfl) ?_ _
        have E2 := hid ((HCC.out _).1 hS0)
        clear hS0 hCx hCA HCC
        have EX2 := hid (EV.out.ext EX.out)
        go_wp2
        go_roundw
        case rel => exact ⟨i + 1, by omega, by first | rfl | go_num, HR2.out, EX2.out⟩
        case measure => first | (simp [intOf]; done) | (simp [intOf]; omega)
      · have g1 : ((p : Int) != (q : Int)) = true := by simp; omega
        have g2 : (p != q) = true := by simp [hpq]
        have hr2 := HREST.out
        rw [if_neg hpq] at hr2
        subst hr2
        refine wp_region_held_drew (S := C) (by kernel_rfl) (hCx _ _ hCA (Ext.refl _).drew) (fun hS0 => ?_)
        refine held_take 0 (v := _) rfl (by kernel_rfl) (by kernel_rfl) (by kernel_rfl) (fun _ _ _ h => h) (yieldsI_loadw rfl 36 _ rfl rfl (fun w1 h => ((HCC.out w1).1 h).blk XW.out (by simp)) agg_apisum HX.out) hS0 ?_
        simp only [Act.put, List.setIfInBounds_toArray, List.set_cons_succ, List.set_cons_zero]
        refine held_take 1 (v := ?tv4) rfl (by kernel_rfl) (by kernel_rfl) (by kernel_rfl) (fun _ _ _ h => h) (.inl ⟨rfl, ?ty4⟩) hS0 ?tr4
        case ty4 => (intro _ _; go_simp; try with_reducible rfl)
        case tr4 =>
        simp only [Act.put, List.setIfInBounds_toArray, List.set_cons_succ, List.set_cons_zero]
        refine held_take 3 (v := _) rfl (by kernel_rfl) (by kernel_rfl) (by kernel_rfl) (fun _ _ _ h => h) (yieldsI_loadw rfl 36 _ rfl rfl (fun w1 h => ((HCC.out w1).1 h).blk YW.out (by simp)) agg_apisum HY.out) hS0 ?_
        simp only [Act.put, List.setIfInBounds_toArray, List.set_cons_succ, List.set_cons_zero]
        refine held_take 4 (v := ?tv5) rfl (by kernel_rfl) (by kernel_rfl) (by kernel_rfl) (fun _ _ _ h => h) (.inl ⟨rfl, ?ty5⟩) hS0 ?tr5
        case ty5 => (intro _ _; go_simp; try with_reducible rfl)
        case tr5 =>
        simp only [Act.put, List.setIfInBounds_toArray, List.set_cons_succ, List.set_cons_zero]
        have eD : Ext wr wr.drew := (Ext.refl wr).drew
        generalize wr.drew = wD at *
        refine held_one (i := 2) (by kernel_rfl) rfl ?_
        intro Q' hQ
        go_wp2_with fail
        refine (h1.out wD).mono ?_
        rintro e w1 ⟨rfl, e1⟩
        have hC1 := hCx _ _ hS0 e1
        go_wp2_with fail
        refine hQ _ _ hC1 ?_
        clear hQ Q' hS0
        try dsimp only
        try simp only [Act.put, List.setIfInBounds_toArray, List.set_cons_succ, List.set_cons_zero]
        refine held_one (i := 5) (by kernel_rfl) rfl ?_
        intro Q' hQ
        go_wp2_with fail
        refine (h2.out w1).mono ?_
        rintro e w2 ⟨rfl, e2⟩
        have hS0 := hCx _ _ hC1 e2
        have EX := hid ((eD.ext e1).ext e2)
        go_wp2_with fail
        refine hQ _ _ hS0 ?_
        clear hQ Q' hC1 e1 e2 eD
        try dsimp only
        try simp only [Act.put, List.setIfInBounds_toArray, List.set_cons_succ, List.set_cons_zero]
        refine held_take 6 (v := ?tv6) rfl (by kernel_rfl) (by kernel_rfl) (by kernel_rfl) (fun _ _ _ h => h) (.inl ⟨rfl, ?ty6⟩) hS0 ?tr6
        case ty6 => (intro _ _; go_simp; try with_reducible rfl)
        case tr6 =>
        simp only [Act.put, List.setIfInBounds_toArray, List.set_cons_succ, List.set_cons_zero]
        refine wpAnyH_done (by kernel_rfl) ?_ _
        have E2 := hid ((HCC.out _).1 hS0).base
        go_wp2
        go_ret
        exact ⟨rfl, E2.out⟩
    · obtain rfl : i = 256 := by omega
      have hR2 : (256 : Nat) = R := hrest
      subst hR2
      go_wp2
      go_ret
      exact ⟨rfl, EW.out⟩

set_option maxRecDepth 100000 in
set_option maxHeartbeats 1000000 in
theorem rdiffer_c (x y : List UInt8) (w : World) (hx : x.length = 32) (hy : y.length = 32) :
    Calls Try.prog 64 #[.agg (x.map u8v).toArray, .agg (y.map u8v).toArray] w fun e w' => e = .returned (.int .i64 ((difL x y : Nat) : Int)) ∧ Ext w w' := by
  have HX := hid (show (x.map u8v).length = 32 by rw [List.length_map, hx])
  have HY := hid (show (y.map u8v).length = 32 by rw [List.length_map, hy])
  have hb1 := hid (fun i w' h => rbit_c x i w' hx h)
  have hb2 := hid (fun i w' h => rbit_c y i w' hy h)
  obtain ⟨R, hR⟩ : ∃ R, difL x y = R := ⟨_, rfl⟩
  rw [hR]
  unfold difL at hR
  have HR := hid hR
  clear hR hx hy
  go_enter Try.func64, Try.ntmps64
  go_upto_region 1 with (fail)
  generalize hwA : World.alloc (World.alloc w _) _ = wA
  have xA : Blk wA w.heap.size (x.map u8v) 36 := by rw [← hwA]; exact (Blk.mk_alloc rfl rfl).alloc _
  have yA : Blk wA (w.heap.size + 1) (y.map u8v) 36 := by rw [← hwA]; exact Blk.mk_alloc (by simp) rfl
  have eA : Ext w wA := by rw [← hwA]; exact ((Ext.refl w).alloc _).alloc _
  clear hwA
  have XA := hid xA
  have YA := hid yA
  have EA := hid eA
  clear xA yA eA
  go_wp2
  go_loopw [6] (fun t wr => ∃ i : Nat, i ≤ 256 ∧ t = .int .i64 (i : Int) ∧ difF x y (256 - i) i = R ∧ Ext wA wr) (fun t _ => 256 - (intOf t).toNat)
  case atStart => exact ⟨0, by omega, rfl, HR.out, Ext.refl _⟩
  case round =>
    obtain ⟨i, hi, rfl, hrest, hE⟩ := hrel
    have EW := hid (EA.out.ext hE)
    have EV := hid hE
    have XW := hid (XA.out.ext hE)
    have YW := hid (YA.out.ext hE)
    clear hE
    by_cases hlt : i < 256
    · have hst : difF x y (256 - i) i = if bitL x i = bitL y i then difF x y (256 - (i + 1)) (i + 1) else i := by
        rw [show 256 - i = 255 - i + 1 by omega, show 256 - (i + 1) = 255 - i by omega]; rfl
      rw [hst] at hrest
      have h1 := hid (fun w' => hb1.out i w' hlt)
      have h2 := hid (fun w' => hb2.out i w' hlt)
      generalize bitL x i = p at *
      generalize bitL y i = q at *
      have g0 : decide ((i : Int) < 256) = true := decide_eq_true (by omega)
      have HREST := hid hrest
      clear hst hrest
      go_wp2
      obtain ⟨C, hC⟩ : ∃ C : World → Prop, C = Cls w wr [w.heap.size, w.heap.size + 1] [] := ⟨_, rfl⟩
      have hC0 : ∀ w', C w' ↔ Cls w wr [w.heap.size, w.heap.size + 1] [] w' := fun w' => by rw [hC]
      clear hC
      have HCC := hid hC0
      clear hC0
      have hCx : ∀ w w', C w → Ext w w' → C w' := fun w w' h1 h2 => (HCC.out w').2 (((HCC.out w).1 h1).ext h2)
      have hCA : C wr := (HCC.out _).2 (Cls.no_room EW.out (Kept.two XW.out.lt YW.out.lt))
      by_cases hpq : p = q
      · have g1 : ((p : Int) != (q : Int)) = false := by rw [hpq]; simp
        have g2 : (p != q) = false := by rw [hpq]; simp
        have hr2 := HREST.out
        rw [if_pos hpq] at hr2
        have HR2 := hid hr2
        clear hpq hr2
        refine wp_region_held_drew (S := C) (by kernel_rfl) (hCx _ _ hCA (Ext.refl _).drew) (fun hS0 => ?_)
        refine held_take 0 (v := _) rfl (by kernel_rfl) (by kernel_rfl) (by kernel_rfl) (fun _ _ _ h => h) (yieldsI_loadw rfl 36 _ rfl rfl (fun w1 h => ((HCC.out w1).1 h).blk XW.out (by simp)) agg_apisum HX.out) hS0 ?_
        simp only [Act.put, List.setIfInBounds_toArray, List.set_cons_succ, List.set_cons_zero]
        refine held_take 1 (v := ?tv7) rfl (by kernel_rfl) (by kernel_rfl) (by kernel_rfl) (fun _ _ _ h => h) (.inl ⟨rfl, ?ty7⟩) hS0 ?tr7
        case ty7 => (intro _ _; go_simp; try with_reducible rfl)
        case tr7 =>
        simp only [Act.put, List.setIfInBounds_toArray, List.set_cons_succ, List.set_cons_zero]
        refine held_take 3 (v := _) rfl (by kernel_rfl) (by kernel_rfl) (by kernel_rfl) (fun _ _ _ h => h) (yieldsI_loadw rfl 36 _ rfl rfl (fun w1 h => ((HCC.out w1).1 h).blk YW.out (by simp)) agg_apisum HY.out) hS0 ?_
        simp only [Act.put, List.setIfInBounds_toArray, List.set_cons_succ, List.set_cons_zero]
        refine held_take 4 (v := ?tv8) rfl (by kernel_rfl) (by kernel_rfl) (by kernel_rfl) (fun _ _ _ h => h) (.inl ⟨rfl, ?ty8⟩) hS0 ?tr8
        case ty8 => (intro _ _; go_simp; try with_reducible rfl)
        case tr8 =>
        simp only [Act.put, List.setIfInBounds_toArray, List.set_cons_succ, List.set_cons_zero]
        have eD : Ext wr wr.drew := (Ext.refl wr).drew
        generalize wr.drew = wD at *
        refine held_one (i := 2) (by kernel_rfl) rfl ?_
        intro Q' hQ
        go_wp2_with fail
        refine (h1.out wD).mono ?_
        rintro e w1 ⟨rfl, e1⟩
        have hC1 := hCx _ _ hS0 e1
        go_wp2_with fail
        refine hQ _ _ hC1 ?_
        clear hQ Q' hS0
        try dsimp only
        try simp only [Act.put, List.setIfInBounds_toArray, List.set_cons_succ, List.set_cons_zero]
        refine held_one (i := 5) (by kernel_rfl) rfl ?_
        intro Q' hQ
        go_wp2_with fail
        refine (h2.out w1).mono ?_
        rintro e w2 ⟨rfl, e2⟩
        have hS0 := hCx _ _ hC1 e2
        have EX := hid ((eD.ext e1).ext e2)
        go_wp2_with fail
        refine hQ _ _ hS0 ?_
        clear hQ Q' hC1 e1 e2 eD
        try dsimp only
        try simp only [Act.put, List.setIfInBounds_toArray, List.set_cons_succ, List.set_cons_zero]
        refine held_take 6 (v := ?tv9) rfl (by kernel_rfl) (by kernel_rfl) (by kernel_rfl) (fun _ _ _ h => h) (.inl ⟨rfl, ?ty9⟩) hS0 ?tr9
        case ty9 => (intro _ _; go_simp; try with_reducible rfl)
        case tr9 =>
        simp only [Act.put, List.setIfInBounds_toArray, List.set_cons_succ, List.set_cons_zero]
        refine wpAnyH_done (by kernel_rfl) ?_ _
        have E2 := hid ((HCC.out _).1 hS0)
        clear hS0 hCx hCA HCC
        have EX2 := hid (EV.out.ext EX.out)
        go_wp2
        go_roundw
        case rel => exact ⟨i + 1, by omega, by first | rfl | go_num, HR2.out, EX2.out⟩
        case measure => first | (simp [intOf]; done) | (simp [intOf]; omega)
      · have g1 : ((p : Int) != (q : Int)) = true := by simp; omega
        have g2 : (p != q) = true := by simp [hpq]
        have hr2 := HREST.out
        rw [if_neg hpq] at hr2
        subst hr2
        refine wp_region_held_drew (S := C) (by kernel_rfl) (hCx _ _ hCA (Ext.refl _).drew) (fun hS0 => ?_)
        refine held_take 0 (v := _) rfl (by kernel_rfl) (by kernel_rfl) (by kernel_rfl) (fun _ _ _ h => h) (yieldsI_loadw rfl 36 _ rfl rfl (fun w1 h => ((HCC.out w1).1 h).blk XW.out (by simp)) agg_apisum HX.out) hS0 ?_
        simp only [Act.put, List.setIfInBounds_toArray, List.set_cons_succ, List.set_cons_zero]
        refine held_take 1 (v := ?tv10) rfl (by kernel_rfl) (by kernel_rfl) (by kernel_rfl) (fun _ _ _ h => h) (.inl ⟨rfl, ?ty10⟩) hS0 ?tr10
        case ty10 => (intro _ _; go_simp; try with_reducible rfl)
        case tr10 =>
        simp only [Act.put, List.setIfInBounds_toArray, List.set_cons_succ, List.set_cons_zero]
        refine held_take 3 (v := _) rfl (by kernel_rfl) (by kernel_rfl) (by kernel_rfl) (fun _ _ _ h => h) (yieldsI_loadw rfl 36 _ rfl rfl (fun w1 h => ((HCC.out w1).1 h).blk YW.out (by simp)) agg_apisum HY.out) hS0 ?_
        simp only [Act.put, List.setIfInBounds_toArray, List.set_cons_succ, List.set_cons_zero]
        refine held_take 4 (v := ?tv11) rfl (by kernel_rfl) (by kernel_rfl) (by kernel_rfl) (fun _ _ _ h => h) (.inl ⟨rfl, ?ty11⟩) hS0 ?tr11
        case ty11 => (intro _ _; go_simp; try with_reducible rfl)
        case tr11 =>
        simp only [Act.put, List.setIfInBounds_toArray, List.set_cons_succ, List.set_cons_zero]
        have eD : Ext wr wr.drew := (Ext.refl wr).drew
        generalize wr.drew = wD at *
        refine held_one (i := 2) (by kernel_rfl) rfl ?_
        intro Q' hQ
        go_wp2_with fail
        refine (h1.out wD).mono ?_
        rintro e w1 ⟨rfl, e1⟩
        have hC1 := hCx _ _ hS0 e1
        go_wp2_with fail
        refine hQ _ _ hC1 ?_
        clear hQ Q' hS0
        try dsimp only
        try simp only [Act.put, List.setIfInBounds_toArray, List.set_cons_succ, List.set_cons_zero]
        refine held_one (i := 5) (by kernel_rfl) rfl ?_
        intro Q' hQ
        go_wp2_with fail
        refine (h2.out w1).mono ?_
        rintro e w2 ⟨rfl, e2⟩
        have hS0 := hCx _ _ hC1 e2
        have EX := hid ((eD.ext e1).ext e2)
        go_wp2_with fail
        refine hQ _ _ hS0 ?_
        clear hQ Q' hC1 e1 e2 eD
        try dsimp only
        try simp only [Act.put, List.setIfInBounds_toArray, List.set_cons_succ, List.set_cons_zero]
        refine held_take 6 (v := ?tv12) rfl (by kernel_rfl) (by kernel_rfl) (by kernel_rfl) (fun _ _ _ h => h) (.inl ⟨rfl, ?ty12⟩) hS0 ?tr12
        case ty12 => (intro _ _; go_simp; try with_reducible rfl)
        case tr12 =>
        simp only [Act.put, List.setIfInBounds_toArray, List.set_cons_succ, List.set_cons_zero]
        refine wpAnyH_done (by kernel_rfl) ?_ _
        have E2 := hid ((HCC.out _).1 hS0).base
        go_wp2
        go_ret
        exact ⟨rfl, E2.out⟩
    · obtain rfl : i = 256 := by omega
      have hR2 : (256 : Nat) = R := hrest
      subst hR2
      go_wp2
      go_ret
      exact ⟨rfl, EW.out⟩
end

section
open Go Go.RowKit

section
variable {P : Program} {ops : Array Oper} {Q : Exit → Act → World → Prop} {S : World → Prop}
/-- two operations may come up -/
theorem held_two {i j : Nat} {o o' : Oper} {r r' : List Oper} {f : Nat} {listed : Array Bool} {a : Act} {w : World} (hr : Region.ready .any ops listed = [i, j]) (ho : ops.toList.drop i = o :: r) (ho' : ops.toList.drop j = o' :: r')
    (h1 : ∀ Q' : Exit → Act → World → Prop, (∀ a w, S w → wpAnyH P .any ops Q S f (listed.setIfInBounds i true) a w → Q' .normal a w) → wpList P ops Q' [o] a w)
    (h2 : ∀ Q' : Exit → Act → World → Prop, (∀ a w, S w → wpAnyH P .any ops Q S f (listed.setIfInBounds j true) a w → Q' .normal a w) → wpList P ops Q' [o'] a w) :
    wpAnyH P .any ops Q S (f + 1) listed a w :=
  wpAnyH_all hr (by simp) fun k hk => by
    have hk' : k = i ∨ k = j := by simpa using hk
    rcases hk' with rfl | rfl
    · exact wpOp_of_list (op_of_drop ho) (h1 _ fun a w hS hW => ⟨hS, hW⟩)
    · exact wpOp_of_list (op_of_drop ho') (h2 _ fun a w hS hW => ⟨hS, hW⟩)

theorem held_pair {A1 A2 S1 : Nat} {o1 o2 o3 : Oper} {r1 r2 r3 : List Oper} {d1 d2 : Tmp} {vs xs : List Value} {T : TypeId} {n B f : Nat} {x : Operand} {L L' : Array Bool} {a : Act} {w : World}
    (ho1 : ops.toList.drop A1 = o1 :: r1) (ho2 : ops.toList.drop A2 = o2 :: r2) (ho3 : ops.toList.drop S1 = o3 :: r3)
    (e1 : o1.dst = some d1) (e2 : o2.dst = some d2) (e3 : o3.dst = none) (g1 : o1.guard = none) (g2 : o2.guard = none) (g3 : o3.guard = none)
    (al1 : ∀ ρ w, (execOp ρ o1).run P w = .ok (.value (ptrAt w.heap.size)) (w.alloc (.cells vs.toArray T)))
    (al2 : ∀ ρ w, (execOp ρ o2).run P w = .ok (.value (ptrAt w.heap.size)) (w.alloc (.cells vs.toArray T)))
    (st : o3.op = .store T (.tmp d1) x)
    (hx : ∀ p q, ((a.put (some d1) p).put (some d2) q).eval x = .agg xs.toArray)
    (hd : ∀ p q, ((a.put (some d1) p).put (some d2) q).eval (.tmp d1) = p)
    (hcm : ∀ p q, (a.put (some d2) q).put (some d1) p = (a.put (some d1) p).put (some d2) q)
    (r0 : Region.ready .any ops L = [A1, A2]) (rA : Region.ready .any ops (L.setIfInBounds A1 true) = [A2]) (rB : Region.ready .any ops (L.setIfInBounds A2 true) = [A1])
    (rAB : Region.ready .any ops ((L.setIfInBounds A1 true).setIfInBounds A2 true) = [S1]) (rBA : Region.ready .any ops ((L.setIfInBounds A2 true).setIfInBounds A1 true) = [S1])
    (q1 : ((L.setIfInBounds A1 true).setIfInBounds A2 true).setIfInBounds S1 true = L') (q2 : ((L.setIfInBounds A2 true).setIfInBounds A1 true).setIfInBounds S1 true = L')
    (hSx : ∀ w w', S w → Ext w w' → S w') (hSB : ∀ w, S w → B ≤ w.heap.size) (hSu : ∀ w w' g, S w → B ≤ g → Upd w g w' → S w')
    (ht : AggT P T n) (hn : xs.length = n) (hv : vs.length = n) (h1 : ∀ v ∈ xs, v.oneCell' = true) (hS : S w)
    (h : ∀ p q w', S w' → B ≤ p → B ≤ q → p ≠ q → Blk w' p xs T → Blk w' q vs T → wpAnyH P .any ops Q S f L' ((a.put (some d1) (ptrAt p)).put (some d2) (ptrAt q)) w') :
    wpAnyH P .any ops Q S (f + 3) L a w := by
  refine held_two r0 ho1 ho2 (fun Q' hQ => ?_) (fun Q' hQ => ?_)
  · refine wpl_step g1 (al1 _ _) ?_
    rw [e1]
    have hS1 := hSx _ _ hS ((Ext.refl w).alloc (.cells vs.toArray T))
    have b1 := Blk.alloc_new w vs T
    have hB1 := hSB _ hS
    generalize w.alloc (.cells vs.toArray T) = w1 at *
    generalize w.heap.size = p at *
    refine hQ _ _ hS1 ?_
    clear hQ Q' hS
    have hlt := b1.lt
    refine held_one rA ho2 (fun Q' hQ => ?_)
    refine wpl_step g2 (al2 _ _) ?_
    rw [e2]
    have hS2 := hSx _ _ hS1 ((Ext.refl w1).alloc (.cells vs.toArray T))
    have b2 := Blk.alloc_new w1 vs T
    have b1' := b1.ext ((Ext.refl w1).alloc (.cells vs.toArray T))
    have hB2 := hSB _ hS1
    generalize w1.alloc (.cells vs.toArray T) = w2 at *
    generalize w1.heap.size = q at *
    refine hQ _ _ hS2 ?_
    clear hQ Q' hS1
    refine held_one rAB ho3 (fun Q' hQ => ?_)
    refine wpl_storew g3 T _ _ st (hd _ _) (hx _ _) b1' ht hv hn h1 ?_
    intro w3 b3 u3
    rw [e3]
    refine hQ _ _ (hSu _ _ _ hS2 hB1 u3) ?_
    rw [q1]
    exact h p q w3 (hSu _ _ _ hS2 hB1 u3) hB1 hB2 (by omega) b3 (b2.upd u3 (by omega))
  · refine wpl_step g2 (al2 _ _) ?_
    rw [e2]
    have hS1 := hSx _ _ hS ((Ext.refl w).alloc (.cells vs.toArray T))
    have b1 := Blk.alloc_new w vs T
    have hB1 := hSB _ hS
    generalize w.alloc (.cells vs.toArray T) = w1 at *
    generalize w.heap.size = q at *
    refine hQ _ _ hS1 ?_
    clear hQ Q' hS
    have hlt := b1.lt
    refine held_one rB ho1 (fun Q' hQ => ?_)
    refine wpl_step g1 (al1 _ _) ?_
    rw [e1, hcm]
    have hS2 := hSx _ _ hS1 ((Ext.refl w1).alloc (.cells vs.toArray T))
    have b2 := Blk.alloc_new w1 vs T
    have b1' := b1.ext ((Ext.refl w1).alloc (.cells vs.toArray T))
    have hB2 := hSB _ hS1
    generalize w1.alloc (.cells vs.toArray T) = w2 at *
    generalize w1.heap.size = p at *
    refine hQ _ _ hS2 ?_
    clear hQ Q' hS1
    refine held_one rBA ho3 (fun Q' hQ => ?_)
    refine wpl_storew g3 T _ _ st (hd _ _) (hx _ _) b2 ht hv hn h1 ?_
    intro w3 b3 u3
    rw [e3]
    refine hQ _ _ (hSu _ _ _ hS2 hB2 u3) ?_
    rw [q2]
    exact h p q w3 (hSu _ _ _ hS2 hB2 u3) hB2 hB1 (by omega) b3 (b1'.upd u3 (by omega))
end
end

section
open Go Go.RowKit

def absentE (root k lv : List UInt8) (ls : List (List UInt8)) : Int :=
  if ls.length = cntL lv 256 then (if upL lv k ls (depL lv 256) zero32 == root then 0 else 12)
  else if ls.length = cntL lv 256 + 2 then
    (if (ls[cntL lv 256]?.getD [] == k) = true ∨ difL (ls[cntL lv 256]?.getD []) k < depL lv 256 ∨ (ls[cntL lv 256 + 1]?.getD [] == zero32) = true then 12
    else if upL lv k ls (depL lv 256) (mleafL (ls[cntL lv 256]?.getD []) (ls[cntL lv 256 + 1]?.getD [])) == root then 0 else 12)
  else 12

set_option maxRecDepth 100000 in
set_option maxHeartbeats 4000000 in
theorem absent_c (root k lv : List UInt8) (ls : List (List UInt8)) (a : Option Addr) (n c : Nat) (w : World) (hr : root.length = 32) (hk : k.length = 32) (hlv : lv.length = 32) (hn : ls.length = n) (hn63 : n ≤ 9223372036854775807) (h32 : All32 ls) (hcl : Cells w a (rows ls)) :
    Calls Try.prog 29 #[.agg (root.map u8v).toArray, .agg (k.map u8v).toArray, .agg (mpL lv (.slice a n c)).toArray] w fun e w' => e = .returned (.int .i64 (absentE root k lv ls)) ∧ Ext w w' := by
  have HR := hid (show (root.map u8v).length = 32 by rw [List.length_map, hr])
  have HK := hid (show (k.map u8v).length = 32 by rw [List.length_map, hk])
  have HZ := hid (show (zero32.map u8v).length = 32 by rw [List.length_map, zero32_len])
  have HL33 := hid (mpL_length hlv (.slice a n c))
  have HLE : Hid (0 + 32 ≤ (mpL lv (.slice a n c)).length) := hid (by rw [mpL_length hlv]; omega)
  have HLV := hid (mpL_lev hlv (.slice a n c))
  have HAT := hid (mpL_at hlv (.slice a n c))
  have HC := hid hcl
  have HKL := hid hk
  have HRL := hid hr
  have HN := hid hn
  have H32 := hid h32
  have hup := hid (fun s w' hs hcnt h => up_c lv k s ls a n c w' hlv hk hs hn hcnt h32 h)
  have hupl := hid (fun s hs => upL_length (lv := lv) (k := k) (ls := ls) (depL lv 256) s hs)
  have hmk := hid (fun w' => marked_c lv w' hlv)
  have hc256 := cntL_le lv 256
  have hd256 := depL_le lv 256
  obtain ⟨E, hE⟩ : ∃ E, absentE root k lv ls = E := ⟨_, rfl⟩
  rw [hE]
  unfold absentE at hE
  rw [hn] at hE
  generalize depL lv 256 = D at *
  generalize cntL lv 256 = M at *
  generalize hvs : mpL lv (.slice a n c) = vs at *
  have HE := hid hE
  clear hr hk hlv hn h32 hcl hvs hE
  go_enter Try.func29, Try.ntmps29
  go_upto_region 1 with (fail)
  generalize hwA : World.alloc (World.alloc (World.alloc w _) _) _ = wA
  have rA : Blk wA w.heap.size (root.map u8v) 36 := by rw [← hwA]; exact ((Blk.mk_alloc rfl rfl).alloc _).alloc _
  have kA : Blk wA (w.heap.size + 1) (k.map u8v) 36 := by rw [← hwA]; exact (Blk.mk_alloc (by simp) rfl).alloc _
  have pA : Blk wA (w.heap.size + 2) vs 50 := by rw [← hwA]; exact Blk.mk_alloc (by simp) rfl
  have eA : Ext w wA := by rw [← hwA]; exact (((Ext.refl w).alloc _).alloc _).alloc _
  clear hwA
  have RA := hid rA
  have KA := hid kA
  have PA := hid pA
  have EA := hid eA
  clear rA kA pA eA
  go_wp2_with (first | (refine wpl_loadp rfl 35 _ rfl rfl PA.out agg_lev HLE.out HLV.out ?_))
  refine (hmk.out _).mono ?_
  rintro e wB ⟨rfl, eB⟩
  have RB := hid (RA.out.ext eB)
  have KB := hid (KA.out.ext eB)
  have PB := hid (PA.out.ext eB)
  have EB := hid (EA.out.ext eB)
  clear eB RA KA PA EA hmk
  go_wp2_with (first | (refine wpl_storew rfl _ (.tmp 9) _ rfl rfl rfl (Blk.mk_alloc (vs := List.replicate 32 (.int .u8 0)) rfl rfl) agg_apisum (by simp) (xs := List.replicate 32 (.int .u8 0)) (by simp) (one_zeros 32) ?_))
  intro wC bC0 uC
  have eC : Ext wB wC := uC.ext ((Ext.refl wB).alloc _) (Nat.le_refl _)
  have bC : Blk wC wB.heap.size (zero32.map u8v) 36 := by rw [zero32_map]; exact bC0
  clear uC bC0
  have RwC := hid (RB.out.ext eC)
  have KwC := hid (KB.out.ext eC)
  have PwC := hid (PB.out.ext eC)
  have EwC := hid (EB.out.ext eC)
  have BwC := hid bC
  have hg9 : w.heap.size + 2 < wB.heap.size := PB.out.lt
  clear eC bC RB KB PB EB
  generalize wB.heap.size = g9 at *
  have c32 : wC.cell? ⟨w.heap.size + 2, 32, none⟩ = some (.slice a n c) := PwC.out.cell' HAT.out
  have hE := HE.out
  clear HE
  by_cases hnm : n = M
  · rw [if_pos hnm] at hE
    subst hnm
    have g1 : ((n : Int) - (n : Int)) = 0 := by omega
    have g2 : ((n : Int) == (n : Int)) = true := by simp
    have g3 : (n == n) = true := by simp
    have hupz := hid (fun w' h => hup.out zero32 w' zero32_len (Nat.le_refl _) h)
    have HNE := hid (fun w => neq_arr Try.underlying36 (upL lv k ls D zero32) root (hupl.out zero32 zero32_len) HRL.out w)
    generalize zero32 = zz at *
    generalize upL lv k ls D zz = u at *
    clear hup hupl
    go_wp2_with fail
    clear c32
    obtain ⟨C, hC⟩ : ∃ C : World → Prop, C = Cls w wC [w.heap.size, w.heap.size + 1, w.heap.size + 2, g9] [] := ⟨_, rfl⟩
    have hC0 : ∀ w', C w' ↔ Cls w wC [w.heap.size, w.heap.size + 1, w.heap.size + 2, g9] [] w' := fun w' => by rw [hC]
    clear hC
    have HCC := hid hC0
    clear hC0
    have hCx : ∀ w w', C w → Ext w w' → C w' := fun w w' h1 h2 => (HCC.out w').2 (((HCC.out w).1 h1).ext h2)
    have hCA : C wC := (HCC.out _).2 (Cls.no_room EwC.out (Kept.four RwC.out.lt KwC.out.lt PwC.out.lt BwC.out.lt))
    refine wp_region_held_drew (S := C) (by kernel_rfl) (hCx _ _ hCA (Ext.refl _).drew) (fun hS0 => ?_)
    refine held_take 0 (v := _) rfl (by kernel_rfl) (by kernel_rfl) (by kernel_rfl) (fun _ _ _ h => h) (yieldsI_loadw rfl 36 _ rfl rfl (fun w1 h => ((HCC.out w1).1 h).blk KwC.out (by simp)) agg_apisum HK.out) hS0 ?_
    simp only [Act.put, List.setIfInBounds_toArray, List.set_cons_succ, List.set_cons_zero]
    refine held_take 1 (v := _) rfl (by kernel_rfl) (by kernel_rfl) (by kernel_rfl) (fun _ _ _ h => h) (yieldsI_loadw rfl 36 _ rfl rfl (fun w1 h => ((HCC.out w1).1 h).blk BwC.out (by simp)) agg_apisum HZ.out) hS0 ?_
    simp only [Act.put, List.setIfInBounds_toArray, List.set_cons_succ, List.set_cons_zero]
    refine held_take 2 (v := _) rfl (by kernel_rfl) (by kernel_rfl) (by kernel_rfl) (fun _ _ _ h => h) (yieldsI_loadw rfl 50 _ rfl rfl (fun w1 h => ((HCC.out w1).1 h).blk PwC.out (by simp)) agg_mproof HL33.out) hS0 ?_
    simp only [Act.put, List.setIfInBounds_toArray, List.set_cons_succ, List.set_cons_zero]
    refine held_take 4 (v := _) rfl (by kernel_rfl) (by kernel_rfl) (by kernel_rfl) (fun _ _ _ h => h) (yieldsI_loadw rfl 36 _ rfl rfl (fun w1 h => ((HCC.out w1).1 h).blk RwC.out (by simp)) agg_apisum HR.out) hS0 ?_
    simp only [Act.put, List.setIfInBounds_toArray, List.set_cons_succ, List.set_cons_zero]
    generalize wC.drew = wX at *
    refine held_one (i := 3) (by kernel_rfl) rfl ?_
    intro Q' hQ
    go_wp2_with fail
    refine (hupz.out wX (HC.out.ext ((HCC.out wX).1 hS0).base)).mono ?_
    rintro e wY ⟨rfl, eY⟩
    have hSY := hCx _ _ hS0 eY
    go_wp2_with fail
    refine hQ _ _ hSY ?_
    clear hQ Q' hS0 eY
    try dsimp only
    try simp only [Act.put, List.setIfInBounds_toArray, List.set_cons_succ, List.set_cons_zero]
    have hS0 := hSY
    clear hSY
    refine held_take 5 (v := _) rfl (by kernel_rfl) (by kernel_rfl) (by kernel_rfl) (fun _ _ _ h => h) (yieldsI_run rfl (fun w1 _ => exec_cmp rfl rfl rfl guard_sum HNE.out w1)) hS0 ?_
    simp only [Act.put, List.setIfInBounds_toArray, List.set_cons_succ, List.set_cons_zero]
    refine wpAnyH_done (by kernel_rfl) ?_ _
    have EY := hid ((HCC.out wY).1 hS0).base
    clear hS0 hCx hCA HCC
    cases hur : (u == root) with
    | true =>
      rw [hur, if_pos rfl] at hE
      subst hE
      go_wp2
      go_ret
      exact ⟨rfl, EY.out⟩
    | false =>
      rw [hur, if_neg (by decide)] at hE
      subst hE
      go_wp2
      go_ret
      exact ⟨rfl, EY.out⟩
  · rw [if_neg hnm] at hE
    by_cases hn2 : n = M + 2
    · rw [if_pos hn2] at hE
      obtain ⟨o, ho⟩ : ∃ o, ls[M]? = some o := ⟨ls[M]'(by rw [HN.out]; omega), by simp⟩
      obtain ⟨v, hv⟩ : ∃ v, ls[M + 1]? = some v := ⟨ls[M + 1]'(by rw [HN.out]; omega), by simp⟩
      have hol : o.length = 32 := H32.out.at ho
      have hvl : v.length = 32 := H32.out.at hv
      obtain ⟨A, rfl, hca, hcb⟩ : ∃ A, a = some A ∧ CellsAt w (A.add (M * 32)) (o.map u8v) ∧ CellsAt w (A.add ((M + 1) * 32)) (v.map u8v) := by
        cases a with
        | none => rcases HC.out with h | ⟨_, _, h, _⟩
                  · have := rows_length H32.out; rw [h, HN.out] at this; simp at this; omega
                  · cases h
        | some A => exact ⟨A, rfl, HC.out.rowAt H32.out ho, HC.out.rowAt H32.out hv⟩
      have hE2 : (if (o == k) = true ∨ difL o k < D ∨ (v == zero32) = true then (12 : Int) else if upL lv k ls D (mleafL o v) == root then 0 else 12) = E := by rw [ho, hv] at hE; exact hE
      clear hE
      have hE := hE2
      clear hE2
      have HO := hid (show (o.map u8v).length = 32 by rw [List.length_map, hol])
      have HV := hid (show (v.map u8v).length = 32 by rw [List.length_map, hvl])
      have oo := one_u8 o
      have ov := one_u8 v
      have HCA := hid hca
      have HCB := hid hcb
      have HEO := hid (fun w => eq_arr Try.underlying36 o k hol HKL.out w)
      have HEV := hid (fun w => eq_arr Try.underlying36 v zero32 hvl zero32_len w)
      have hdf := hid (fun w' => differs_c o k w' hol HKL.out)
      have hlf := hid (fun w' => single_c o v w' hol hvl)
      have hlfl := mleafL_length o v
      have HLF := hid (show ((mleafL o v).map u8v).length = 32 by rw [List.length_map, hlfl])
      have olf := one_u8 (mleafL o v)
      have hupz := hid (fun w' h => hup.out (mleafL o v) w' hlfl (by omega) h)
      have HNE := hid (fun w => neq_arr Try.underlying36 (upL lv k ls D (mleafL o v)) root (hupl.out _ hlfl) HRL.out w)
      have hdl := difF_le o k 256 0
      rw [show difF o k 256 0 = difL o k from rfl] at hdl
      obtain ⟨u, hu⟩ : ∃ u, upL lv k ls D (mleafL o v) = u := ⟨_, rfl⟩
      rw [hu] at hE hupz HNE
      obtain ⟨lf, hlf2⟩ : ∃ lf, mleafL o v = lf := ⟨_, rfl⟩
      rw [hlf2] at hupz hlf HLF olf
      obtain ⟨df, hdf2⟩ : ∃ df, difL o k = df := ⟨_, rfl⟩
      rw [hdf2] at hE hdf hdl
      clear hu hlf2 hdf2 hlfl
      obtain ⟨M1, hM1⟩ : ∃ M1, M1 = M + 1 := ⟨_, rfl⟩
      have hM1n : M1 < n := by omega
      have hMn : M < n := by omega
      have HM1 := hid hM1
      rw [← hM1] at HCB
      have g1 : ((n : Int) - (M : Int) == 0) = false := by simp; omega
      have g2 : ((n : Int) - (M : Int) == 2) = true := by simp; omega
      have g3 : ((n : Int) == (M : Int)) = false := by simp; omega
      have g4 : (n == M) = false := by simp [hnm]
      have g5 : ((n : Int) == (M : Int) + 2) = true := by simp; omega
      have g6 : (n == M + 2) = true := by simp [hn2]
      have hwm : IntKind.i64.wrap ((M : Int) + 1) = (M1 : Int) := by rw [IntWalk.i64_in _ (by omega)]; omega
      clear hca hcb ho hv hol hvl hup hupl hnm
      have HN2 := hid hn2
      clear hn2 hM1
      go_wp2_with fail
      clear c32
      obtain ⟨C, hC⟩ : ∃ C : World → Prop, C = Cls w wC [w.heap.size, w.heap.size + 1, w.heap.size + 2, g9] [] := ⟨_, rfl⟩
      have hC0 : ∀ w', C w' ↔ Cls w wC [w.heap.size, w.heap.size + 1, w.heap.size + 2, g9] [] w' := fun w' => by rw [hC]
      clear hC
      have HCC := hid hC0
      clear hC0
      have hCx : ∀ w w', C w → Ext w w' → C w' := fun w w' h1 h2 => (HCC.out w').2 (((HCC.out w).1 h1).ext h2)
      have hCA : C wC := (HCC.out _).2 (Cls.no_room EwC.out (Kept.four RwC.out.lt KwC.out.lt PwC.out.lt BwC.out.lt))
      have e32 : ∀ w1, C w1 → w1.cell? ⟨w.heap.size + 2, 32, none⟩ = some (.slice (some A) n c) := fun w1 h1 => (((HCC.out w1).1 h1).blk PwC.out (by simp)).cell' HAT.out
      have hca : ∀ w1, C w1 → CellsAt w1 (A.add (M * 32)) (o.map u8v) := fun w1 h1 => HCA.out.ext ((HCC.out w1).1 h1).base
      have hcb : ∀ w1, C w1 → CellsAt w1 (A.add (M1 * 32)) (v.map u8v) := fun w1 h1 => HCB.out.ext ((HCC.out w1).1 h1).base
      refine wp_region_held_drew (S := C) (by kernel_rfl) (hCx _ _ hCA (Ext.refl _).drew) (fun hS0 => ?_)
      refine held_take 0 (v := ?tv1) rfl (by kernel_rfl) (by kernel_rfl) (by kernel_rfl) (fun _ _ _ h => h) (.inl ⟨rfl, ?ty1⟩) hS0 ?tr1
      case ty1 => (intro _ _; go_simp; try with_reducible rfl)
      case tr1 =>
      simp only [Act.put, List.setIfInBounds_toArray, List.set_cons_succ, List.set_cons_zero]
      refine held_take 1 (v := ?tv2) rfl (by kernel_rfl) (by kernel_rfl) (by kernel_rfl) (fun _ _ _ h => h) (.inl ⟨rfl, ?ty2⟩) hS0 ?tr2
      case ty2 => (intro wq hwq; have hcq := (e32) wq hwq; go_simp; try with_reducible rfl)
      case tr2 =>
      simp only [Act.put, List.setIfInBounds_toArray, List.set_cons_succ, List.set_cons_zero]
      refine held_take 2 (v := ?tv3) rfl (by kernel_rfl) (by kernel_rfl) (by kernel_rfl) (fun _ _ _ h => h) (.inl ⟨rfl, ?ty3⟩) hS0 ?tr3
      case ty3 => (intro _ _; go_simp; try with_reducible rfl)
      case tr3 =>
      simp only [Act.put, List.setIfInBounds_toArray, List.set_cons_succ, List.set_cons_zero]
      refine held_take 3 (v := _) rfl (by kernel_rfl) (by kernel_rfl) (by kernel_rfl) (fun _ _ _ h => h) (yieldsI_run rfl (fun w1 _ => exec_index (i := M) rfl rfl rfl Try.underlying22 size_apisum hMn w1)) hS0 ?_
      simp only [Act.put, List.setIfInBounds_toArray, List.set_cons_succ, List.set_cons_zero]
      refine held_take 4 (v := _) rfl (by kernel_rfl) (by kernel_rfl) (by kernel_rfl) (fun _ _ _ h => h) (yieldsI_run rfl (fun w1 h => exec_load_at rfl rfl (hca w1 h) agg_apisum HO.out)) hS0 ?_
      simp only [Act.put, List.setIfInBounds_toArray, List.set_cons_succ, List.set_cons_zero]
      refine held_take 5 (v := ?tv4) rfl (by kernel_rfl) (by kernel_rfl) (by kernel_rfl) (fun _ _ _ h => h) (.inl ⟨rfl, ?ty4⟩) hS0 ?tr4
      case ty4 => (intro _ _; go_simp; try with_reducible rfl)
      case tr4 =>
      simp only [Act.put, List.setIfInBounds_toArray, List.set_cons_succ, List.set_cons_zero]
      refine held_take 6 (v := ?tv5) rfl (by kernel_rfl) (by kernel_rfl) (by kernel_rfl) (fun _ _ _ h => h) (.inl ⟨rfl, ?ty5⟩) hS0 ?tr5
      case ty5 => (intro wq hwq; have hcq := (e32) wq hwq; go_simp; try with_reducible rfl)
      case tr5 =>
      simp only [Act.put, List.setIfInBounds_toArray, List.set_cons_succ, List.set_cons_zero]
      refine held_take 7 (v := ?tv6) rfl (by kernel_rfl) (by kernel_rfl) (by kernel_rfl) (fun _ _ _ h => h) (.inl ⟨rfl, ?ty6⟩) hS0 ?tr6
      case ty6 => (intro _ _; go_simp; try with_reducible rfl)
      case tr6 =>
      simp only [Act.put, List.setIfInBounds_toArray, List.set_cons_succ, List.set_cons_zero]
      refine held_take 8 (v := ?tv7) rfl (by kernel_rfl) (by kernel_rfl) (by kernel_rfl) (fun _ _ _ h => h) (.inl ⟨rfl, ?ty7⟩) hS0 ?tr7
      case ty7 => (intro _ _; go_simp; try with_reducible rfl)
      case tr7 =>
      simp only [Act.put, List.setIfInBounds_toArray, List.set_cons_succ, List.set_cons_zero]
      refine held_take 9 (v := _) rfl (by kernel_rfl) (by kernel_rfl) (by kernel_rfl) (fun _ _ _ h => h) (yieldsI_run rfl (fun w1 _ => exec_index (i := M1) rfl rfl rfl Try.underlying22 size_apisum hM1n w1)) hS0 ?_
      simp only [Act.put, List.setIfInBounds_toArray, List.set_cons_succ, List.set_cons_zero]
      refine held_take 10 (v := _) rfl (by kernel_rfl) (by kernel_rfl) (by kernel_rfl) (fun _ _ _ h => h) (yieldsI_run rfl (fun w1 h => exec_load_at rfl rfl (hcb w1 h) agg_apisum HV.out)) hS0 ?_
      simp only [Act.put, List.setIfInBounds_toArray, List.set_cons_succ, List.set_cons_zero]
      clear hwm
      refine held_pair (A1 := 11) (A2 := 12) (S1 := 13) (vs := List.replicate 32 (.int .u8 0)) (xs := o.map u8v) (T := 36) (n := 32) (B := wC.heap.size) rfl rfl rfl rfl rfl rfl rfl rfl rfl (fun _ _ => rfl) (fun _ _ => rfl) rfl (fun _ _ => rfl) (fun _ _ => rfl) (fun _ _ => rfl) (by kernel_rfl) (by kernel_rfl) (by kernel_rfl) (by kernel_rfl) (by kernel_rfl) rfl (by kernel_rfl) hCx (fun w1 h1 => ((HCC.out w1).1 h1).kept.1) (fun w1 w2 g h1 hg u => (HCC.out w2).2 (Cls.upd ((HCC.out w1).1 h1) u hg EwC.out.size)) agg_apisum HO.out (by simp) oo hS0 ?_
      clear hS0
      intro p q w3 hS0 hp hq hpq b10 b11
      unfold ptrAt
      try dsimp only
      try simp only [Act.put, List.setIfInBounds_toArray, List.set_cons_succ, List.set_cons_zero]
      have B10 := hid b10
      have B11 := hid b11
      clear b10 b11
      refine held_one (i := 14) (by kernel_rfl) rfl ?_
      intro Q' hQ
      go_wp2_with (refine wpl_storew rfl _ _ _ rfl rfl rfl B11.out agg_apisum (by simp) HV.out ov ?_)
      intro wD bD uD
      have hSD : C wD := (HCC.out wD).2 (Cls.upd ((HCC.out w3).1 hS0) uD hq EwC.out.size)
      have B10D := hid (B10.out.upd uD hpq)
      have B11D := hid bD
      refine hQ _ _ hSD ?_
      clear hQ Q' hS0 B10 B11 uD bD
      refine wpAnyH_done (by kernel_rfl) ?_ _
      have RD := hid (((HCC.out wD).1 hSD).blk RwC.out (by simp))
      have KD := hid (((HCC.out wD).1 hSD).blk KwC.out (by simp))
      have PD := hid (((HCC.out wD).1 hSD).blk PwC.out (by simp))
      have BD := hid (((HCC.out wD).1 hSD).blk BwC.out (by simp))
      have ED := hid ((HCC.out wD).1 hSD).base
      have hg9C : g9 < wC.heap.size := BwC.out.lt
      clear hSD hCx hCA HCC e32 hca hcb RwC KwC PwC BwC EwC
      cases hok : (o == k) with
      | true =>
        rw [hok, if_pos (.inl rfl)] at hE
        rw [hok] at HEO
        subst hE
        clear hok
        go_wp2_with (first | (refine wpl_loadw rfl 36 (.tmp 10) rfl rfl B10D.out agg_apisum HO.out ?_) | (refine wpl_loadw rfl 36 (.tmp 4) rfl rfl KD.out agg_apisum HK.out ?_) | (refine wpg_loadw rfl 36 (.tmp 10) rfl rfl B10D.out agg_apisum HO.out ?_) | (refine wpg_loadw rfl 36 (.tmp 4) rfl rfl KD.out agg_apisum HK.out ?_) | (refine wpg_loadw rfl 36 (.tmp 11) rfl rfl B11D.out agg_apisum HV.out ?_) | (refine wpg_cmp rfl .eql _ _ _ _ rfl rfl rfl guard_sum HEO.out ?_) | (refine wpg_cmp rfl .eql _ _ _ _ rfl rfl rfl guard_sum HEV.out ?_))
        go_ret
        exact ⟨rfl, ED.out⟩
      | false =>
        rw [hok] at HEO
        go_wp2_with (first | (refine wpl_loadw rfl 36 (.tmp 10) rfl rfl B10D.out agg_apisum HO.out ?_) | (refine wpl_loadw rfl 36 (.tmp 4) rfl rfl KD.out agg_apisum HK.out ?_) | (refine wpg_loadw rfl 36 (.tmp 10) rfl rfl B10D.out agg_apisum HO.out ?_) | (refine wpg_loadw rfl 36 (.tmp 4) rfl rfl KD.out agg_apisum HK.out ?_) | (refine wpg_loadw rfl 36 (.tmp 11) rfl rfl B11D.out agg_apisum HV.out ?_) | (refine wpg_cmp rfl .eql _ _ _ _ rfl rfl rfl guard_sum HEO.out ?_) | (refine wpg_cmp rfl .eql _ _ _ _ rfl rfl rfl guard_sum HEV.out ?_))
        refine (hdf.out wD).mono ?_
        rintro e wE ⟨rfl, eE⟩
        have RE := hid (RD.out.ext eE)
        have KE := hid (KD.out.ext eE)
        have PE := hid (PD.out.ext eE)
        have BE := hid (BD.out.ext eE)
        have EE := hid (ED.out.ext eE)
        have B10E := hid (B10D.out.ext eE)
        have B11E := hid (B11D.out.ext eE)
        clear eE
        by_cases hlt : df < D
        · have g7 : decide ((df : Int) < (D : Int)) = true := decide_eq_true (by omega)
          have g8 : decide (df < D) = true := decide_eq_true hlt
          rw [if_pos (.inr (.inl hlt))] at hE
          subst hE
          go_wp2_with (first | (refine wpl_loadw rfl 36 (.tmp 10) rfl rfl B10E.out agg_apisum HO.out ?_) | (refine wpl_loadw rfl 36 (.tmp 4) rfl rfl KE.out agg_apisum HK.out ?_) | (refine wpg_loadw rfl 36 (.tmp 10) rfl rfl B10E.out agg_apisum HO.out ?_) | (refine wpg_loadw rfl 36 (.tmp 4) rfl rfl KE.out agg_apisum HK.out ?_) | (refine wpg_loadw rfl 36 (.tmp 11) rfl rfl B11E.out agg_apisum HV.out ?_) | (refine wpg_cmp rfl .eql _ _ _ _ rfl rfl rfl guard_sum HEO.out ?_) | (refine wpg_cmp rfl .eql _ _ _ _ rfl rfl rfl guard_sum HEV.out ?_))
          go_ret
          exact ⟨rfl, EE.out⟩
        · have g7 : decide ((df : Int) < (D : Int)) = false := decide_eq_false (by omega)
          have g8 : decide (df < D) = false := decide_eq_false hlt
          cases hvz : (v == zero32) with
          | true =>
            rw [hvz, if_pos (.inr (.inr rfl))] at hE
            rw [hvz] at HEV
            subst hE
            clear hok hvz
            go_wp2_with (first | (refine wpl_loadw rfl 36 (.tmp 10) rfl rfl B10E.out agg_apisum HO.out ?_) | (refine wpl_loadw rfl 36 (.tmp 4) rfl rfl KE.out agg_apisum HK.out ?_) | (refine wpg_loadw rfl 36 (.tmp 10) rfl rfl B10E.out agg_apisum HO.out ?_) | (refine wpg_loadw rfl 36 (.tmp 4) rfl rfl KE.out agg_apisum HK.out ?_) | (refine wpg_loadw rfl 36 (.tmp 11) rfl rfl B11E.out agg_apisum HV.out ?_) | (refine wpg_cmp rfl .eql _ _ _ _ rfl rfl rfl guard_sum HEO.out ?_) | (refine wpg_cmp rfl .eql _ _ _ _ rfl rfl rfl guard_sum HEV.out ?_))
            go_ret
            exact ⟨rfl, EE.out⟩
          | false =>
            rw [hvz] at HEV
            have hno : ¬ ((o == k) = true ∨ df < D ∨ (v == zero32) = true) := by
              rw [hok, hvz]
              intro h
              rcases h with h | h | h
              · cases h
              · exact hlt h
              · cases h
            rw [if_neg hno] at hE
            clear hno
            go_wp2_with (first | (refine wpl_loadw rfl 36 (.tmp 10) rfl rfl B10E.out agg_apisum HO.out ?_) | (refine wpl_loadw rfl 36 (.tmp 4) rfl rfl KE.out agg_apisum HK.out ?_) | (refine wpg_loadw rfl 36 (.tmp 10) rfl rfl B10E.out agg_apisum HO.out ?_) | (refine wpg_loadw rfl 36 (.tmp 4) rfl rfl KE.out agg_apisum HK.out ?_) | (refine wpg_loadw rfl 36 (.tmp 11) rfl rfl B11E.out agg_apisum HV.out ?_) | (refine wpg_cmp rfl .eql _ _ _ _ rfl rfl rfl guard_sum HEO.out ?_) | (refine wpg_cmp rfl .eql _ _ _ _ rfl rfl rfl guard_sum HEV.out ?_) | (refine wpl_loadw rfl 36 (.tmp 11) rfl rfl B11E.out agg_apisum HV.out ?_))
            refine (hlf.out _).mono ?_
            rintro e wF ⟨rfl, eF⟩
            have RF := hid (RE.out.ext eF)
            have KF := hid (KE.out.ext eF)
            have PF := hid (PE.out.ext eF)
            have BF := hid (BE.out.ext eF)
            have EF := hid (EE.out.ext eF)
            clear eF RE KE PE BE EE B10E B11E
            go_wp2_with (first | (refine wpl_storew rfl _ (.tmp 9) _ rfl rfl rfl BF.out agg_apisum HZ.out HLF.out olf ?_))
            intro wG bG uG
            have RwG := hid (RF.out.upd uG (by omega))
            have KwG := hid (KF.out.upd uG (by omega))
            have PwG := hid (PF.out.upd uG (by omega))
            have EwG := hid (uG.ext EF.out (by omega))
            have BwG := hid bG
            clear bG uG RF KF PF BF EF RD KD PD BD ED B10D B11D
            go_wp2_with fail
            obtain ⟨C, hC⟩ : ∃ C : World → Prop, C = Cls w wG [w.heap.size, w.heap.size + 1, w.heap.size + 2, g9] [] := ⟨_, rfl⟩
            have hC0 : ∀ w', C w' ↔ Cls w wG [w.heap.size, w.heap.size + 1, w.heap.size + 2, g9] [] w' := fun w' => by rw [hC]
            clear hC
            have HCC := hid hC0
            clear hC0
            have hCx : ∀ w w', C w → Ext w w' → C w' := fun w w' h1 h2 => (HCC.out w').2 (((HCC.out w).1 h1).ext h2)
            have hCA : C wG := (HCC.out _).2 (Cls.no_room EwG.out (Kept.four RwG.out.lt KwG.out.lt PwG.out.lt BwG.out.lt))
            refine wp_region_held_drew (S := C) (by kernel_rfl) (hCx _ _ hCA (Ext.refl _).drew) (fun hS0 => ?_)
            refine held_take 0 (v := _) rfl (by kernel_rfl) (by kernel_rfl) (by kernel_rfl) (fun _ _ _ h => h) (yieldsI_loadw rfl 36 _ rfl rfl (fun w1 h => ((HCC.out w1).1 h).blk KwG.out (by simp)) agg_apisum HK.out) hS0 ?_
            simp only [Act.put, List.setIfInBounds_toArray, List.set_cons_succ, List.set_cons_zero]
            refine held_take 1 (v := _) rfl (by kernel_rfl) (by kernel_rfl) (by kernel_rfl) (fun _ _ _ h => h) (yieldsI_loadw rfl 36 _ rfl rfl (fun w1 h => ((HCC.out w1).1 h).blk BwG.out (by simp)) agg_apisum HLF.out) hS0 ?_
            simp only [Act.put, List.setIfInBounds_toArray, List.set_cons_succ, List.set_cons_zero]
            refine held_take 2 (v := _) rfl (by kernel_rfl) (by kernel_rfl) (by kernel_rfl) (fun _ _ _ h => h) (yieldsI_loadw rfl 50 _ rfl rfl (fun w1 h => ((HCC.out w1).1 h).blk PwG.out (by simp)) agg_mproof HL33.out) hS0 ?_
            simp only [Act.put, List.setIfInBounds_toArray, List.set_cons_succ, List.set_cons_zero]
            refine held_take 4 (v := _) rfl (by kernel_rfl) (by kernel_rfl) (by kernel_rfl) (fun _ _ _ h => h) (yieldsI_loadw rfl 36 _ rfl rfl (fun w1 h => ((HCC.out w1).1 h).blk RwG.out (by simp)) agg_apisum HR.out) hS0 ?_
            simp only [Act.put, List.setIfInBounds_toArray, List.set_cons_succ, List.set_cons_zero]
            generalize wG.drew = wX at *
            refine held_one (i := 3) (by kernel_rfl) rfl ?_
            intro Q' hQ
            go_wp2_with fail
            refine (hupz.out wX (HC.out.ext ((HCC.out wX).1 hS0).base)).mono ?_
            rintro e wY ⟨rfl, eY⟩
            have hSY := hCx _ _ hS0 eY
            go_wp2_with fail
            refine hQ _ _ hSY ?_
            clear hQ Q' hS0 eY
            try dsimp only
            try simp only [Act.put, List.setIfInBounds_toArray, List.set_cons_succ, List.set_cons_zero]
            have hS0 := hSY
            clear hSY
            refine held_take 5 (v := _) rfl (by kernel_rfl) (by kernel_rfl) (by kernel_rfl) (fun _ _ _ h => h) (yieldsI_run rfl (fun w1 _ => exec_cmp rfl rfl rfl guard_sum HNE.out w1)) hS0 ?_
            simp only [Act.put, List.setIfInBounds_toArray, List.set_cons_succ, List.set_cons_zero]
            refine wpAnyH_done (by kernel_rfl) ?_ _
            have EY := hid ((HCC.out wY).1 hS0).base
            clear hS0 hCx hCA HCC
            cases hur : (u == root) with
            | true =>
              rw [hur, if_pos rfl] at hE
              subst hE
              go_wp2
              go_ret
              exact ⟨rfl, EY.out⟩
            | false =>
              rw [hur, if_neg (by decide)] at hE
              subst hE
              go_wp2
              go_ret
              exact ⟨rfl, EY.out⟩
    · rw [if_neg hn2] at hE
      subst hE
      have g1 : ((n : Int) - (M : Int) == 0) = false := by simp; omega
      have g2 : ((n : Int) - (M : Int) == 2) = false := by simp; omega
      have g3 : ((n : Int) == (M : Int)) = false := by simp; omega
      have g4 : (n == M) = false := by simp [hnm]
      have g5 : ((n : Int) == (M : Int) + 2) = false := by simp; omega
      have g6 : (n == M + 2) = false := by simp [hn2]
      go_wp2
      go_ret
      exact ⟨rfl, EwC.out⟩
end

section
open Go Go.RowKit

set_option maxRecDepth 100000 in
set_option maxHeartbeats 4000000 in
theorem rabsent_c (root k lv : List UInt8) (ls : List (List UInt8)) (a : Option Addr) (n c : Nat) (w : World) (hr : root.length = 32) (hk : k.length = 32) (hlv : lv.length = 32) (hn : ls.length = n) (hn63 : n ≤ 9223372036854775807) (h32 : All32 ls) (hcl : Cells w a (rows ls)) :
    Calls Try.prog 30 #[.agg (root.map u8v).toArray, .agg (k.map u8v).toArray, .agg (mpL lv (.slice a n c)).toArray] w fun e w' => e = .returned (.int .i64 (absentE root k lv ls)) ∧ Ext w w' := by
  have HR := hid (show (root.map u8v).length = 32 by rw [List.length_map, hr])
  have HK := hid (show (k.map u8v).length = 32 by rw [List.length_map, hk])
  have HZ := hid (show (zero32.map u8v).length = 32 by rw [List.length_map, zero32_len])
  have HL33 := hid (mpL_length hlv (.slice a n c))
  have HLE : Hid (0 + 32 ≤ (mpL lv (.slice a n c)).length) := hid (by rw [mpL_length hlv]; omega)
  have HLV := hid (mpL_lev hlv (.slice a n c))
  have HAT := hid (mpL_at hlv (.slice a n c))
  have HC := hid hcl
  have HKL := hid hk
  have HRL := hid hr
  have HN := hid hn
  have H32 := hid h32
  have hup := hid (fun s w' hs hcnt h => rup_c lv k s ls a n c w' hlv hk hs hn hcnt h32 h)
  have hupl := hid (fun s hs => upL_length (lv := lv) (k := k) (ls := ls) (depL lv 256) s hs)
  have hmk := hid (fun w' => depth_c lv (.slice a n c) w' hlv)
  have hc256 := cntL_le lv 256
  have hd256 := depL_le lv 256
  obtain ⟨E, hE⟩ : ∃ E, absentE root k lv ls = E := ⟨_, rfl⟩
  rw [hE]
  unfold absentE at hE
  rw [hn] at hE
  generalize depL lv 256 = D at *
  generalize cntL lv 256 = M at *
  generalize hvs : mpL lv (.slice a n c) = vs at *
  have HE := hid hE
  clear hr hk hlv hn h32 hcl hvs hE
  go_enter Try.func30, Try.ntmps30
  go_upto_region 1 with (fail)
  generalize hwA : World.alloc (World.alloc (World.alloc w _) _) _ = wA
  have rA : Blk wA w.heap.size (root.map u8v) 36 := by rw [← hwA]; exact ((Blk.mk_alloc rfl rfl).alloc _).alloc _
  have kA : Blk wA (w.heap.size + 1) (k.map u8v) 36 := by rw [← hwA]; exact (Blk.mk_alloc (by simp) rfl).alloc _
  have pA : Blk wA (w.heap.size + 2) vs 50 := by rw [← hwA]; exact Blk.mk_alloc (by simp) rfl
  have eA : Ext w wA := by rw [← hwA]; exact (((Ext.refl w).alloc _).alloc _).alloc _
  clear hwA
  have RA := hid rA
  have KA := hid kA
  have PA := hid pA
  have EA := hid eA
  clear rA kA pA eA
  go_wp2_with (first | (refine wpl_loadw rfl 50 (.tmp 5) rfl rfl PA.out agg_mproof HL33.out ?_))
  refine (hmk.out _).mono ?_
  rintro e wB ⟨rfl, eB⟩
  have RB := hid (RA.out.ext eB)
  have KB := hid (KA.out.ext eB)
  have PB := hid (PA.out.ext eB)
  have EB := hid (EA.out.ext eB)
  clear eB RA KA PA EA hmk
  go_upto_region 3 with (fail)
  generalize hwC : World.alloc wB _ = wC
  have bC : Blk wC wB.heap.size (zero32.map u8v) 36 := by rw [← hwC, zero32_map]; exact Blk.mk_alloc rfl rfl
  have eC : Ext wB wC := by rw [← hwC]; exact (Ext.refl wB).alloc _
  clear hwC
  have RwC := hid (RB.out.ext eC)
  have KwC := hid (KB.out.ext eC)
  have PwC := hid (PB.out.ext eC)
  have EwC := hid (EB.out.ext eC)
  have BwC := hid bC
  have hg9 : w.heap.size + 2 < wB.heap.size := PB.out.lt
  clear eC bC RB KB PB EB
  generalize wB.heap.size = g9 at *
  have c32 : wC.cell? ⟨w.heap.size + 2, 32, none⟩ = some (.slice a n c) := PwC.out.cell' HAT.out
  have hE := HE.out
  clear HE
  by_cases hnm : n = M
  · rw [if_pos hnm] at hE
    subst hnm
    have g1 : ((n : Int) - (n : Int)) = 0 := by omega
    have g2 : ((n : Int) == (n : Int)) = true := by simp
    have g3 : (n == n) = true := by simp
    have hupz := hid (fun w' h => hup.out zero32 w' zero32_len (Nat.le_refl _) h)
    have HNE := hid (fun w => neq_arr Try.underlying36 (upL lv k ls D zero32) root (hupl.out zero32 zero32_len) HRL.out w)
    generalize zero32 = zz at *
    generalize upL lv k ls D zz = u at *
    clear hup hupl
    go_wp2_with fail
    clear c32
    obtain ⟨C, hC⟩ : ∃ C : World → Prop, C = Cls w wC [w.heap.size, w.heap.size + 1, w.heap.size + 2, g9] [] := ⟨_, rfl⟩
    have hC0 : ∀ w', C w' ↔ Cls w wC [w.heap.size, w.heap.size + 1, w.heap.size + 2, g9] [] w' := fun w' => by rw [hC]
    clear hC
    have HCC := hid hC0
    clear hC0
    have hCx : ∀ w w', C w → Ext w w' → C w' := fun w w' h1 h2 => (HCC.out w').2 (((HCC.out w).1 h1).ext h2)
    have hCA : C wC := (HCC.out _).2 (Cls.no_room EwC.out (Kept.four RwC.out.lt KwC.out.lt PwC.out.lt BwC.out.lt))
    refine wp_region_held_drew (S := C) (by kernel_rfl) (hCx _ _ hCA (Ext.refl _).drew) (fun hS0 => ?_)
    refine held_take 0 (v := _) rfl (by kernel_rfl) (by kernel_rfl) (by kernel_rfl) (fun _ _ _ h => h) (yieldsI_loadw rfl 36 _ rfl rfl (fun w1 h => ((HCC.out w1).1 h).blk KwC.out (by simp)) agg_apisum HK.out) hS0 ?_
    simp only [Act.put, List.setIfInBounds_toArray, List.set_cons_succ, List.set_cons_zero]
    refine held_take 1 (v := _) rfl (by kernel_rfl) (by kernel_rfl) (by kernel_rfl) (fun _ _ _ h => h) (yieldsI_loadw rfl 36 _ rfl rfl (fun w1 h => ((HCC.out w1).1 h).blk BwC.out (by simp)) agg_apisum HZ.out) hS0 ?_
    simp only [Act.put, List.setIfInBounds_toArray, List.set_cons_succ, List.set_cons_zero]
    refine held_take 2 (v := _) rfl (by kernel_rfl) (by kernel_rfl) (by kernel_rfl) (fun _ _ _ h => h) (yieldsI_loadw rfl 50 _ rfl rfl (fun w1 h => ((HCC.out w1).1 h).blk PwC.out (by simp)) agg_mproof HL33.out) hS0 ?_
    simp only [Act.put, List.setIfInBounds_toArray, List.set_cons_succ, List.set_cons_zero]
    refine held_take 4 (v := _) rfl (by kernel_rfl) (by kernel_rfl) (by kernel_rfl) (fun _ _ _ h => h) (yieldsI_loadw rfl 36 _ rfl rfl (fun w1 h => ((HCC.out w1).1 h).blk RwC.out (by simp)) agg_apisum HR.out) hS0 ?_
    simp only [Act.put, List.setIfInBounds_toArray, List.set_cons_succ, List.set_cons_zero]
    generalize wC.drew = wX at *
    refine held_one (i := 3) (by kernel_rfl) rfl ?_
    intro Q' hQ
    go_wp2_with fail
    refine (hupz.out wX (HC.out.ext ((HCC.out wX).1 hS0).base)).mono ?_
    rintro e wY ⟨rfl, eY⟩
    have hSY := hCx _ _ hS0 eY
    go_wp2_with fail
    refine hQ _ _ hSY ?_
    clear hQ Q' hS0 eY
    try dsimp only
    try simp only [Act.put, List.setIfInBounds_toArray, List.set_cons_succ, List.set_cons_zero]
    have hS0 := hSY
    clear hSY
    refine held_take 5 (v := _) rfl (by kernel_rfl) (by kernel_rfl) (by kernel_rfl) (fun _ _ _ h => h) (yieldsI_run rfl (fun w1 _ => exec_cmp rfl rfl rfl guard_sum HNE.out w1)) hS0 ?_
    simp only [Act.put, List.setIfInBounds_toArray, List.set_cons_succ, List.set_cons_zero]
    refine wpAnyH_done (by kernel_rfl) ?_ _
    have EY := hid ((HCC.out wY).1 hS0).base
    clear hS0 hCx hCA HCC
    cases hur : (u == root) with
    | true =>
      rw [hur, if_pos rfl] at hE
      subst hE
      go_wp2
      go_ret
      exact ⟨rfl, EY.out⟩
    | false =>
      rw [hur, if_neg (by decide)] at hE
      subst hE
      go_wp2
      go_ret
      exact ⟨rfl, EY.out⟩
  · rw [if_neg hnm] at hE
    by_cases hn2 : n = M + 2
    · rw [if_pos hn2] at hE
      obtain ⟨o, ho⟩ : ∃ o, ls[M]? = some o := ⟨ls[M]'(by rw [HN.out]; omega), by simp⟩
      obtain ⟨v, hv⟩ : ∃ v, ls[M + 1]? = some v := ⟨ls[M + 1]'(by rw [HN.out]; omega), by simp⟩
      have hol : o.length = 32 := H32.out.at ho
      have hvl : v.length = 32 := H32.out.at hv
      obtain ⟨A, rfl, hca, hcb⟩ : ∃ A, a = some A ∧ CellsAt w (A.add (M * 32)) (o.map u8v) ∧ CellsAt w (A.add ((M + 1) * 32)) (v.map u8v) := by
        cases a with
        | none => rcases HC.out with h | ⟨_, _, h, _⟩
                  · have := rows_length H32.out; rw [h, HN.out] at this; simp at this; omega
                  · cases h
        | some A => exact ⟨A, rfl, HC.out.rowAt H32.out ho, HC.out.rowAt H32.out hv⟩
      have hE2 : (if (o == k) = true ∨ difL o k < D ∨ (v == zero32) = true then (12 : Int) else if upL lv k ls D (mleafL o v) == root then 0 else 12) = E := by rw [ho, hv] at hE; exact hE
      clear hE
      have hE := hE2
      clear hE2
      have HO := hid (show (o.map u8v).length = 32 by rw [List.length_map, hol])
      have HV := hid (show (v.map u8v).length = 32 by rw [List.length_map, hvl])
      have oo := one_u8 o
      have ov := one_u8 v
      have HCA := hid hca
      have HCB := hid hcb
      have HEO := hid (fun w => eq_arr Try.underlying36 o k hol HKL.out w)
      have HEV := hid (fun w => eq_arr Try.underlying36 v zero32 hvl zero32_len w)
      have hdf := hid (fun w' => rdiffer_c o k w' hol HKL.out)
      have hlf := hid (fun w' => rleafOf_c o v w' hol hvl)
      have hlfl := mleafL_length o v
      have HLF := hid (show ((mleafL o v).map u8v).length = 32 by rw [List.length_map, hlfl])
      have olf := one_u8 (mleafL o v)
      have hupz := hid (fun w' h => hup.out (mleafL o v) w' hlfl (by omega) h)
      have HNE := hid (fun w => neq_arr Try.underlying36 (upL lv k ls D (mleafL o v)) root (hupl.out _ hlfl) HRL.out w)
      have hdl := difF_le o k 256 0
      rw [show difF o k 256 0 = difL o k from rfl] at hdl
      obtain ⟨u, hu⟩ : ∃ u, upL lv k ls D (mleafL o v) = u := ⟨_, rfl⟩
      rw [hu] at hE hupz HNE
      obtain ⟨lf, hlf2⟩ : ∃ lf, mleafL o v = lf := ⟨_, rfl⟩
      rw [hlf2] at hupz hlf HLF olf
      obtain ⟨df, hdf2⟩ : ∃ df, difL o k = df := ⟨_, rfl⟩
      rw [hdf2] at hE hdf hdl
      clear hu hlf2 hdf2 hlfl
      obtain ⟨M1, hM1⟩ : ∃ M1, M1 = M + 1 := ⟨_, rfl⟩
      have hM1n : M1 < n := by omega
      have hMn : M < n := by omega
      have HM1 := hid hM1
      rw [← hM1] at HCB
      have g1 : ((n : Int) - (M : Int) == 0) = false := by simp; omega
      have g2 : ((n : Int) - (M : Int) == 2) = true := by simp; omega
      have g3 : ((n : Int) == (M : Int)) = false := by simp; omega
      have g4 : (n == M) = false := by simp [hnm]
      have g5 : ((n : Int) == (M : Int) + 2) = true := by simp; omega
      have g6 : (n == M + 2) = true := by simp [hn2]
      have hwm : IntKind.i64.wrap ((M : Int) + 1) = (M1 : Int) := by rw [IntWalk.i64_in _ (by omega)]; omega
      clear hca hcb ho hv hol hvl hup hupl hnm
      have HN2 := hid hn2
      clear hn2 hM1
      go_wp2_with fail
      clear c32
      obtain ⟨C, hC⟩ : ∃ C : World → Prop, C = Cls w wC [w.heap.size, w.heap.size + 1, w.heap.size + 2, g9] [] := ⟨_, rfl⟩
      have hC0 : ∀ w', C w' ↔ Cls w wC [w.heap.size, w.heap.size + 1, w.heap.size + 2, g9] [] w' := fun w' => by rw [hC]
      clear hC
      have HCC := hid hC0
      clear hC0
      have hCx : ∀ w w', C w → Ext w w' → C w' := fun w w' h1 h2 => (HCC.out w').2 (((HCC.out w).1 h1).ext h2)
      have hCA : C wC := (HCC.out _).2 (Cls.no_room EwC.out (Kept.four RwC.out.lt KwC.out.lt PwC.out.lt BwC.out.lt))
      have e32 : ∀ w1, C w1 → w1.cell? ⟨w.heap.size + 2, 32, none⟩ = some (.slice (some A) n c) := fun w1 h1 => (((HCC.out w1).1 h1).blk PwC.out (by simp)).cell' HAT.out
      have hca : ∀ w1, C w1 → CellsAt w1 (A.add (M * 32)) (o.map u8v) := fun w1 h1 => HCA.out.ext ((HCC.out w1).1 h1).base
      have hcb : ∀ w1, C w1 → CellsAt w1 (A.add (M1 * 32)) (v.map u8v) := fun w1 h1 => HCB.out.ext ((HCC.out w1).1 h1).base
      refine wp_region_held_drew (S := C) (by kernel_rfl) (hCx _ _ hCA (Ext.refl _).drew) (fun hS0 => ?_)
      refine held_take 0 (v := ?tv1) rfl (by kernel_rfl) (by kernel_rfl) (by kernel_rfl) (fun _ _ _ h => h) (.inl ⟨rfl, ?ty1⟩) hS0 ?tr1
      case ty1 => (intro _ _; go_simp; try with_reducible rfl)
      case tr1 =>
      simp only [Act.put, List.setIfInBounds_toArray, List.set_cons_succ, List.set_cons_zero]
      refine held_take 1 (v := ?tv2) rfl (by kernel_rfl) (by kernel_rfl) (by kernel_rfl) (fun _ _ _ h => h) (.inl ⟨rfl, ?ty2⟩) hS0 ?tr2
      case ty2 => (intro wq hwq; have hcq := (e32) wq hwq; go_simp; try with_reducible rfl)
      case tr2 =>
      simp only [Act.put, List.setIfInBounds_toArray, List.set_cons_succ, List.set_cons_zero]
      refine held_take 2 (v := ?tv3) rfl (by kernel_rfl) (by kernel_rfl) (by kernel_rfl) (fun _ _ _ h => h) (.inl ⟨rfl, ?ty3⟩) hS0 ?tr3
      case ty3 => (intro _ _; go_simp; try with_reducible rfl)
      case tr3 =>
      simp only [Act.put, List.setIfInBounds_toArray, List.set_cons_succ, List.set_cons_zero]
      refine held_take 3 (v := _) rfl (by kernel_rfl) (by kernel_rfl) (by kernel_rfl) (fun _ _ _ h => h) (yieldsI_run rfl (fun w1 _ => exec_index (i := M) rfl rfl rfl Try.underlying22 size_apisum hMn w1)) hS0 ?_
      simp only [Act.put, List.setIfInBounds_toArray, List.set_cons_succ, List.set_cons_zero]
      refine held_take 4 (v := _) rfl (by kernel_rfl) (by kernel_rfl) (by kernel_rfl) (fun _ _ _ h => h) (yieldsI_run rfl (fun w1 h => exec_load_at rfl rfl (hca w1 h) agg_apisum HO.out)) hS0 ?_
      simp only [Act.put, List.setIfInBounds_toArray, List.set_cons_succ, List.set_cons_zero]
      refine held_take 5 (v := ?tv4) rfl (by kernel_rfl) (by kernel_rfl) (by kernel_rfl) (fun _ _ _ h => h) (.inl ⟨rfl, ?ty4⟩) hS0 ?tr4
      case ty4 => (intro _ _; go_simp; try with_reducible rfl)
      case tr4 =>
      simp only [Act.put, List.setIfInBounds_toArray, List.set_cons_succ, List.set_cons_zero]
      refine held_take 6 (v := ?tv5) rfl (by kernel_rfl) (by kernel_rfl) (by kernel_rfl) (fun _ _ _ h => h) (.inl ⟨rfl, ?ty5⟩) hS0 ?tr5
      case ty5 => (intro wq hwq; have hcq := (e32) wq hwq; go_simp; try with_reducible rfl)
      case tr5 =>
      simp only [Act.put, List.setIfInBounds_toArray, List.set_cons_succ, List.set_cons_zero]
      refine held_take 7 (v := ?tv6) rfl (by kernel_rfl) (by kernel_rfl) (by kernel_rfl) (fun _ _ _ h => h) (.inl ⟨rfl, ?ty6⟩) hS0 ?tr6
      case ty6 => (intro _ _; go_simp; try with_reducible rfl)
      case tr6 =>
      simp only [Act.put, List.setIfInBounds_toArray, List.set_cons_succ, List.set_cons_zero]
      refine held_take 8 (v := ?tv7) rfl (by kernel_rfl) (by kernel_rfl) (by kernel_rfl) (fun _ _ _ h => h) (.inl ⟨rfl, ?ty7⟩) hS0 ?tr7
      case ty7 => (intro _ _; go_simp; try with_reducible rfl)
      case tr7 =>
      simp only [Act.put, List.setIfInBounds_toArray, List.set_cons_succ, List.set_cons_zero]
      refine held_take 9 (v := _) rfl (by kernel_rfl) (by kernel_rfl) (by kernel_rfl) (fun _ _ _ h => h) (yieldsI_run rfl (fun w1 _ => exec_index (i := M1) rfl rfl rfl Try.underlying22 size_apisum hM1n w1)) hS0 ?_
      simp only [Act.put, List.setIfInBounds_toArray, List.set_cons_succ, List.set_cons_zero]
      refine held_take 10 (v := _) rfl (by kernel_rfl) (by kernel_rfl) (by kernel_rfl) (fun _ _ _ h => h) (yieldsI_run rfl (fun w1 h => exec_load_at rfl rfl (hcb w1 h) agg_apisum HV.out)) hS0 ?_
      simp only [Act.put, List.setIfInBounds_toArray, List.set_cons_succ, List.set_cons_zero]
      clear hwm
      refine held_pair (A1 := 11) (A2 := 12) (S1 := 13) (vs := List.replicate 32 (.int .u8 0)) (xs := o.map u8v) (T := 36) (n := 32) (B := wC.heap.size) rfl rfl rfl rfl rfl rfl rfl rfl rfl (fun _ _ => rfl) (fun _ _ => rfl) rfl (fun _ _ => rfl) (fun _ _ => rfl) (fun _ _ => rfl) (by kernel_rfl) (by kernel_rfl) (by kernel_rfl) (by kernel_rfl) (by kernel_rfl) rfl (by kernel_rfl) hCx (fun w1 h1 => ((HCC.out w1).1 h1).kept.1) (fun w1 w2 g h1 hg u => (HCC.out w2).2 (Cls.upd ((HCC.out w1).1 h1) u hg EwC.out.size)) agg_apisum HO.out (by simp) oo hS0 ?_
      clear hS0
      intro p q w3 hS0 hp hq hpq b10 b11
      unfold ptrAt
      try dsimp only
      try simp only [Act.put, List.setIfInBounds_toArray, List.set_cons_succ, List.set_cons_zero]
      have B10 := hid b10
      have B11 := hid b11
      clear b10 b11
      refine held_one (i := 14) (by kernel_rfl) rfl ?_
      intro Q' hQ
      go_wp2_with (refine wpl_storew rfl _ _ _ rfl rfl rfl B11.out agg_apisum (by simp) HV.out ov ?_)
      intro wD bD uD
      have hSD : C wD := (HCC.out wD).2 (Cls.upd ((HCC.out w3).1 hS0) uD hq EwC.out.size)
      have B10D := hid (B10.out.upd uD hpq)
      have B11D := hid bD
      refine hQ _ _ hSD ?_
      clear hQ Q' hS0 B10 B11 uD bD
      refine wpAnyH_done (by kernel_rfl) ?_ _
      have RD := hid (((HCC.out wD).1 hSD).blk RwC.out (by simp))
      have KD := hid (((HCC.out wD).1 hSD).blk KwC.out (by simp))
      have PD := hid (((HCC.out wD).1 hSD).blk PwC.out (by simp))
      have BD := hid (((HCC.out wD).1 hSD).blk BwC.out (by simp))
      have ED := hid ((HCC.out wD).1 hSD).base
      have hg9C : g9 < wC.heap.size := BwC.out.lt
      clear hSD hCx hCA HCC e32 hca hcb RwC KwC PwC BwC EwC
      cases hok : (o == k) with
      | true =>
        rw [hok, if_pos (.inl rfl)] at hE
        rw [hok] at HEO
        subst hE
        clear hok
        go_wp2_with (first | (refine wpl_loadw rfl 36 (.tmp 10) rfl rfl B10D.out agg_apisum HO.out ?_) | (refine wpl_loadw rfl 36 (.tmp 4) rfl rfl KD.out agg_apisum HK.out ?_) | (refine wpg_loadw rfl 36 (.tmp 10) rfl rfl B10D.out agg_apisum HO.out ?_) | (refine wpg_loadw rfl 36 (.tmp 4) rfl rfl KD.out agg_apisum HK.out ?_) | (refine wpg_loadw rfl 36 (.tmp 11) rfl rfl B11D.out agg_apisum HV.out ?_) | (refine wpg_cmp rfl .eql _ _ _ _ rfl rfl rfl guard_sum HEO.out ?_) | (refine wpg_cmp rfl .eql _ _ _ _ rfl rfl rfl guard_sum HEV.out ?_))
        go_ret
        exact ⟨rfl, ED.out⟩
      | false =>
        rw [hok] at HEO
        cases hvz : (v == zero32) with
        | true =>
          rw [hvz, if_pos (.inr (.inr rfl))] at hE
          rw [hvz] at HEV
          subst hE
          clear hok hvz
          go_wp2_with (first | (refine wpl_loadw rfl 36 (.tmp 10) rfl rfl B10D.out agg_apisum HO.out ?_) | (refine wpl_loadw rfl 36 (.tmp 4) rfl rfl KD.out agg_apisum HK.out ?_) | (refine wpg_loadw rfl 36 (.tmp 10) rfl rfl B10D.out agg_apisum HO.out ?_) | (refine wpg_loadw rfl 36 (.tmp 4) rfl rfl KD.out agg_apisum HK.out ?_) | (refine wpg_loadw rfl 36 (.tmp 11) rfl rfl B11D.out agg_apisum HV.out ?_) | (refine wpg_cmp rfl .eql _ _ _ _ rfl rfl rfl guard_sum HEO.out ?_) | (refine wpg_cmp rfl .eql _ _ _ _ rfl rfl rfl guard_sum HEV.out ?_))
          go_ret
          exact ⟨rfl, ED.out⟩
        | false =>
          rw [hvz] at HEV
          go_wp2_with (first | (refine wpl_loadw rfl 36 (.tmp 10) rfl rfl B10D.out agg_apisum HO.out ?_) | (refine wpl_loadw rfl 36 (.tmp 4) rfl rfl KD.out agg_apisum HK.out ?_) | (refine wpg_loadw rfl 36 (.tmp 10) rfl rfl B10D.out agg_apisum HO.out ?_) | (refine wpg_loadw rfl 36 (.tmp 4) rfl rfl KD.out agg_apisum HK.out ?_) | (refine wpg_loadw rfl 36 (.tmp 11) rfl rfl B11D.out agg_apisum HV.out ?_) | (refine wpg_cmp rfl .eql _ _ _ _ rfl rfl rfl guard_sum HEO.out ?_) | (refine wpg_cmp rfl .eql _ _ _ _ rfl rfl rfl guard_sum HEV.out ?_))
          refine (hdf.out wD).mono ?_
          rintro e wE ⟨rfl, eE⟩
          have RE := hid (RD.out.ext eE)
          have KE := hid (KD.out.ext eE)
          have PE := hid (PD.out.ext eE)
          have BE := hid (BD.out.ext eE)
          have EE := hid (ED.out.ext eE)
          have B10E := hid (B10D.out.ext eE)
          have B11E := hid (B11D.out.ext eE)
          clear eE
          by_cases hlt : df < D
          · have g7 : decide ((df : Int) < (D : Int)) = true := decide_eq_true (by omega)
            have g8 : decide (df < D) = true := decide_eq_true hlt
            rw [if_pos (.inr (.inl hlt))] at hE
            subst hE
            go_wp2_with (first | (refine wpl_loadw rfl 36 (.tmp 10) rfl rfl B10E.out agg_apisum HO.out ?_) | (refine wpl_loadw rfl 36 (.tmp 4) rfl rfl KE.out agg_apisum HK.out ?_) | (refine wpg_loadw rfl 36 (.tmp 10) rfl rfl B10E.out agg_apisum HO.out ?_) | (refine wpg_loadw rfl 36 (.tmp 4) rfl rfl KE.out agg_apisum HK.out ?_) | (refine wpg_loadw rfl 36 (.tmp 11) rfl rfl B11E.out agg_apisum HV.out ?_) | (refine wpg_cmp rfl .eql _ _ _ _ rfl rfl rfl guard_sum HEO.out ?_) | (refine wpg_cmp rfl .eql _ _ _ _ rfl rfl rfl guard_sum HEV.out ?_))
            go_ret
            exact ⟨rfl, EE.out⟩
          · have g7 : decide ((df : Int) < (D : Int)) = false := decide_eq_false (by omega)
            have g8 : decide (df < D) = false := decide_eq_false hlt
            have hno : ¬ ((o == k) = true ∨ df < D ∨ (v == zero32) = true) := by
              rw [hok, hvz]
              intro h
              rcases h with h | h | h
              · cases h
              · exact hlt h
              · cases h
            rw [if_neg hno] at hE
            clear hno
            go_wp2_with (first | (refine wpl_loadw rfl 36 (.tmp 10) rfl rfl B10E.out agg_apisum HO.out ?_) | (refine wpl_loadw rfl 36 (.tmp 4) rfl rfl KE.out agg_apisum HK.out ?_) | (refine wpg_loadw rfl 36 (.tmp 10) rfl rfl B10E.out agg_apisum HO.out ?_) | (refine wpg_loadw rfl 36 (.tmp 4) rfl rfl KE.out agg_apisum HK.out ?_) | (refine wpg_loadw rfl 36 (.tmp 11) rfl rfl B11E.out agg_apisum HV.out ?_) | (refine wpg_cmp rfl .eql _ _ _ _ rfl rfl rfl guard_sum HEO.out ?_) | (refine wpg_cmp rfl .eql _ _ _ _ rfl rfl rfl guard_sum HEV.out ?_) | (refine wpl_loadw rfl 36 (.tmp 11) rfl rfl B11E.out agg_apisum HV.out ?_))
            refine (hlf.out _).mono ?_
            rintro e wF ⟨rfl, eF⟩
            have RF := hid (RE.out.ext eF)
            have KF := hid (KE.out.ext eF)
            have PF := hid (PE.out.ext eF)
            have BF := hid (BE.out.ext eF)
            have EF := hid (EE.out.ext eF)
            clear eF RE KE PE BE EE B10E B11E
            go_wp2_with (first | (refine wpl_storew rfl _ (.tmp 9) _ rfl rfl rfl BF.out agg_apisum HZ.out HLF.out olf ?_))
            intro wG bG uG
            have RwG := hid (RF.out.upd uG (by omega))
            have KwG := hid (KF.out.upd uG (by omega))
            have PwG := hid (PF.out.upd uG (by omega))
            have EwG := hid (uG.ext EF.out (by omega))
            have BwG := hid bG
            clear bG uG RF KF PF BF EF RD KD PD BD ED B10D B11D
            go_wp2_with fail
            obtain ⟨C, hC⟩ : ∃ C : World → Prop, C = Cls w wG [w.heap.size, w.heap.size + 1, w.heap.size + 2, g9] [] := ⟨_, rfl⟩
            have hC0 : ∀ w', C w' ↔ Cls w wG [w.heap.size, w.heap.size + 1, w.heap.size + 2, g9] [] w' := fun w' => by rw [hC]
            clear hC
            have HCC := hid hC0
            clear hC0
            have hCx : ∀ w w', C w → Ext w w' → C w' := fun w w' h1 h2 => (HCC.out w').2 (((HCC.out w).1 h1).ext h2)
            have hCA : C wG := (HCC.out _).2 (Cls.no_room EwG.out (Kept.four RwG.out.lt KwG.out.lt PwG.out.lt BwG.out.lt))
            refine wp_region_held_drew (S := C) (by kernel_rfl) (hCx _ _ hCA (Ext.refl _).drew) (fun hS0 => ?_)
            refine held_take 0 (v := _) rfl (by kernel_rfl) (by kernel_rfl) (by kernel_rfl) (fun _ _ _ h => h) (yieldsI_loadw rfl 36 _ rfl rfl (fun w1 h => ((HCC.out w1).1 h).blk KwG.out (by simp)) agg_apisum HK.out) hS0 ?_
            simp only [Act.put, List.setIfInBounds_toArray, List.set_cons_succ, List.set_cons_zero]
            refine held_take 1 (v := _) rfl (by kernel_rfl) (by kernel_rfl) (by kernel_rfl) (fun _ _ _ h => h) (yieldsI_loadw rfl 36 _ rfl rfl (fun w1 h => ((HCC.out w1).1 h).blk BwG.out (by simp)) agg_apisum HLF.out) hS0 ?_
            simp only [Act.put, List.setIfInBounds_toArray, List.set_cons_succ, List.set_cons_zero]
            refine held_take 2 (v := _) rfl (by kernel_rfl) (by kernel_rfl) (by kernel_rfl) (fun _ _ _ h => h) (yieldsI_loadw rfl 50 _ rfl rfl (fun w1 h => ((HCC.out w1).1 h).blk PwG.out (by simp)) agg_mproof HL33.out) hS0 ?_
            simp only [Act.put, List.setIfInBounds_toArray, List.set_cons_succ, List.set_cons_zero]
            refine held_take 4 (v := _) rfl (by kernel_rfl) (by kernel_rfl) (by kernel_rfl) (fun _ _ _ h => h) (yieldsI_loadw rfl 36 _ rfl rfl (fun w1 h => ((HCC.out w1).1 h).blk RwG.out (by simp)) agg_apisum HR.out) hS0 ?_
            simp only [Act.put, List.setIfInBounds_toArray, List.set_cons_succ, List.set_cons_zero]
            generalize wG.drew = wX at *
            refine held_one (i := 3) (by kernel_rfl) rfl ?_
            intro Q' hQ
            go_wp2_with fail
            refine (hupz.out wX (HC.out.ext ((HCC.out wX).1 hS0).base)).mono ?_
            rintro e wY ⟨rfl, eY⟩
            have hSY := hCx _ _ hS0 eY
            go_wp2_with fail
            refine hQ _ _ hSY ?_
            clear hQ Q' hS0 eY
            try dsimp only
            try simp only [Act.put, List.setIfInBounds_toArray, List.set_cons_succ, List.set_cons_zero]
            have hS0 := hSY
            clear hSY
            refine held_take 5 (v := _) rfl (by kernel_rfl) (by kernel_rfl) (by kernel_rfl) (fun _ _ _ h => h) (yieldsI_run rfl (fun w1 _ => exec_cmp rfl rfl rfl guard_sum HNE.out w1)) hS0 ?_
            simp only [Act.put, List.setIfInBounds_toArray, List.set_cons_succ, List.set_cons_zero]
            refine wpAnyH_done (by kernel_rfl) ?_ _
            have EY := hid ((HCC.out wY).1 hS0).base
            clear hS0 hCx hCA HCC
            cases hur : (u == root) with
            | true =>
              rw [hur, if_pos rfl] at hE
              subst hE
              go_wp2
              go_ret
              exact ⟨rfl, EY.out⟩
            | false =>
              rw [hur, if_neg (by decide)] at hE
              subst hE
              go_wp2
              go_ret
              exact ⟨rfl, EY.out⟩
    · rw [if_neg hn2] at hE
      subst hE
      have g1 : ((n : Int) - (M : Int) == 0) = false := by simp; omega
      have g2 : ((n : Int) - (M : Int) == 2) = false := by simp; omega
      have g3 : ((n : Int) == (M : Int)) = false := by simp; omega
      have g4 : (n == M) = false := by simp [hnm]
      have g5 : ((n : Int) == (M : Int) + 2) = false := by simp; omega
      have g6 : (n == M + 2) = false := by simp [hn2]
      go_wp2
      go_ret
      exact ⟨rfl, EwC.out⟩
end

section
open Go Go.RowKit

/-- from level i (not itself) up to level D, with nothing beside -/
def downL (k : List UInt8) (D : Nat) : Nat → List UInt8 → List UInt8
  | 0, s => s
  | i + 1, s => if D ≤ i then downL k D i (sideL k i s zero32) else s
theorem downL_self (k : List UInt8) (D : Nat) (s : List UInt8) : downL k D D s = s := by
  cases D with
  | zero => rfl
  | succ D => simp only [downL]; rw [if_neg (by omega)]
theorem downL_out (k : List UInt8) (D i : Nat) (s : List UInt8) (h : D < i) : downL k D i s = sideL k D (downL k (D + 1) i s) zero32 := by
  induction i generalizing s with
  | zero => omega
  | succ i ih =>
    have e1 : downL k D (i + 1) s = downL k D i (sideL k i s zero32) := by simp only [downL]; rw [if_pos (by omega)]
    rw [e1]
    by_cases hd : D = i
    · subst hd
      rw [downL_self, downL_self]
    · have e2 : downL k (D + 1) (i + 1) s = downL k (D + 1) i (sideL k i s zero32) := by
        have : downL k (D + 1) (i + 1) s = if D + 1 ≤ i then downL k (D + 1) i (sideL k i s zero32) else s := rfl
        rw [this, if_pos (by omega)]
      rw [e2]
      exact ih _ (by omega)
theorem downL_length {k : List UInt8} {D : Nat} (i : Nat) (s : List UInt8) (h : s.length = 32) : (downL k D i s).length = 32 := by
  induction i generalizing s with
  | zero => exact h
  | succ i ih => simp only [downL]; split
                 · exact ih _ (sideL_length _ _ _ _)
                 · exact h
theorem difF_spec (a b : List UInt8) (f i : Nat) : (∀ j, i ≤ j → j < difF a b f i → bitL a j = bitL b j) ∧ (difF a b f i < i + f → bitL a (difF a b f i) ≠ bitL b (difF a b f i)) ∧ i ≤ difF a b f i := by
  induction f generalizing i with
  | zero => exact ⟨fun j h1 h2 => by simp only [difF] at h2; omega, fun h => by simp only [difF] at h; omega, Nat.le_refl _⟩
  | succ f ih =>
    have hd : difF a b (f + 1) i = if bitL a i = bitL b i then difF a b f (i + 1) else i := rfl
    by_cases he : bitL a i = bitL b i
    · rw [if_pos he] at hd
      rw [hd]
      obtain ⟨h1, h2, h3⟩ := ih (i + 1)
      refine ⟨fun j hj hj2 => ?_, fun h => h2 (by omega), by omega⟩
      by_cases hji : j = i
      · subst hji; exact he
      · exact h1 j (by omega) hj2
    · rw [if_neg he] at hd
      rw [hd]
      exact ⟨fun j h1 h2 => by omega, fun _ => he, Nat.le_refl _⟩
theorem difL_same (a b : List UInt8) {j : Nat} (h : j < difL a b) : bitL a j = bitL b j := (difF_spec a b 256 0).1 j (by omega) h
theorem difL_part (a b : List UInt8) (h : difL a b < 256) : bitL a (difL a b) ≠ bitL b (difL a b) := (difF_spec a b 256 0).2.1 (by unfold difL at h; omega)
theorem bits_octet : ∀ x : Fin 256, x.val = x.val / 128 % 2 * 128 + x.val / 64 % 2 * 64 + x.val / 32 % 2 * 32 + x.val / 16 % 2 * 16 + x.val / 8 % 2 * 8 + x.val / 4 % 2 * 4 + x.val / 2 % 2 * 2 + x.val % 2 := by decide +kernel
theorem difL_lt {a b : List UInt8} (ha : a.length = 32) (hb : b.length = 32) (hne : a ≠ b) : difL a b < 256 := by
  apply Nat.lt_of_not_le
  intro hge
  apply hne
  apply List.ext_getElem (by rw [ha, hb])
  intro i h1 h2
  have e : ∀ j, j < 8 → (a[i]?.getD 0).toNat / 2 ^ (7 - j) % 2 = (b[i]?.getD 0).toNat / 2 ^ (7 - j) % 2 := fun j hj => by
    rw [← bitL_8 a i j hj, ← bitL_8 b i j hj]; exact difL_same a b (by omega)
  rw [List.getElem?_eq_getElem h1, List.getElem?_eq_getElem h2] at e
  have ex : ∀ z : UInt8, (some z).getD 0 = z := fun _ => rfl
  rw [ex, ex] at e
  have h0 := e 0 (by omega)
  have h1' := e 1 (by omega)
  have h2' := e 2 (by omega)
  have h3 := e 3 (by omega)
  have h4 := e 4 (by omega)
  have h5 := e 5 (by omega)
  have h6 := e 6 (by omega)
  have h7 := e 7 (by omega)
  simp only [Nat.reduceSub, Nat.reducePow, Nat.div_one, Nat.sub_zero] at h0 h1' h2' h3 h4 h5 h6 h7
  have ba := bits_octet ⟨a[i].toNat, a[i].toNat_lt⟩
  have bb := bits_octet ⟨b[i].toNat, b[i].toNat_lt⟩
  simp only at ba bb
  apply UInt8.toNat_inj.1
  omega
end

section
open Go Go.RowKit

theorem agg_entry : AggT Try.prog 88 64 := ⟨⟨_, Try.underlying88, rfl⟩, by kernel_rfl⟩
theorem info_entry : (Try.prog.info? 88).map (fun i => (i.zero, i.size, i.bytes)) = some (some (.agg (List.replicate 64 (.int .u8 0)).toArray), 64, 64) := by kernel_rfl
theorem zentry_size : (Value.agg (List.replicate 64 (.int .u8 0)).toArray).cells.size = 64 := by simp [Value.cells]
theorem wpl_append_entry {ops : Array Oper} {rest : List Oper} {o : Oper} {a : Act} {w : World} {Q : Exit → Act → World → Prop} (hgd : o.guard = none) (s x : Operand)
    (ho : o.op = .call { callee := .builtin .append, args := #[s, x], argTypes := #[89, 89] }) (base : Nat) {v : Value} {n c g : Nat} {ls : List (List UInt8)} {y : List UInt8} {T : TypeId}
    (hs : a.eval s = v) (hx : a.eval x = .slice (some ⟨g, 0, none⟩) 1 c) (hown : w.ownsRow base 88 64 v n (rows ls)) (hy : y.length = 64) (hb : Blk w g (y.map u8v) T)
    (hn : (n + 1) * 64 ≤ 140737488355328) (hbase : base ≤ w.heap.size)
    (h : ∀ v' w', w'.ownsRow base 88 64 v' (n + 1) (rows (ls ++ [y])) → w.grownBy w' v.ownBlock → wpList Try.prog ops Q rest (a.put o.dst v') w') : wpList Try.prog ops Q (o :: rest) a w := by
  obtain ⟨i0, hi, hz, hsz, hb1⟩ := info_parts info_entry
  exact wpList_append_own w hgd s x 89 ho base 88 i0 _ 64 64 Try.underlying89 hi hz hsz hb1 zentry_size (by decide) v n (rows ls) hs hown ⟨g, 0, none⟩ 1 c (y.map u8v) hx
    (by rw [List.length_map, hy]) (news_blk hb) (one_u8 _) (by unfold maxLen; omega) hn hbase (fun v' w' h1 h2 _ => h v' w' (by rw [rows_append, rows_one]; exact h1) h2)
theorem fill_entry (y : List UInt8) (hy : y.length = 64) (cells : Array Value) (hc : cells.size = 64) : Instr.fill (fun i => some (i * 64, 64)) cells [(0, .agg (y.map u8v).toArray)] = some (y.map u8v).toArray := by
  have h := Great.fill_whole (s := 64) (by omega) [.agg (y.map u8v).toArray] cells (by intro v hv; rw [List.mem_singleton.1 hv]; simp [Value.cells, hy]) (by simp [hc])
  simpa [Value.cells] using h
theorem wpl_buildEntry {ops : Array Oper} {rest : List Oper} {o : Oper} {a : Act} {w : World} {Q : Exit → Act → World → Prop} (hgd : o.guard = none) {x : Operand} {y : List UInt8} (ho : o.op = .buildSlice 89 1 #[(0, x)]) (hx : a.eval x = .agg (y.map u8v).toArray) (hy : y.length = 64)
    (h : wpList Try.prog ops Q rest (a.put o.dst (.slice (some ⟨w.heap.size, 0, none⟩) 1 1)) (w.alloc (.cells (y.map u8v).toArray 88))) : wpList Try.prog ops Q (o :: rest) a w := by
  obtain ⟨i0, hi, hz, hsz, hb1⟩ := info_parts info_entry
  refine wpl_step hgd ?_ h
  have h1 := run_buildSlice (P := Try.prog) w 89 88 1 #[(0, .agg (y.map u8v).toArray)] (y.map u8v).toArray i0 _ Try.underlying89 hi hz (by rw [hsz]; simp [Value.cells]) (by rw [hsz]; omega) (by rw [hsz]; exact fill_entry y hy _ (by simp))
  have he : (#[(0, x)].map fun (p : Nat × Operand) => (p.1, a.eval p.2)) = #[(0, .agg (y.map u8v).toArray)] := by simp [hx]
  have h2 : (Instr.buildSlice 89 1 (#[(0, x)].map fun (p : Nat × Operand) => (p.1, a.eval p.2))).run Try.prog w = .ok (.slice (some ⟨w.heap.size, 0, none⟩) 1 1) (w.alloc (.cells (y.map u8v).toArray 88)) := by rw [he]; exact h1
  unfold execOp
  simp only [ho, Sem.run_bind]
  rw [h2]
  rfl
end
end Go.Proofs.Ytfiigjdiohmkmaa
