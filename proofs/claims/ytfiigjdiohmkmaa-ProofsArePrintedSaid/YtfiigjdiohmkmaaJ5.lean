/- Contracts and laws that the claim's row leans on (2 texts, joined): ProofsArePrinted; conditions: the lengths. Readings of slices of rows of 32 octets, and of a struct of two ints and such a slice, are opened; no condition. -/
import Derived.Test.YtfiigjdiohmkmaaJ4
import Derived.Deep.Strs
namespace Go.Proofs.Ytfiigjdiohmkmaa
section
open Go Go.RowKit

def pI (l : List UInt8) : Int := if parseE l = 0 then long8 l 0 else 0
def pZ (l : List UInt8) : Int := if parseE l = 0 then long8 l 8 else 0
def pN (l : List UInt8) : Int := if parseE l = 0 then ((20 + 32 * manyL l : Nat) : Int) else 0
def pR (l : List UInt8) : List (List UInt8) := if parseE l = 0 then rowsOf l (manyL l) else []
theorem parseE_zero {l : List UInt8} (h : parseE l = 0) : 20 + 32 * manyL l ≤ l.length := by
  unfold parseE at h
  by_cases h1 : l.length < 20
  · rw [if_pos h1] at h; omega
  · rw [if_neg h1] at h
    by_cases h2 : l.length < 20 + 32 * manyL l
    · rw [if_pos h2] at h; omega
    · omega
theorem pR_32 (l : List UInt8) : All32 (pR l) := by
  unfold pR
  by_cases h : parseE l = 0
  · rw [if_pos h]; exact rowsOf_32 (parseE_zero h)
  · rw [if_neg h]; intro x hx; cases hx
theorem pR_le (l : List UInt8) : 32 * (pR l).length ≤ l.length := by
  unfold pR
  by_cases h : parseE l = 0
  · rw [if_pos h, rowsOf_length]; have := parseE_zero h; omega
  · rw [if_neg h]; simp
theorem parsed {l : List UInt8} {w w' : World} {e : Ending} (h : parsePost l w e w') :
    ∃ a c, e = .returned (.tuple #[.agg #[.int .i64 (pI l), .int .i64 (pZ l), .slice a (pR l).length c], .int .i64 (pN l), .int .i64 (parseE l)]) ∧ Cells w' a (rows (pR l)) ∧ Ext w w' := by
  obtain ⟨I, Z, N, pv, rfl, hi, he⟩ := h
  unfold pI pZ pN pR
  by_cases h0 : parseE l = 0
  · rw [if_pos h0] at hi
    obtain ⟨rfl, rfl, rfl, ho⟩ := hi
    obtain ⟨a, c, rfl, _, _, _, hc⟩ := own_sliceT (by omega) ho
    simp only [if_pos h0, rowsOf_length]
    exact ⟨a, c, rfl, hc, he⟩
  · rw [if_neg h0] at hi
    obtain ⟨rfl, rfl, rfl, rfl⟩ := hi
    simp only [if_neg h0]
    exact ⟨none, 0, rfl, .inl rfl, he⟩
def prL (I Z : Int) (ls : List (List UInt8)) : List UInt8 := if printE I Z ls.length = 0 then printL I Z ls else []
theorem printed {I Z : Int} {ls : List (List UInt8)} (h32 : All32 ls) {w w' : World} {e : Ending} (h : printPost I Z ls w e w') :
    ∃ a c, e = .returned (.tuple #[.slice a (prL I Z ls).length c, .int .i64 (printE I Z ls.length)]) ∧ Cells w' a ((prL I Z ls).map u8v) ∧ Ext w w' ∧ (printE I Z ls.length = 0 → w'.ownsRow w.heap.size 5 1 (.slice a (prL I Z ls).length c) (prL I Z ls).length ((prL I Z ls).map u8v)) := by
  obtain ⟨v, rfl, hi, he⟩ := h
  unfold prL
  by_cases h0 : printE I Z ls.length = 0
  · rw [if_pos h0] at hi
    simp only [if_pos h0, printL_length I Z h32]
    obtain ⟨a, c, rfl, _, _, _, hc⟩ := own_slice hi
    exact ⟨a, c, rfl, hc, he, fun _ => hi⟩
  · rw [if_neg h0] at hi
    subst hi
    simp only [if_neg h0]
    exact ⟨none, 0, rfl, .inl rfl, he, fun h => absurd h (by first | exact h0 | exact fun x => x)⟩
theorem printE_zero {I Z : Int} {m : Nat} (h : printE I Z m = 0) : 0 ≤ I ∧ I ≤ 65536 ∧ 0 ≤ Z ∧ Z ≤ 65536 ∧ m ≤ 64 := by
  unfold printE at h
  by_cases h1 : I < 0 ∨ 65536 < I ∨ Z < 0 ∨ 65536 < Z
  · rw [if_pos h1] at h; omega
  · rw [if_neg h1] at h
    by_cases h2 : 64 < m
    · rw [if_pos h2] at h; omega
    · omega
theorem printed_parsed {I Z : Int} {ls : List (List UInt8)} (h32 : All32 ls) (h : printE I Z ls.length = 0) (post : List UInt8) :
    parseE (prL I Z ls ++ post) = 0 ∧ pI (prL I Z ls ++ post) = I ∧ pZ (prL I Z ls ++ post) = Z ∧ pR (prL I Z ls ++ post) = ls ∧ pN (prL I Z ls ++ post) = ((prL I Z ls).length : Nat) ∧ ls.length ≤ 64 := by
  obtain ⟨h1, h2, h3, h4, h5⟩ := printE_zero h
  obtain ⟨i, rfl⟩ := Int.eq_ofNat_of_zero_le h1
  obtain ⟨z, rfl⟩ := Int.eq_ofNat_of_zero_le h3
  obtain ⟨a1, a2, a3, a4, a5⟩ := parse_print (I := i) (Z := z) (ls := ls) (by omega) (by omega) h5 h32 post
  unfold prL
  rw [if_pos h]
  unfold pI pZ pR pN
  rw [if_pos a1, if_pos a1, if_pos a1, if_pos a1, a2, a3, a4, a5, printL_length _ _ h32]
  exact ⟨a1, rfl, rfl, rfl, rfl, h5⟩

theorem prL_le {I Z : Int} {ls : List (List UInt8)} (h32 : All32 ls) : (prL I Z ls).length ≤ 2068 := by
  unfold prL
  by_cases h : printE I Z ls.length = 0
  · rw [if_pos h, printL_length _ _ h32]; have := printE_zero h; omega
  · rw [if_neg h]; simp

/-- a guarded load of a whole block -/
theorem wpl_loadw_g {P : Program} {ops : Array Oper} {Q : Exit → Act → World → Prop} {a : Act} {w : World} {rest : List Oper} {o : Oper} (hw : Region.wanted o (yielded ops a.tmps) = true) (ty : TypeId) (x : Operand) (ho : o.op = .load ty x) {g : Nat} {vs : List Value} {T : TypeId}
    (hx : a.eval x = .pointer (some ⟨g, 0, none⟩)) (hb : Blk w g vs T) {n : Nat} (ht : AggT P ty n) (hn : vs.length = n)
    (h : wpList P ops Q rest (a.put o.dst (.agg vs.toArray)) w) : wpList P ops Q (o :: rest) a w :=
  wpList_step fun K hK => by
    rw [if_pos hw]
    have h1 := run_load_sub (P := P) (off := 0) hb ht (by omega)
    have h2 : (vs.drop 0).take n = vs := by simp [← hn]
    rw [h2] at h1
    unfold Oper.wp execOp
    simp only [ho, hx, Instr.loadAt, Instr.sureAddr, Sem.run_bind, Sem.run_pure, Result.andThen_ok, h1]
    exact hK _ _ h

set_option maxRecDepth 100000 in
set_option maxHeartbeats 2000000 in
theorem proofsArePrinted_c (I Z : Int) (a : Option Addr) (n c : Nat) (ls : List (List UInt8)) (b : Option Addr) (m d : Nat) (l : List UInt8) (w : World) (hn : ls.length = n) (h32 : All32 ls) (hnc : n ≤ c) (hcl : Cells w a (rows ls)) (hm : l.length = m) (hm47 : m ≤ 140737488355328) (hmd : m ≤ d) (hb : Cells w b (l.map u8v)) :
    Calls Try.prog 3 #[.agg #[.int .i64 I, .int .i64 Z, .slice a n c], .slice b m d] w fun e w' => e = .returned (.bool true) ∧ Ext w w' := by
  have hp1 := hid (fun w' h => printProof_c I Z ls n c a w' h32 hn hnc h)
  have hp2 := hid (fun w' h => rprintProof_c I Z ls n c a w' h32 hn hnc h)
  have hq1 := hid (fun w' h => parseProof_c l b m d w' hm hm47 hmd h)
  have hq2 := hid (fun w' h => rparseProof_c l b m d w' hm hm47 hmd h)
  have H32 := hid h32
  have HN := hid hn
  have HA := hid hcl
  have HB := hid hb
  have hpl := pR_le l
  have hrl : (pR l).length ≤ 4611686018427387904 := by omega
  have HPR := hid (pR_32 l)
  have HPL := hid (fun w' a b c d h1 h2 => sameProof_c (pI l) (pZ l) (pR l) a b _ c d w' rfl hrl (pR_32 l) h1 h2)
  have HPD := hid (fun w' e w'' (h : parsePost l w' e w'') => parsed h)
  have HPT := hid (fun w' e w'' (h : printPost I Z ls w' e w'') => printed h32 h)
  have HPP := hid (fun h => printed_parsed (I := I) (Z := Z) (ls := ls) h32 h [1, 2])
  have hPLn := prL_le (I := I) (Z := Z) h32
  generalize pI l = I1 at *
  generalize pZ l = Z1 at *
  generalize pR l = R1 at *
  generalize pN l = N1 at *
  generalize parseE l = E1 at *
  generalize hPL : prL I Z ls = PL at *
  generalize hE : printE I Z ls.length = E at *
  generalize R1.length = M1 at *
  clear h32 hn hcl hb hm hPL hE hpl hrl
  go_enter Try.func3, Try.ntmps3
  go_upto_region 1 with (fail)
  generalize hwA : World.alloc w _ = wA
  have pA : Blk wA w.heap.size [.int .i64 I, .int .i64 Z, .slice a n c] 24 := by rw [← hwA]; exact Blk.mk_alloc rfl rfl
  have eA : Ext w wA := by rw [← hwA]; exact (Ext.refl w).alloc _
  clear hwA
  have PA := hid pA
  have EA := hid eA
  clear pA eA
  go_wp2_with (first | (refine wpl_loadw rfl 24 _ rfl rfl PA.out agg_proof rfl ?_))
  refine (hp1.out wA (HA.out.ext EA.out)).mono ?_
  intro e wB hpost
  obtain ⟨x1, k1, rfl, hc1, e1, ho1⟩ := HPT.out _ _ _ hpost
  have PB := hid (PA.out.ext e1)
  have EB := hid (EA.out.ext e1)
  have C1 := hid hc1
  have O1 := hid ho1
  have hAB : w.heap.size < wA.heap.size := PA.out.lt
  have hAB2 : wA.heap.size ≤ wB.heap.size := e1.size
  clear hpost hc1 e1 ho1 PA EA
  go_wp2_with (first | (refine wpl_loadw rfl 24 _ rfl rfl PB.out agg_proof rfl ?_))
  refine (hp2.out wB (HA.out.ext EB.out)).mono ?_
  intro e wC hpost
  obtain ⟨x2, k2, rfl, hc2, e2, -⟩ := HPT.out _ _ _ hpost
  have PC := hid (PB.out.ext e2)
  have EC := hid (EB.out.ext e2)
  have C2 := hid hc2
  have C1' := hid (C1.out.ext e2)
  have O1' := hid (fun h => ownsRow_ext (O1.out h) e2)
  have hBC : wA.heap.size ≤ wC.heap.size := Nat.le_trans hAB2 e2.size
  clear hpost hc2 e2 PB EB C1 O1
  have q1 : (E != E) = false := by simp
  go_wp2_with fail
  refine (equal8_c PL PL x1 x2 _ _ k1 k2 wC rfl rfl (by omega) C1'.out C2.out).mono ?_
  rintro e wD ⟨rfl, e3⟩
  have PD := hid (PC.out.ext e3)
  have ED := hid (EC.out.ext e3)
  have O1D := hid (fun h => ownsRow_ext (O1'.out h) e3)
  have hBD : wA.heap.size ≤ wD.heap.size := Nat.le_trans hBC e3.size
  have q2 : (PL == PL) = true := by simp
  clear e3 PC EC O1' C1' C2 hp1 hp2 hBC HPT
  by_cases hE : E = 0
  · obtain ⟨f1, f2, f3, f4, f5, f6⟩ := HPP.out hE
    have own := O1D.out hE
    subst hE
    have hlen3 : (PL ++ [1, 2]).length = PL.length + 2 := by simp
    have HPD3 := hid (fun w' e w'' (h : parsePost (PL ++ [1, 2]) w' e w'') => parsed h)
    rw [f1, f2, f3, f4, f5, HN.out] at HPD3
    have HQ3 := hid (fun a c w' h1 h2 => parseProof_c (PL ++ [1, 2]) a (PL.length + 2) c w' hlen3 (by omega) h1 h2)
    have OWN := hid own
    have HSP := hid (fun w' a b c d h1 h2 => sameProof_c I Z ls a b n c d w' HN.out (by have := HN.out; omega) H32.out h1 h2)
    clear f1 f2 f3 f4 f5 f6 own O1D HPP hlen3
    go_wp2_with (first | (at_builtin; refine wpl_append8 rfl _ _ rfl wA.heap.size (ys := [1, 2]) rfl rfl (ownsRow_ext OWN.out ((Ext.refl wD).alloc _)) rfl (by intro h; cases h) (Cells.of_blk0 (Blk.mk_alloc rfl rfl)) (by omega) (Nat.le_trans hBD ((Ext.refl wD).alloc _).size) ?_))
    intro v4 w4 own4 g4
    have own4' : w4.ownsRow wA.heap.size 5 1 v4 (PL.length + 2) ((PL ++ [1, 2]).map u8v) := by rw [List.map_append]; exact own4
    have hv4 := own_block_ge OWN.out
    have E4 := hid (Ext.grown (ED.out.ext ((Ext.refl wD).alloc (.cells #[.int .u8 1, .int .u8 2] 5))) g4 (by intro q hq; have := hv4 _ hq; omega))
    have P4 := hid (Blk.grown (PD.out.ext ((Ext.refl wD).alloc (.cells #[.int .u8 1, .int .u8 2] 5))) g4 (by intro h; have := hv4 _ h.symm; omega))
    obtain ⟨x4, k4, rfl, hk4, -, -, hc4⟩ := own_slice own4'
    have C4 := hid hc4
    clear own4 own4' g4 hv4 OWN PD ED hc4 hBD
    go_wp2_with fail
    refine (HQ3.out x4 k4 w4 hk4 C4.out).mono ?_
    intro e w5 hpost
    obtain ⟨x5, k5, rfl, hc5, e5⟩ := HPD3.out _ _ _ hpost
    have P5 := hid (P4.out.ext e5)
    have E5 := hid (E4.out.ext e5)
    have C5 := hid hc5
    have h5 : w.heap.size < w5.heap.size := P5.out.lt
    clear hpost hc5 e5 P4 E4 C4 HQ3 HPD3
    go_wp2_with (first | (refine wpl_storew rfl _ _ _ rfl rfl rfl (Blk.mk_alloc (vs := [.int .i64 0, .int .i64 0, .slice none 0 0]) rfl rfl) agg_proof rfl (xs := [.int .i64 I, .int .i64 Z, .slice x5 n k5]) rfl (by simp [Value.oneCell']) ?_))
    intro w6 b6 u6
    have e6 : Ext w5 w6 := u6.ext ((Ext.refl w5).alloc _) (Nat.le_refl _)
    have P6 := hid (P5.out.ext e6)
    have E6 := hid (E5.out.ext e6)
    have C6 := hid (C5.out.ext e6)
    have B6 := hid b6
    clear u6 e6 P5 E5 C5 b6
    go_wp2_with (first | (refine wpl_loadw_g rfl 24 _ rfl rfl P6.out agg_proof rfl ?_) | (refine wpl_loadw_g rfl 24 _ rfl rfl B6.out agg_proof rfl ?_))
    refine (HSP.out w6 a x5 c k5 (HA.out.ext E6.out) C6.out).mono ?_
    rintro e wE ⟨rfl, e7⟩
    have EE := hid (E6.out.ext e7)
    clear e7 P6 E6 C6 B6 HSP h5
    go_wp2_with fail
    refine (hq1.out wE (HB.out.ext EE.out)).mono ?_
    intro e wF hpost
    obtain ⟨xF, kF, rfl, hcF, eF⟩ := HPD.out _ _ _ hpost
    have EF := hid (EE.out.ext eF)
    have CF := hid hcF
    clear hpost hcF eF EE
    go_wp2_with (first | (refine wpl_storew rfl _ _ _ rfl rfl rfl (Blk.mk_alloc (vs := [.int .i64 0, .int .i64 0, .slice none 0 0]) rfl rfl) agg_proof rfl (xs := [.int .i64 I1, .int .i64 Z1, .slice xF M1 kF]) rfl (by simp [Value.oneCell']) ?_))
    intro wG bG uG
    have eG : Ext wF wG := uG.ext ((Ext.refl wF).alloc _) (Nat.le_refl _)
    have EG := hid (EF.out.ext eG)
    have CG := hid (CF.out.ext eG)
    have BG := hid bG
    clear uG eG EF CF bG
    generalize wF.heap.size = gF at *
    go_wp2_with fail
    refine (hq2.out wG (HB.out.ext EG.out)).mono ?_
    intro e wH hpost
    obtain ⟨xH, kH, rfl, hcH, eH⟩ := HPD.out _ _ _ hpost
    have EH := hid (EG.out.ext eH)
    have CH := hid (CG.out.ext eH)
    have BH := hid (BG.out.ext eH)
    have DH := hid hcH
    have hlt : gF < wH.heap.size := BH.out.lt
    clear hpost hcH eH EG CG BG
    go_wp2_with (first | (refine wpl_storew rfl _ _ _ rfl rfl rfl (Blk.mk_alloc (vs := [.int .i64 0, .int .i64 0, .slice none 0 0]) rfl rfl) agg_proof rfl (xs := [.int .i64 I1, .int .i64 Z1, .slice xH M1 kH]) rfl (by simp [Value.oneCell']) ?_))
    intro wI bI uI
    have eI : Ext wH wI := uI.ext ((Ext.refl wH).alloc _) (Nat.le_refl _)
    have EI := hid (EH.out.ext eI)
    have CI := hid (CH.out.ext eI)
    have BI := hid (BH.out.ext eI)
    have DI := hid (DH.out.ext eI)
    have AI := hid bI
    clear uI eI EH CH BH DH bI
    generalize wH.heap.size = gH at *
    have r1 : (E1 == E1) = true := by simp
    have r2 : (N1 == N1) = true := by simp
    go_wp2_with (first | (refine wpl_loadw_g rfl 24 _ rfl rfl BI.out agg_proof rfl ?_) | (refine wpl_loadw_g rfl 24 _ rfl rfl AI.out agg_proof rfl ?_))
    refine (HPL.out wI xF xH kF kH CI.out DI.out).mono ?_
    rintro e wJ ⟨rfl, eJ⟩
    go_wp2
    go_ret
    exact ⟨rfl, EI.out.ext eJ⟩
  · have EE := hid ED.out
    have q3 : (E == 0) = false := by simp [hE]
    clear ED O1D HPP PD hBD
    generalize wD = wE at *
    go_wp2_with fail
    refine (hq1.out wE (HB.out.ext EE.out)).mono ?_
    intro e wF hpost
    obtain ⟨xF, kF, rfl, hcF, eF⟩ := HPD.out _ _ _ hpost
    have EF := hid (EE.out.ext eF)
    have CF := hid hcF
    clear hpost hcF eF EE
    go_wp2_with (first | (refine wpl_storew rfl _ _ _ rfl rfl rfl (Blk.mk_alloc (vs := [.int .i64 0, .int .i64 0, .slice none 0 0]) rfl rfl) agg_proof rfl (xs := [.int .i64 I1, .int .i64 Z1, .slice xF M1 kF]) rfl (by simp [Value.oneCell']) ?_))
    intro wG bG uG
    have eG : Ext wF wG := uG.ext ((Ext.refl wF).alloc _) (Nat.le_refl _)
    have EG := hid (EF.out.ext eG)
    have CG := hid (CF.out.ext eG)
    have BG := hid bG
    clear uG eG EF CF bG
    generalize wF.heap.size = gF at *
    go_wp2_with fail
    refine (hq2.out wG (HB.out.ext EG.out)).mono ?_
    intro e wH hpost
    obtain ⟨xH, kH, rfl, hcH, eH⟩ := HPD.out _ _ _ hpost
    have EH := hid (EG.out.ext eH)
    have CH := hid (CG.out.ext eH)
    have BH := hid (BG.out.ext eH)
    have DH := hid hcH
    have hlt : gF < wH.heap.size := BH.out.lt
    clear hpost hcH eH EG CG BG
    go_wp2_with (first | (refine wpl_storew rfl _ _ _ rfl rfl rfl (Blk.mk_alloc (vs := [.int .i64 0, .int .i64 0, .slice none 0 0]) rfl rfl) agg_proof rfl (xs := [.int .i64 I1, .int .i64 Z1, .slice xH M1 kH]) rfl (by simp [Value.oneCell']) ?_))
    intro wI bI uI
    have eI : Ext wH wI := uI.ext ((Ext.refl wH).alloc _) (Nat.le_refl _)
    have EI := hid (EH.out.ext eI)
    have CI := hid (CH.out.ext eI)
    have BI := hid (BH.out.ext eI)
    have DI := hid (DH.out.ext eI)
    have AI := hid bI
    clear uI eI EH CH BH DH bI
    generalize wH.heap.size = gH at *
    have r1 : (E1 == E1) = true := by simp
    have r2 : (N1 == N1) = true := by simp
    go_wp2_with (first | (refine wpl_loadw_g rfl 24 _ rfl rfl BI.out agg_proof rfl ?_) | (refine wpl_loadw_g rfl 24 _ rfl rfl AI.out agg_proof rfl ?_))
    refine (HPL.out wI xF xH kF kH CI.out DI.out).mono ?_
    rintro e wJ ⟨rfl, eJ⟩
    go_wp2
    go_ret
    exact ⟨rfl, EI.out.ext eJ⟩
end

section
open Go Go.RowKit Go.ChangeShapes Go.WideShapes Go.ChangeAt Go.Deep

theorem cells?_at {w : World} {base : Nat} {p : Addr} {k : Nat} {cs : List Value} (h : w.cells? base p k = some cs) : cs.length = k ∧ CellsAt w p cs := by
  unfold World.cells? at h
  split at h
  · refine ⟨by simpa using mapM_some_length h, fun j u hu => ?_⟩
    have hj : j < k := by
      have h1 := (List.getElem?_eq_some_iff.1 hu).1
      have h2 := mapM_some_length h
      simp at h2; omega
    have := mapM_some_get h j j (by simp [hj])
    rw [hu] at this
    exact this
  · cases h

section
variable {H : Type} {enc : TypeId × Value → H} {P : Program} {w : World}
theorem octets_of_trod {base : Nat} {sp : Nat → Bool} {held : Bool} {t e : TypeId} {n f : Nat} {cs : List Value} {x : DataW H × List MemPlace} (ht : P.underlying t = some (.array n e)) (he : P.underlying e = some (.int .u8)) (hce : P.cellsOf e = 1) (hct : P.cellsOf t = n)
    (hf : DataW.trod enc P w base sp held f t cs = some x) : ∃ l : List UInt8, l.length = n ∧ cs = l.map u8v := by
  obtain ⟨xs, m, _, _, hlen, hxl, hel⟩ := DataW.trod_array ht hf
  have hcl : cs.length = n := by rw [hlen, hct]
  obtain ⟨l, hl⟩ := u8s_of cs fun i u hu => by
    have hi : i < n := by
      have := (List.getElem?_eq_some_iff.1 hu).1
      omega
    have h1 := hel i hi
    rw [hce, Nat.mul_one] at h1
    have hx : xs[i]? = some xs[i] := by simp
    have h2 : (cs.drop i).take 1 = [u] := by
      have h3 := List.getElem?_drop (xs := cs) (i := i) (j := 0)
      rw [Nat.add_zero, hu] at h3
      cases hd : cs.drop i with
      | nil => rw [hd] at h3; simp at h3
      | cons y r => rw [hd] at h3; simp at h3; simp [h3]
    have h4 : DataW.trod enc P w base sp held m e [u] = some xs[i] := by
      rw [← h2, ← hx]; exact h1
    obtain ⟨k, hk, _, hw⟩ := DataW.trod_int he h4
    have hu' : u = .int .u8 k := by simpa using hk
    rw [hu']; exact u8_of hw
  refine ⟨l, ?_, hl⟩
  have := congrArg List.length hl
  rw [hcl, List.length_map] at this; exact this.symm

/-- a slice of rows, its cell read -/
theorem sums_of_trod {base f : Nat} {held : Bool} {t e q : TypeId} {cs : List Value} {x : DataW H × List MemPlace} (ht : P.underlying t = some (.slice e)) (he : P.underlying e = some (.array 32 q)) (hq : P.underlying q = some (.int .u8)) (cq : P.cellsOf q = 1) (ce : P.cellsOf e = 32)
    (hf : DataW.trod enc P w base (fun _ => true) held f t cs = some x) :
    ∃ (a : Option Addr) (n c : Nat) (ls : List (List UInt8)) (es sp : List (DataW H)), cs = [.slice a n c] ∧ ls.length = n ∧ All32 ls ∧ n ≤ c ∧ c ≤ maxLen ∧ (a = none → c = 0) ∧ Cells w a (rows ls) ∧ ((x.1 = .nil ∧ c = 0) ∨ (x.1 = .slice es sp ∧ es.length + sp.length = c)) := by
  rcases DataW.trod_slice ht hf with ⟨h0, h1⟩ | ⟨a, len, cap, elems, rest, n, _, rfl, rfl, hb, hl, hm, hlen, hel, hsp, hns⟩
  · exact ⟨none, 0, 0, [], [], [], h0, rfl, All32.nil, Nat.le_refl _, Nat.zero_le _, fun _ => rfl, .inl rfl, .inl ⟨by rw [h1], rfl⟩⟩
  · have each : ∀ i, i < len → ∃ l : List UInt8, l.length = 32 ∧ CellsAt w (a.add (i * 32)) (l.map u8v) := by
      intro i hi
      have h1 := hel i hi
      have hx : elems[i]? = some (elems[i]'(by omega)) := by simp
      rw [ce, hx, Option.bind_eq_some_iff] at h1
      obtain ⟨cs', hcs, hy⟩ := h1
      obtain ⟨l, hl1, rfl⟩ := octets_of_trod he hq cq ce hy
      exact ⟨l, hl1, (cells?_at hcs).2⟩
    obtain ⟨g, hg⟩ := choose_lt each
    have h32 : All32 ((List.range len).map g) := fun l hl => by
      obtain ⟨i, hi, rfl⟩ := List.mem_map.1 hl
      exact (hg i (List.mem_range.1 hi)).1
    obtain ⟨hrl, _⟩ := hsp rfl
    refine ⟨some a, len, cap, (List.range len).map g, _, _, rfl, by simp, h32, hl, hm, (fun h => by cases h), ?_, .inr ⟨rfl, by simp; omega⟩⟩
    by_cases h0 : len = 0
    · left; subst h0; rfl
    · obtain ⟨hl0, hc0⟩ := hg 0 (by omega)
      obtain ⟨b, off, spot⟩ := a
      have hspot : spot = none := by
        have := hc0 0 (u8v ((g 0)[0]'(by omega))) (by simp [hl0])
        simpa [Addr.add] using World.cell?_spot this
      subst hspot
      refine .inr ⟨b, off, rfl, fun i u hu => ?_⟩
      have hi : i < 32 * len := by
        have := (List.getElem?_eq_some_iff.1 hu).1
        rw [rows_length h32] at this; simpa using this
      obtain ⟨_, hcr⟩ := hg (i / 32) (by omega)
      have hrow : ((List.range len).map g)[i / 32]? = some (g (i / 32)) := by
        rw [List.getElem?_map, List.getElem?_range (by omega)]; rfl
      have h2 := rows_at h32 hrow
      have h3 : ((g (i / 32)).map u8v)[i % 32]? = some u := by
        rw [← h2, List.getElem?_take_of_lt (Nat.mod_lt _ (by omega)), List.getElem?_drop, Nat.div_add_mod]; exact hu
      have h4 := hcr _ _ h3
      rw [addr_add, addr_add] at h4
      rw [show off + i / 32 * 32 + i % 32 = off + i by omega] at h4
      exact h4

/-- a struct of two ints and a slice of rows -/
theorem open_proof {r : Reach} {b0 base : Nat} {held : Bool} {t e q : TypeId} {f0 f1 f2 : Field} {v : Value} {d : DataW H} {ps : List MemPlace} (ht : P.underlying t = some (.struct #[f0, f1, f2])) (h0 : P.underlying f0.type = some (.int .i64)) (h1 : P.underlying f1.type = some (.int .i64))
    (h2 : P.underlying f2.type = some (.slice e)) (he : P.underlying e = some (.array 32 q)) (hq : P.underlying q = some (.int .u8)) (cq : P.cellsOf q = 1) (ce : P.cellsOf e = 32) (c0 : P.cellsOf f0.type = 1) (c1 : P.cellsOf f1.type = 1) (c2 : P.cellsOf f2.type = 1) (ct : P.cellsOf t = 3)
    (o0 : f0.offset = 0) (o1 : f1.offset = 1) (o2 : f2.offset = 2)
    (hval : Value.okWide P w r b0 t v) (hd : DataW.Trod enc P w base (fun _ => true) held t v d ps) :
    ∃ (I Z : Int) (a : Option Addr) (n c : Nat) (ls : List (List UInt8)), v = .agg #[.int .i64 I, .int .i64 Z, .slice a n c] ∧ ls.length = n ∧ All32 ls ∧ n ≤ c ∧ c ≤ maxLen ∧ (a = none → c = 0) ∧ Cells w a (rows ls) ∧
      ∃ (D : DataW H) (es sp : List (DataW H)), d = .agg [.lit (.int .i64 I), .lit (.int .i64 Z), D] ∧ ((D = .nil ∧ c = 0) ∨ (D = .slice es sp ∧ es.length + sp.length = c)) ∧ (Lit.int .i64 I).wf = true ∧ (Lit.int .i64 Z).wf = true := by
  obtain ⟨cs, rfl, hs⟩ := okWide_struct ht hval
  obtain ⟨fuel, hf⟩ := hd
  obtain ⟨y0, y1, y2, m, hx, hl, g0, g1, g2⟩ := trod_struct3 ht hf
  rw [c0, o0] at g0
  rw [c1, o1] at g1
  rw [c2, o2] at g2
  obtain ⟨I, hI, hI2, wI⟩ := DataW.trod_int h0 g0
  obtain ⟨Z, hZ, hZ2, wZ⟩ := DataW.trod_int h1 g1
  obtain ⟨a, n, c, ls, es, sp, hsl, hln, h32, hnc, hcm, hnil, hcl, hdd⟩ := sums_of_trod h2 he hq cq ce g2
  have hcs : cs = #[.int .i64 I, .int .i64 Z, .slice a n c] := by
    have hsz : cs.size = 3 := by rw [hs, ct]
    obtain ⟨l⟩ := cs
    match l, hsz with
    | [p0, p1, p2], _ =>
      simp [Value.cells] at hI hZ hsl
      rw [hI, hZ, hsl]
  refine ⟨I, Z, a, n, c, ls, by rw [hcs], hln, h32, hnc, hcm, hnil, hcl, y2.1, es, sp, ?_, hdd, wI, wZ⟩
  simp only [Prod.mk.injEq] at hx
  rw [hx.1, hI2, hZ2]
end
end
end Go.Proofs.Ytfiigjdiohmkmaa
