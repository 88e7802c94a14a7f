/- The Summer's Sum, and what summed makes; conditions: the octets' number. -/
import Derived.Test.YtjgglnflicemjaaP6
namespace Go.Proofs.Ytjgglnflicemjaa
open Go Go.RowKit

theorem agg_apisum : AggT Try.prog 65 32 := ⟨⟨_, Try.underlying65, rfl⟩, by kernel_rfl⟩

/-- the sum of a text -/
def sumL (d : Int) (t : List UInt8) : List UInt8 := (finL (initS d) t t.length).take 32
theorem sumL_length (d : Int) (t : List UInt8) : (sumL d t).length = 32 := by rw [sumL, List.length_take, finL_length]; rfl

set_option maxRecDepth 100000 in
set_option maxHeartbeats 1000000 in
theorem sum_c (s0 t : List UInt8) (N : Nat) (g : Nat) (T : TypeId) (w : World) (hs : s0.length = 64) (hN : N ≤ 4611686018427387904) (hH : Holds w g T s0 t N) :
    Calls Try.prog 36 #[.pointer (some ⟨g, 0, none⟩)] w fun e w' => e = .returned (.agg (((finL s0 t N).take 32).map u8v).toArray) ∧ Ext w w' := by
  have HH := hid hH
  have HFL : Hid (((finL s0 t N).map u8v).length = 64) := hid (by rw [List.length_map, finL_length])
  have HF2 : Hid ((((finL s0 t N).map u8v).drop 0).take 32 = ((finL s0 t N).take 32).map u8v) := hid (by rw [List.drop_zero, List.map_take])
  have HF3 : Hid ((((finL s0 t N).take 32).map u8v).length = 32) := hid (by rw [List.length_map, List.length_take, finL_length]; rfl)
  have h1 := one_u8 (finL s0 t N)
  have h2 := one_u8 ((finL s0 t N).take 32)
  have hend := fun w' (h : Holds w' g T s0 t N) => end_c s0 t N g T w' hs hN h
  generalize hfv2 : ((finL s0 t N).take 32).map u8v = fv2 at *
  generalize (finL s0 t N).map u8v = fv at *
  clear hH hfv2
  have ha := run_arrayAt (P := Try.prog) Try.underlying65 (len := 32) (Nat.le_refl 32)
  go_enter Try.func36, Try.ntmps36
  go_wp2_with fail
  generalize hwA : World.alloc w _ = wA
  have zA : Blk wA w.heap.size (List.replicate 32 (.int .u8 0)) 65 := by rw [← hwA]; exact Blk.mk_alloc rfl rfl
  have eA : Ext w wA := by rw [← hwA]; exact (Ext.refl w).alloc _
  clear hwA
  refine (hend _ (HH.out.ext eA)).mono ?_
  rintro e w1 ⟨rfl, e1⟩
  have HZ := hid (zA.ext e1)
  have HE := hid (eA.ext e1)
  clear zA eA e1
  go_wp2_with (refine wpl_storew rfl _ _ _ rfl rfl rfl (Blk.mk_alloc rfl rfl) agg_state rfl HFL.out h1 ?_)
  intro w2 b2 u2
  have e2 : Ext w1 w2 := u2.ext ((Ext.refl w1).alloc _) (Nat.le_refl _)
  have HZ2 := hid (HZ.out.ext e2)
  have HE2 := hid (HE.out.ext e2)
  clear e2 u2
  go_wp2_with (first | (refine wpl_loadp rfl _ _ rfl rfl b2 agg_apisum (by rw [HFL.out]; omega) HF2.out ?_) | refine wpl_storew rfl _ _ _ rfl rfl rfl HZ2.out agg_apisum rfl HF3.out h2 ?_)
  intro w3 b3 u3
  go_wp2
  refine ret_row rfl rfl b3 agg_apisum HF3.out rfl ⟨rfl, u3.ext HE2.out (Nat.le_refl _)⟩

def summedPost (d : Int) (t : List UInt8) (w : World) (e : Ending) (w' : World) : Prop :=
  (if d < 0 ∨ 255 < d then e = .returned (.tuple #[.pointer none, .int .i64 3])
  else if t.length ≤ 1048576 then e = .returned (.tuple #[.pointer (some ⟨w.heap.size, 0, none⟩), .int .i64 0]) ∧ Holds w' w.heap.size SmT (initS d) t t.length
  else e = .returned (.tuple #[.pointer none, .int .i64 5])) ∧ Ext w w'

set_option maxRecDepth 100000 in
set_option maxHeartbeats 1000000 in
theorem summed_c (its : List Item) (d : Int) (g len cap : Nat) (w : World) (hlen : its.length = len) (hl2 : len ≤ 1000)
    (hg : ∀ i it, its[i]? = some it → w.cell? ⟨g, i, none⟩ = some (itemV it)) (hgs : g < w.heap.size)
    (hc : ∀ it ∈ its, Cells w it.1 (it.2.2.map u8v)) (hn : ∀ it ∈ its, it.1 = none → it.2.1 = 0) (hnc : ∀ it ∈ its, it.2.2.length ≤ it.2.1) (hcm : ∀ it ∈ its, it.2.1 ≤ 140737488355328) :
    Calls Try.prog 79 #[.int .i64 d, .slice (some ⟨g, 0, none⟩) len cap] w (summedPost d (cat its) w) := by
  have HL := hid hlen
  have HG := hid hg
  have HC := hid hc
  have HN := hid hn
  have HNC := hid hnc
  have HCM := hid hcm
  clear hlen hg hc hn hnc hcm
  unfold summedPost
  by_cases hd : d < 0 ∨ 255 < d
  · simp only [if_pos hd]
    have hd' := hid hd
    clear hd
    go_enter Try.func79, Try.ntmps79
    go_wp2_with fail
    refine (newSummer_c d w).mono ?_
    intro e w1 h
    unfold newPost at h
    rw [if_pos hd'.out] at h
    obtain ⟨rfl, rfl⟩ := h
    go_wp2
    go_ret2
    exact ⟨rfl, Ext.refl _⟩
  · simp only [if_neg hd]
    have hd' := hid hd
    clear hd
    go_enter Try.func79, Try.ntmps79
    go_wp2_with fail
    refine (newSummer_c d w).mono ?_
    intro e w1 h
    unfold newPost at h
    rw [if_neg hd'.out] at h
    obtain ⟨rfl, h1, e1⟩ := h
    have HH1 := hid h1
    have HE1 := hid e1
    clear h1 e1
    go_wp2
    go_loopw [21] (fun x wr => ∃ k : Nat, k ≤ len ∧ x = .int .i64 k ∧ Hid ((cat (its.take k)).length ≤ 1048576) ∧ Hid (Holds wr w.heap.size SmT (initS d) (cat (its.take k)) (cat (its.take k)).length) ∧ Hid (Ext w wr))
      (fun x _ => len - (intOf x).toNat)
    case atStart => exact ⟨0, by omega, rfl, hid (by simp [cat]), hid HH1.out, HE1⟩
    case round =>
      obtain ⟨k, hk, rfl, hsm, hh, he⟩ := hrel
      by_cases hlt : k < len
      · have hdk : decide ((k : Int) < (len : Int)) = true := decide_eq_true (by omega)
        obtain ⟨it, hit⟩ : ∃ it, its[k]? = some it := ⟨_, List.getElem?_eq_getElem (by rw [HL.out]; exact hlt)⟩
        have hmem : it ∈ its := List.mem_of_getElem? hit
        have hcell := (he.out.cell (p := ⟨g, k, none⟩) hgs).trans (HG.out k it hit)
        obtain ⟨a, c, l⟩ := it
        have hcs := cat_succ hit
        simp only [itemV] at hcell
        have hnc := HNC.out _ hmem
        have hcm := HCM.out _ hmem
        simp only at hnc hcm hcs
        have HCS := hid hcs
        have HIC := hid (HC.out _ hmem)
        have HIN := hid (HN.out _ hmem)
        have hi0 : (0 : Int) ≤ (k : Int) := by omega
        have hi1 : (k : Int) < (len : Int) := by omega
        clear hcs hit hmem
        generalize hll : l.length = ll at *
        generalize hT : cat (its.take k) = tk at *
        have HCL := hid (cat_le its (k + 1))
        go_wp2_with fail
        refine (write_c (initS d) tk l (tk.length : Nat) w.heap.size ll c a SmT wr (initS_length d) hll (by omega) (by have := hsm.out; omega) hh.out (by omega) hnc hcm (fun e => by have := HIN.out e; omega) (HIC.out.ext he.out) (away_of HIC.out (by rw [List.length_map]; exact hll) (Nat.le_refl _))).mono ?_
        intro e w2 h
        unfold writePost at h
        rw [hll] at h
        by_cases hfit : (ll : Int) ≤ 1048576 - (tk.length : Nat)
        · rw [if_pos hfit] at h
          obtain ⟨rfl, h2, g2⟩ := h
          have HH2 := hid h2
          have HE2 := hid (he.out.grown g2 (by intro k' hk'; cases hk'; exact Nat.le_refl _))
          have hfl : (tk ++ l).length = tk.length + ll := by rw [List.length_append, hll]
          have HFL := hid hfl
          clear h2 g2 hfl
          go_wp2
          go_roundw
          case rel =>
            refine ⟨k + 1, by omega, by go_num, hid ?_, hid ?_, HE2⟩
            · rw [HCS.out, HFL.out]; omega
            · rw [HCS.out, HFL.out, Int.natCast_add]; exact HH2.out
          case measure => simp [intOf]; omega
        · rw [if_neg hfit] at h
          obtain ⟨rfl, rfl⟩ := h
          have hbig : ¬ (cat its).length ≤ 1048576 := by
            have := HCL.out
            rw [HCS.out, List.length_append, hll] at this
            omega
          have HBIG := hid hbig
          clear hbig hfit
          go_wp2
          go_ret2
          refine ⟨?_, he.out⟩
          first | rfl | (rw [if_neg HBIG.out]; rfl)
      · have hkl : k = len := by omega
        subst hkl
        have hct : cat (its.take k) = cat its := by rw [List.take_of_length_le (by rw [HL.out]; exact Nat.le_refl _)]
        rw [hct] at hsm hh
        have HIF : Hid ((cat its).length ≤ 1048576) := hsm
        clear hct
        go_wp2
        go_ret2
        refine ⟨?_, he.out⟩
        first | exact ⟨rfl, hh.out⟩ | (rw [if_pos HIF.out]; exact ⟨rfl, hh.out⟩)
end Go.Proofs.Ytjgglnflicemjaa
