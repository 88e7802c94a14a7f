/- Stream: what it computes; conditions: the lengths. -/
import Derived.Test.YtjgglnflicemjaaP14
namespace Go.Proofs.Ytjgglnflicemjaa
open Go Go.RowKit

def streamPost (k n : List UInt8) (a m : Int) (w : World) (e : Ending) (w' : World) : Prop :=
  (if a < 0 ∨ 1099511627776 < a ∨ m < 0 then e = .returned (.tuple #[.slice none 0 0, .int .i64 4])
  else if 1048576 < m then e = .returned (.tuple #[.slice none 0 0, .int .i64 5])
  else ∃ v, e = .returned (.tuple #[v, .int .i64 0]) ∧ w'.ownsRow w.heap.size 5 1 v m.toNat ((strmL k n a.toNat m.toNat).map u8v)) ∧ Ext w w'

set_option maxRecDepth 100000 in
set_option maxHeartbeats 1000000 in
theorem stream_ok (k n : List UInt8) (A M : Nat) (w : World) (hk : k.length = 32) (hn : n.length = 16) (hA : A ≤ 1099511627776) (hM : M ≤ 1048576) :
    Calls Try.prog 30 #[.agg (k.map u8v).toArray, .agg (n.map u8v).toArray, .int .i64 (A : Int), .int .i64 (M : Int)] w fun e w' =>
      ∃ v, e = .returned (.tuple #[v, .int .i64 0]) ∧ w'.ownsRow w.heap.size 5 1 v M ((strmL k n A M).map u8v) ∧ Ext w w' := by
  obtain ⟨i0, hi, hz0, hz1, hz2⟩ := info_parts info_u8
  have HK : Hid ((k.map u8v).length = 32) := hid (by rw [List.length_map, hk])
  have HN : Hid ((n.map u8v).length = 16) := hid (by rw [List.length_map, hn])
  have hblk := fun i w (h : i < 18446744073709551616) => streamBlock_c k n i w hk hn h
  have ok := one_u8 k
  have on := one_u8 n
  generalize k.map u8v = kv at *
  generalize n.map u8v = nv at *
  have hA1 : decide ((1099511627776 : Int) < (A : Int)) = false := decide_eq_false (by omega)
  have hM1 : decide ((1048576 : Int) < (M : Int)) = false := decide_eq_false (by omega)
  have hA0 : decide ((A : Int) < 0) = false := decide_eq_false (by omega)
  have hM0 : decide ((M : Int) < 0) = false := decide_eq_false (by omega)
  have kA : Blk ((w.alloc (.cells kv.toArray 54)).alloc (.cells nv.toArray 55)) w.heap.size kv 54 := (Blk.mk_alloc rfl rfl).alloc _
  have nA : Blk ((w.alloc (.cells kv.toArray 54)).alloc (.cells nv.toArray 55)) (w.heap.size + 1) nv 55 := Blk.mk_alloc (by simp) rfl
  have eA : Ext w ((w.alloc (.cells kv.toArray 54)).alloc (.cells nv.toArray 55)) := ((Ext.refl w).alloc _).alloc _
  have lA := nA.lt
  have KA := hid kA
  have NA := hid nA
  have EA := hid eA
  have HBS : Hid (∀ a b : Obj, ((w.alloc a).alloc b).heap.size = w.heap.size + 2) := hid fun a b => by simp
  clear kA nA eA
  go_enter Try.func30, Try.ntmps30
  go_wp2_with (at_make; refine wpList_make_own _ rfl _ _ 26 rfl (w.heap.size + 2) 5 i0 (.int .u8 0) 1 Try.underlying26 hi hz0 hz1 _ _ _ M rfl rfl rfl (by rw [hz2]; omega) (by unfold maxLen; omega) (Nat.le_of_eq (HBS.out _ _).symm) ?_)
  intro w1 own1 gr1
  have K1 := hid (KA.out.grown gr1 (by simp))
  have N1 := hid (NA.out.grown gr1 (by simp))
  have E1 := hid (EA.out.grown gr1 (fun g h => by cases h))
  have hb1 : w.heap.size + 2 ≤ w1.heap.size := by have h := gr1.size; have h2 := HBS.out (.cells kv.toArray 54) (.cells nv.toArray 55); omega
  have O1 := hid own1
  clear gr1 own1 KA NA EA lA
  go_wp2
  go_loopw [10, 11] (fun x y wr => ∃ m q : Nat, m ≤ M ∧ y = .int .i64 q ∧ q ≤ 2199023255552 ∧ (m < M → q = (A + m) / 64 ∧ (m = 0 ∨ (A + m) % 64 = 0)) ∧ Hid (wr.ownsRow (w.heap.size + 2) 5 1 x m ((strmL k n A m).map u8v)) ∧
      Hid (Blk wr w.heap.size kv 54) ∧ Hid (Blk wr (w.heap.size + 1) nv 55) ∧ Hid (Ext w wr) ∧ w.heap.size + 2 ≤ wr.heap.size)
    (fun x _ _ => M - sliceLen x)
  case atStart => exact ⟨0, A / 64, by omega, by go_num, by omega, by omega, O1, K1, N1, E1, hb1⟩
  case round =>
    obtain ⟨m, q, hmM, rfl, hq, hqm, ho, hk', hn', he, hbw⟩ := hrel
    obtain ⟨a4, c4, rfl, hnc4, hcm4, h04, hcl4⟩ := own_slice ho.out
    have HC4 := hid hcl4
    clear hcl4 h04
    by_cases hlt : m < M
    · obtain ⟨hqe, hm0⟩ := hqm hlt
      have hd : decide ((m : Int) < (M : Int)) = true := decide_eq_true (by omega)
      have hqu : IntKind.u64.wrap (q : Int) = (q : Int) := IntWalk.u64_in _ (by omega)
      have HB := hid (fun w => hblk q w (by omega))
      have hBL : Hid (((blkL k n q).map u8v).length = 64) := hid (by rw [List.length_map, blkL_length])
      have ob := one_u8 (blkL k n q)
      have hmore := fun c h => strmL_more k n A m c h
      rw [← hqe] at hmore
      have HMO := hid hmore
      have HQE := hid hqe
      have hr0 : (A + m) % 64 + 64 * q = A + m := by omega
      have HR0 := hid hr0
      clear hmore hqe hr0 hqm
      generalize blkL k n q = bl at *
      go_wp2_with (first | (refine wpl_loadw rfl 54 _ rfl rfl hk'.out agg_key HK.out ?_) | (refine wpl_loadw rfl 55 _ rfl rfl hn'.out agg_nonce HN.out ?_))
      refine (HB.out wr).mono ?_
      rintro e w2 ⟨rfl, e2⟩
      go_wp2_with (refine wpl_storew rfl _ _ _ rfl rfl rfl (Blk.mk_alloc rfl rfl) agg_state rfl hBL.out ob ?_)
      intro w3 b3 u3
      have e3 : Ext wr w3 := u3.ext (e2.alloc _) e2.size
      have O3 := hid (ownsRow_ext ho.out e3)
      have K3 := hid (hk'.out.ext e3)
      have N3 := hid (hn'.out.ext e3)
      have E3 := hid (he.out.ext e3)
      have hb3 : w.heap.size + 2 ≤ w3.heap.size := Nat.le_trans hbw e3.size
      have B3 := hid b3
      clear b3 u3 e3 HC4 ho hk' hn' he
      obtain ⟨r, hr⟩ : ∃ r, (A + m) % 64 = r := ⟨_, rfl⟩
      have hr64 : r < 64 := by omega
      have hne64 : ¬ 64 = r := by omega
      have hr1 : (0 : Int) ≤ (r : Int) := by omega
      have hr2 : (r : Int) ≤ 64 := by omega
      obtain ⟨s, hs⟩ : ∃ s, 64 - r = s := ⟨_, rfl⟩
      obtain ⟨c, hc, hcs, hcm⟩ : ∃ c : Nat, min (s : Int) ((M : Int) - m) = (c : Int) ∧ c ≤ s ∧ c + m ≤ M ∧ 0 < c ∧ (c = s ∨ c + m = M) := ⟨min s (M - m), by omega, by omega, by omega, by omega, by omega⟩
      have hw1 : IntKind.i64.wrap ((M : Int) - m) = (M : Int) - m := IntWalk.i64_in _ (by omega)
      clear hw1
      have hw1 : IntKind.i64.wrap ((M : Int) - m) = (M : Int) - m := IntWalk.i64_in _ (by omega)
      by_cases hm : m = 0
      · have h1 : (A : Int).tdiv 64 = (q : Int) := by rw [Int.tdiv_eq_ediv_of_nonneg (by omega)]; have := HR0.out; omega
        have h2 : (A : Int).tmod 64 = (r : Int) := by rw [Int.tmod_eq_emod_of_nonneg (by omega)]; have := HR0.out; omega
        have HM := hid hm
        clear hm hm0
        have hsp : ¬ s = 0 := by omega
        have hc0 : (0 : Int) ≤ (c : Int) := by omega
        have hc1 : (c : Int) ≤ (s : Int) := by omega
        have hcl := Cells.of_blk B3.out r c
        rw [← List.map_drop, ← List.map_take] at hcl
        have HCL := hid hcl
        have hyl : ((bl.drop r).take c).length = c := by
          have := hBL.out
          rw [List.length_map] at this
          rw [List.length_take, List.length_drop]; omega
        have HYL := hid hyl
        have HMM := hid (HMO.out c (by rw [hr]; omega))
        rw [hr] at HMM
        generalize (bl.drop r).take c = ys at *
        have hfin : m + c < M → c + r = 64 := by omega
        have HFI := hid hfin
        have HR2 := hid hr
        have HS := hid hs
        have hcM : m + c ≤ M := by omega
        have hcp : 0 < c := by omega
        clear hcl hyl hr hfin
        go_wp2_with (first | (at_builtin; refine wpl_append8 rfl _ _ rfl (w.heap.size + 2) (ys := ys) rfl rfl O3.out HYL.out (by intro h; cases h) HCL.out (by omega) hb3 ?_))
        intro v5 w5 own5 g5
        rw [← List.map_append, ← HMM.out] at own5
        have hv5 := fun g' h => own_block_ge O3.out g' h
        have O5 := hid own5
        have K5 := hid (K3.out.grown g5 (by intro h; have := hv5 _ h.symm; omega))
        have N5 := hid (N3.out.grown g5 (by intro h; have := hv5 _ h.symm; omega))
        have E5 := hid (E3.out.grown g5 (by intro k hk; have := hv5 _ hk; omega))
        have hb5 : w.heap.size + 2 ≤ w5.heap.size := Nat.le_trans hb3 g5.size
        obtain ⟨a6, c6, hv6, -, -, -, -⟩ := own_slice own5
        have HV6 := hid hv6
        have hq1 : IntKind.i64.wrap ((q : Int) + 1) = (q : Int) + 1 := IntWalk.i64_in _ (by omega)
        clear own5 g5 hv5 hv6 O3 K3 N3 E3 hb3 B3 HCL
        go_wp2
        go_roundw
        case rel =>
          refine ⟨m + c, q + 1, hcM, by go_num, by have := HR0.out; omega, ?_, O5, K5, N5, E5, hb5⟩
          intro hlt2
          have h3 := HFI.out hlt2
          have h4 := HR0.out
          have h5 := HR2.out
          omega
        case measure => rw [HV6.out]; simp only [sliceLen]; omega
      · have hr0 : r = 0 := by omega
        have h1 : (A : Int).tdiv 64 = ((A / 64 : Nat) : Int) := by rw [Int.tdiv_eq_ediv_of_nonneg (by omega)]; omega
        obtain ⟨qa, hqa⟩ : ∃ qa, A / 64 = qa := ⟨_, rfl⟩
        rw [hqa] at h1
        have hqb : qa ≤ 2199023255552 := by omega
        have hneq : ((q : Int) == (qa : Int)) = false := by rw [beq_eq_false_iff_ne]; have := HR0.out; omega
        subst hr0
        have hs64 : s = 64 := by omega
        subst hs64
        have hc' : min (64 : Int) ((M : Int) - m) = (c : Int) := hc
        have HM := hid hm
        clear hm hm0 hqa hne64
        have hsp : ¬ 64 = 0 := by omega
        have hc0 : (0 : Int) ≤ (c : Int) := by omega
        have hc1 : (c : Int) ≤ 64 := by omega
        have hcl := Cells.of_blk B3.out 0 c
        rw [← List.map_drop, ← List.map_take] at hcl
        have HCL := hid hcl
        have hyl : ((bl.drop 0).take c).length = c := by
          have := hBL.out
          rw [List.length_map] at this
          rw [List.length_take, List.length_drop]; omega
        have HYL := hid hyl
        have HMM := hid (HMO.out c (by rw [hr]; omega))
        rw [hr] at HMM
        generalize (bl.drop 0).take c = ys at *
        have hfin : m + c < M → c + 0 = 64 := by omega
        have HFI := hid hfin
        have HR2 := hid hr
        have hcM : m + c ≤ M := by omega
        have hcp : 0 < c := by omega
        clear hcl hyl hr hfin
        go_wp2_with (first | (at_builtin; refine wpl_append8 rfl _ _ rfl (w.heap.size + 2) (ys := ys) rfl rfl O3.out HYL.out (by intro h; cases h) HCL.out (by omega) hb3 ?_))
        intro v5 w5 own5 g5
        rw [← List.map_append, ← HMM.out] at own5
        have hv5 := fun g' h => own_block_ge O3.out g' h
        have O5 := hid own5
        have K5 := hid (K3.out.grown g5 (by intro h; have := hv5 _ h.symm; omega))
        have N5 := hid (N3.out.grown g5 (by intro h; have := hv5 _ h.symm; omega))
        have E5 := hid (E3.out.grown g5 (by intro k hk; have := hv5 _ hk; omega))
        have hb5 : w.heap.size + 2 ≤ w5.heap.size := Nat.le_trans hb3 g5.size
        obtain ⟨a6, c6, hv6, -, -, -, -⟩ := own_slice own5
        have HV6 := hid hv6
        have hq1 : IntKind.i64.wrap ((q : Int) + 1) = (q : Int) + 1 := IntWalk.i64_in _ (by omega)
        clear own5 g5 hv5 hv6 O3 K3 N3 E3 hb3 B3 HCL
        go_wp2
        go_roundw
        case rel =>
          refine ⟨m + c, q + 1, hcM, by go_num, by have := HR0.out; omega, ?_, O5, K5, N5, E5, hb5⟩
          intro hlt2
          have h3 := HFI.out hlt2
          have h4 := HR0.out
          have h5 := HR2.out
          omega
        case measure => rw [HV6.out]; simp only [sliceLen]; omega
    · have hmM2 : m = M := by omega
      subst hmM2
      have O9 := hid (own_lower (B' := w.heap.size) ho.out (by omega))
      clear ho
      go_wp2
      go_ret2
      exact ⟨_, rfl, O9.out, he.out⟩
end Go.Proofs.Ytjgglnflicemjaa
