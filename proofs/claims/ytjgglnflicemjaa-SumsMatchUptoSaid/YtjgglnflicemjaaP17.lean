/- The reference's Stream: what it computes; conditions: the lengths. -/
import Derived.Test.YtjgglnflicemjaaP16
namespace Go.Proofs.Ytjgglnflicemjaa
open Go Go.RowKit

theorem own_block_lt {w : World} {B : Nat} {e : TypeId} {size n : Nat} {v : Value} {xs : List Value} (h : w.ownsRow B e size v n xs) : ∀ g, v.ownBlock = some g → g < w.heap.size := by
  intro g hg
  rcases h.2 with ⟨rfl, _⟩ | ⟨g', cap, cur, rfl, hb, hc, _⟩
  · cases hg
  · simp [Value.ownBlock] at hg
    subst hg
    exact (Array.getElem?_eq_some_iff.1 hc).1

set_option maxRecDepth 100000 in
set_option maxHeartbeats 2000000 in
theorem rstream_c (k n : List UInt8) (A M : Nat) (w : World) (hk : k.length = 32) (hn : n.length = 16) (hA : A ≤ 1099511627776) (hM : M ≤ 1048576) :
    Calls Try.prog 31 #[.agg (k.map u8v).toArray, .agg (n.map u8v).toArray, .int .i64 (A : Int), .int .i64 (M : Int)] w fun e w' =>
      ∃ v, e = .returned v ∧ w'.ownsRow w.heap.size 5 1 v M ((strmL k n A M).map u8v) ∧ Ext w w' := by
  have HK : Hid ((k.map u8v).length = 32) := hid (by rw [List.length_map, hk])
  have HN : Hid ((n.map u8v).length = 16) := hid (by rw [List.length_map, hn])
  have hst := fun q w => rstir_c (k ++ n ++ List.replicate 8 0 ++ longL (UInt64.ofNat q)) (by rw [List.length_append, List.length_append, List.length_append, hk, hn]; rfl) w
  have hbk : ∀ q, stirL (k ++ n ++ List.replicate 8 0 ++ longL (UInt64.ofNat q)) = blkL k n q := fun _ => rfl
  simp only [hbk, List.map_append, ← zer8] at hst
  have ok := one_u8 k
  have on := one_u8 n
  clear hbk hk hn
  generalize k.map u8v = kv at *
  generalize n.map u8v = nv at *
  have kA : Blk ((w.alloc (.cells kv.toArray 54)).alloc (.cells nv.toArray 55)) w.heap.size kv 54 := (Blk.mk_alloc rfl rfl).alloc _
  have nA : Blk ((w.alloc (.cells kv.toArray 54)).alloc (.cells nv.toArray 55)) (w.heap.size + 1) nv 55 := Blk.mk_alloc (by simp) rfl
  have eA : Ext w ((w.alloc (.cells kv.toArray 54)).alloc (.cells nv.toArray 55)) := ((Ext.refl w).alloc _).alloc _
  have lA : w.heap.size + 2 ≤ ((w.alloc (.cells kv.toArray 54)).alloc (.cells nv.toArray 55)).heap.size := by simp
  have KA := hid kA
  have NA := hid nA
  have EA := hid eA
  clear kA nA eA
  have hAM : IntKind.i64.wrap ((A : Int) + M) = (A : Int) + M := IntWalk.i64_in _ (by omega)
  go_enter Try.func31, Try.ntmps31
  go_wp2
  generalize (w.alloc (.cells kv.toArray 54)).alloc (.cells nv.toArray 55) = wA at *
  go_loopw [9, 10] (fun x y wr => ∃ m : Nat, m ≤ M ∧ y = .int .i64 ((A : Int) + m) ∧ Hid (wr.ownsRow (w.heap.size + 2) 5 1 x m ((strmL k n A m).map u8v)) ∧
      Hid (Blk wr w.heap.size kv 54) ∧ Hid (Blk wr (w.heap.size + 1) nv 55) ∧ Hid (Ext w wr) ∧ w.heap.size + 2 ≤ wr.heap.size)
    (fun x _ _ => M - sliceLen x)
  case atStart => exact ⟨0, by omega, by go_num, hid (World.ownsRow_nil _ _ _ _), KA, NA, EA, lA⟩
  case round =>
    obtain ⟨m, hmM, rfl, ho, hk', hn', he, hbw⟩ := hrel
    obtain ⟨a4, c4, rfl, hnc4, hcm4, h04, hcl4⟩ := own_slice ho.out
    clear h04 hcl4
    by_cases hlt : m < M
    · have hd : decide ((A : Int) + m < (A : Int) + M) = true := decide_eq_true (by omega)
      obtain ⟨q, hq⟩ : ∃ q, (A + m) / 64 = q := ⟨_, rfl⟩
      obtain ⟨r, hr⟩ : ∃ r, (A + m) % 64 = r := ⟨_, rfl⟩
      have hr64 : r < 64 := by omega
      have hq1 : ((A : Int) + m).tdiv 64 = (q : Int) := by rw [Int.tdiv_eq_ediv_of_nonneg (by omega)]; omega
      have hr1 : ((A : Int) + m).tmod 64 = (r : Int) := by rw [Int.tmod_eq_emod_of_nonneg (by omega)]; omega
      have hq2 : ((A : Int) + m) / 64 = (q : Int) := by omega
      have hr2 : ((A : Int) + m) % 64 = (r : Int) := by omega
      have hqb : q ≤ 2199023255552 := by omega
      have hqw : IntKind.i64.wrap (q : Int) = (q : Int) := IntWalk.i64_in _ (by omega)
      obtain ⟨c, hc, hcr, hcM, hcp, hcs⟩ : ∃ c : Nat, min (64 : Int) ((r : Int) + A + M - (A + m)) = ((r + c : Nat) : Int) ∧ r + c ≤ 64 ∧ m + c ≤ M ∧ 0 < c ∧ (r + c = 64 ∨ m + c = M) := ⟨min (64 - r) (M - m), by omega, by omega, by omega, by omega, by omega⟩
      obtain ⟨en, hen⟩ : ∃ en, r + c = en := ⟨_, rfl⟩
      rw [hen] at hc
      have hBL : Hid (((blkL k n q).map u8v).length = 64) := hid (by rw [List.length_map, blkL_length])
      have ob := one_u8 (blkL k n q)
      have hmore := strmL_more k n A m c (by omega)
      rw [hq, hr] at hmore
      have HST := hid (hst q)
      have hll : ((longL (UInt64.ofNat q)).map u8v).length = 8 := rfl
      have HSP := hid (splice3 kv nv ((longL (UInt64.ofNat q)).map u8v) HK.out HN.out hll)
      have HKL : Hid ((kv ++ nv ++ List.replicate 8 (Value.int .u8 0) ++ (longL (UInt64.ofNat q)).map u8v).length = 64) := hid (by rw [List.length_append, List.length_append, List.length_append, HK.out, HN.out]; rfl)
      have ol := one_u8 (longL (UInt64.ofNat q))
      have HLO := hid (fun w => rlong_c q w (by omega))
      generalize (longL (UInt64.ofNat q)).map u8v = lv at *
      have HLL := hid hll
      have HMO := hid hmore
      have HQ := hid hq
      have HR := hid hr
      have HEN := hid hen
      clear hmore hq hr hll hen
      generalize blkL k n q = bl at *
      go_wp2_with fail
      generalize hwB : World.alloc wr _ = wB
      have zB : Blk wB wr.heap.size (List.replicate 64 (.int .u8 0)) 22 := by rw [← hwB]; exact Blk.mk_alloc rfl rfl
      have eB : Ext wr wB := by rw [← hwB]; exact (Ext.refl wr).alloc _
      clear hwB
      have ZB := hid zB
      have KB := hid (hk'.out.ext eB)
      have NB := hid (hn'.out.ext eB)
      have OB := hid (ownsRow_ext ho.out eB)
      have EB := hid (he.out.ext eB)
      have WB := hid eB
      have hobl := hid (fun g h => own_block_lt ho.out g h)
      clear zB eB ho hk' hn' he
      generalize hgB : wr.heap.size = gB at *
      refine wp_region_cls (C := fun w' => ∃ n, w' = wB.drewN n) 2 (by kernel_rfl) (by kernel_rfl) ⟨1, rfl⟩ ?_
      simp only [List.take_succ_cons, List.take_zero, List.drop_succ_cons, List.drop_zero]
      iterate 2 quiet_step (fail)
      refine wpQuiet_nil ?_
      rintro _ ⟨nq, rfl⟩
      have KC := hid (Cells.of_blk0 (KB.out.drewN (n := nq)))
      go_wp2_with (first | (refine wpl_copyc rfl _ _ _ _ rfl rfl rfl (ZB.out.drewN (n := nq)) Try.underlying26 size_u8 HK.out rfl (fun e => by cases e) KC.out (by simp) ok ?_))
      intro w1 s1 u1
      have S1 : Hid (Blk w1 gB (splice (List.replicate 64 (.int .u8 0)) 0 kv) 22) := hid s1
      have G1 := hid (grown_upd (grown_drewN (grown_refl wB (some gB)) nq) u1)
      have hl1 : (splice (List.replicate 64 (Value.int .u8 0)) 0 kv).length = 64 := by simp [splice, HK.out]
      generalize hp1 : splice (List.replicate 64 (Value.int .u8 0)) 0 kv = p1 at *
      have hgN : w.heap.size + 1 ≠ gB := by omega
      have hgK : w.heap.size ≠ gB := by omega
      have N1 := hid (NB.out.grown G1.out (by intro h; injection h with h; exact hgN h))
      clear s1 u1 KC
      go_wp2
      refine wp_region_cls (C := fun w' => ∃ n, w' = w1.drewN n) 2 (by kernel_rfl) (by kernel_rfl) ⟨1, rfl⟩ ?_
      simp only [List.take_succ_cons, List.take_zero, List.drop_succ_cons, List.drop_zero]
      iterate 2 quiet_step (fail)
      refine wpQuiet_nil ?_
      rintro _ ⟨nq, rfl⟩
      have NC := hid (Cells.of_blk0 (N1.out.drewN (n := nq)))
      go_wp2_with (first | (refine wpl_copyc rfl _ _ _ _ rfl rfl rfl (S1.out.drewN (n := nq)) Try.underlying26 size_u8 HN.out rfl (fun e => by cases e) NC.out (by omega) on ?_))
      intro w2 s2 u2
      have S2 := hid s2
      have G2 := hid (grown_upd (grown_drewN G1.out nq) u2)
      have hl2 : (splice p1 32 nv).length = 64 := by simp [splice, HN.out, hl1]
      clear s2 u2 N1 S1 G1 NC hp1 hl1
      generalize hp2 : splice p1 32 nv = p2 at *
      go_wp2
      have h56 : 56 + lv.length ≤ p2.length := by rw [HLL.out, hl2]; omega
      have H56 := hid h56
      clear h56
      go_region_with (go_at_call 75; refine (HLO.out _).mono ?_; rintro e w9 ⟨rfl, b9, e9⟩; have s9 := Blk.ext (S2.out.drew) e9; have hcp := run_copy_row (P := Try.prog) w9 26 26 3 5 gB 56 8 8 ⟨w2.heap.size, 0, none⟩ 8 8 _ _ lv Try.underlying26 size_u8 s9 HLL.out (news_blk b9) H56.out ol)
      have hsp10 : splice p2 56 lv = List.take 56 p2 ++ (lv ++ List.drop (56 + lv.length) p2) := by unfold splice; rw [List.append_assoc]
      have s10 := s9.setRow (splice p2 56 lv)
      have hup := Upd.setRow (w := w9) (g := gB) (splice p2 56 lv).toArray
      have G3 := hid (grown_upd (grown_ext G2.out (((Ext.refl w2).drew).ext e9)) hup)
      rw [hsp10] at G3 hup
      have s10' : Blk (w9.setRow gB (List.take 56 p2 ++ (lv ++ List.drop (56 + lv.length) p2)).toArray) gB (kv ++ nv ++ List.replicate 8 (Value.int .u8 0) ++ lv) 22 := by rw [← HSP.out, ← hsp10]; exact s10
      clear hcp b9 e9 s9 hup s10 S2 G2 hsp10 hl2 H56 hp2
      generalize w9.setRow gB _ = w3 at *
      have S3 := hid s10'
      clear s10' HSP
      generalize kv ++ nv ++ List.replicate 8 (Value.int .u8 0) ++ lv = sv at *
      go_wp2_with (refine wpl_loadw rfl _ _ rfl rfl S3.out agg_state HKL.out ?_)
      refine (HST.out w3).mono ?_
      rintro e w4 ⟨rfl, e4⟩
      go_wp2_with (refine wpl_storew rfl _ _ _ rfl rfl rfl (S3.out.ext e4) agg_state HKL.out hBL.out ob ?_)
      intro w5 b5 u5
      have G5 := hid (grown_upd (grown_ext G3.out e4) u5)
      have B5 := hid b5
      have E5 := hid (EB.out.grown G5.out (by intro g hg; injection hg with hg; omega))
      have K5 := hid (KB.out.grown G5.out (by intro h; injection h with h; exact hgK h))
      have N5 := hid (NB.out.grown G5.out (by intro h; injection h with h; exact hgN h))
      have hob := fun g h => own_block_ge OB.out g h
      have O5 : Hid (w5.ownsRow (w.heap.size + 2) 5 1 (.slice a4 m c4) m ((strmL k n A m).map u8v)) := hid (OB.out.kept G5.out (.inr fun e => ?ob))
      case ob => have := hobl.out _ e; omega
      have hb5 : w.heap.size + 2 ≤ w5.heap.size := by have h1 := G5.out.size; have h2 := WB.out.size; omega
      clear b5 u5 e4 S3 G3 G5 EB KB NB OB WB hob
      have hcl := Cells.of_blk B5.out r c
      rw [← List.map_drop, ← List.map_take] at hcl
      have hyl : ((bl.drop r).take c).length = c := by
        have := hBL.out
        rw [List.length_map] at this
        rw [List.length_take, List.length_drop]; omega
      generalize (bl.drop r).take c = ys at *
      have HCL := hid hcl
      have HYL := hid hyl
      have hne64 : ¬ 64 = r := by omega
      have hr3 : (0 : Int) ≤ (r : Int) := by omega
      have hr4 : (r : Int) ≤ (en : Int) := by have := HEN.out; omega
      have hen2 : en - r = c := by have := HEN.out; omega
      have hen3 : (en : Int) ≤ 64 := by have := HEN.out; omega
      have hen0 : (0 : Int) ≤ (en : Int) := by omega
      have v1 : IntKind.i64.wrap ((r : Int) + A) = (r : Int) + A := IntWalk.i64_in _ (by omega)
      have v2 : IntKind.i64.wrap ((r : Int) + A + M) = (r : Int) + A + M := IntWalk.i64_in _ (by omega)
      have v3 : IntKind.i64.wrap ((r : Int) + A + M - (A + m)) = (r : Int) + A + M - (A + m) := IntWalk.i64_in _ (by omega)
      clear hcl hyl
      go_wp2_with (first | (at_builtin; refine wpl_append8 rfl _ _ rfl (w.heap.size + 2) (ys := ys) rfl rfl O5.out HYL.out (by intro h; cases h) HCL.out (by omega) hb5 ?_))
      intro v6 w6 own6 g6
      rw [← List.map_append, ← HMO.out] at own6
      have hv6 := fun g' h => own_block_ge O5.out g' h
      have O6 := hid own6
      have K6 := hid (K5.out.grown g6 (by intro h; have := hv6 _ h.symm; omega))
      have N6 := hid (N5.out.grown g6 (by intro h; have := hv6 _ h.symm; omega))
      have E6 := hid (E5.out.grown g6 (by intro k hk; have := hv6 _ hk; omega))
      have hb6 : w.heap.size + 2 ≤ w6.heap.size := Nat.le_trans hb5 g6.size
      obtain ⟨a7, c7, hv7, -, -, -, -⟩ := own_slice own6
      have HV7 := hid hv7
      have v4 : IntKind.i64.wrap ((en : Int) - r) = (en : Int) - r := IntWalk.i64_in _ (by omega)
      have v5 : IntKind.i64.wrap ((en : Int) - r - 1) = (en : Int) - r - 1 := IntWalk.i64_in _ (by omega)
      have v8 : IntKind.i64.wrap ((A : Int) + m + ((en : Int) - r - 1)) = (A : Int) + m + ((en : Int) - r - 1) := IntWalk.i64_in _ (by omega)
      have v9 : IntKind.i64.wrap ((A : Int) + m + ((en : Int) - r - 1) + 1) = (A : Int) + m + ((en : Int) - r - 1) + 1 := IntWalk.i64_in _ (by omega)
      clear own6 g6 hv6 hv7 O5 K5 N5 E5 hb5 B5 HCL
      go_wp2
      go_roundw
      case rel => exact ⟨m + c, hcM, by have := HEN.out; congr 1; omega, O6, K6, N6, E6, hb6⟩
      case measure => rw [HV7.out]; simp only [sliceLen]; omega
    · have hmM2 : m = M := by omega
      subst hmM2
      have O9 := hid (own_lower (B' := w.heap.size) ho.out (by omega))
      clear ho
      go_wp2
      go_ret
      exact ⟨_, rfl, O9.out, he.out⟩
end Go.Proofs.Ytjgglnflicemjaa
