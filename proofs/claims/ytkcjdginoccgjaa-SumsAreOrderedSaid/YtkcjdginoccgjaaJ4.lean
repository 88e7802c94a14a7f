/- Contracts and laws that the claim's row leans on (3 texts, joined): SumsAreOrdered is true; conditions: the lengths, the arguments' memory. Readings of slices of rows of 32 octets, and of a struct of two ints and such a slice, are opened; no condition. A reading of a slice of rows of 32 octets is opened; no condition. -/
import Derived.Test.YtkcjdginoccgjaaJ3
import Derived.Deep.Strs
namespace Go.Proofs.Ytkcjdginoccgjaa
section
open Go Go.RowKit Go.Maps Go.MapKept

theorem size_arr32 : (Try.prog.info? 22).map (·.size) = some 32 := by kernel_rfl

theorem Blk.keep {w w' : World} {g : Nat} {vs : List Value} {T : TypeId} (h : Blk w g vs T) (e : w'.heap[g]? = w.heap[g]?) : Blk w' g vs T := e.trans h

theorem strOf_list (l : List UInt8) : (strOf l).data.toList = l := by simp [strOf]
theorem strOf_back (s : ByteArray) : strOf s.data.toList = s := by
  apply ByteArray.ext; simp [strOf]
theorem hexn_c (l : List UInt8) (a : Option Addr) (n c : Nat) (w : World) (hn : l.length = n) (hl : n ≤ 140737488351232) (hc : Cells w a (l.map u8v)) :
    Calls Try.prog 16 #[.slice a n c] w fun e w' => e = .returned (.string (strOf (hexL l))) ∧ Ext w w' := by
  subst hn
  exact hex_c l a c w hl hc
theorem Blk.cells {w : World} {g : Nat} {vs : List Value} {T : TypeId} (h : Blk w g vs T) : Cells w (some ⟨g, 0, none⟩) vs := Cells.of_blk0 h
/-- what was written is read -/
theorem parseBack_c (l : List UInt8) (n : Nat) (w : World) (hn : l.length = n) (hm : n ≤ 1048576) :
    Calls Try.prog 17 #[.string (strOf (hexL l)), .int .i64 (n : Int)] w fun e w' => ∃ p d, e = .returned (.tuple #[.slice p n d, .int .i64 0]) ∧ Cells w' p (l.map u8v) ∧ Ext w w' := by
  have hsz : (strOf (hexL l)).size = 2 * n := by
    show (hexL l).toArray.size = _
    rw [← hn, ← hexL_length]; simp
  have hE : hexE (hexL l) (n : Int) = 0 := by
    unfold hexE
    rw [if_neg (by omega), if_pos ⟨by rw [hexL_length, hn]; omega, (hex_unhex_hex l).2⟩]
  refine (parseHex_c (strOf (hexL l)) (n : Int) w (by rw [hsz]; omega) (by omega)).mono ?_
  rintro e w' ⟨v, rfl, e1, hv⟩
  rw [strOf_list, hE, if_pos rfl, (hex_unhex_hex l).1, Int.toNat_natCast] at hv
  obtain ⟨p, d, rfl, _, _, _, hc⟩ := own_slice hv
  exact ⟨p, d, by rw [strOf_list, hE], hc, e1⟩

set_option maxRecDepth 100000 in
set_option maxHeartbeats 4000000 in
theorem sumsOrdered_c (x y : List UInt8) (ls : List (List UInt8)) (a : Option Addr) (n c : Nat) (text : ByteArray) (many : Int) (w : World) (hx : x.length = 32) (hy : y.length = 32) (hln : ls.length = n) (h32 : All32 ls) (hn : n * 32 ≤ 140737488351232) (hcl : Cells w a (rows ls))
    (hts : text.size ≤ 140737488351232) (hmany : -9223372036854775808 ≤ many ∧ many ≤ 9223372036854775807) :
    Calls Try.prog 3 #[.agg (x.map u8v).toArray, .agg (y.map u8v).toArray, .slice a n c, .string text, .int .i64 many] w fun e w' => e = .returned (.bool true) ∧ Ext w w' := by
  have HX := hid hx
  have HY := hid hy
  have HLN := hid hln
  have H32 := hid h32
  have HCL := hid hcl
  have HTS := hid hts
  have HMANY := hid hmany
  have hxl := hid (show (x.map u8v).length = 32 by rw [List.length_map]; exact hx)
  have hyl := hid (show (y.map u8v).length = 32 by rw [List.length_map]; exact hy)
  have hzl := hid (show ((xorTo x y 32).map u8v).length = 32 by rw [List.length_map, xorTo_length]; exact hx)
  have hzo : ∀ v ∈ (xorTo x y 32).map u8v, v.oneCell' = true := by intro v hv; obtain ⟨b, _, rfl⟩ := List.mem_map.1 hv; rfl
  have HZ := hid (fun j (hj : j < 32) => xorTo_get x y 32 j (by rw [hx]; exact hj))
  have hxor := hid (fun w' => xor_c x y w' hx hy)
  have hcmp := hid (fun w' => compareE_c x y w' hx hy)
  generalize hz : xorTo x y 32 = z at *
  clear hx hy hln h32 hcl hts hmany hz
  have hmk := fun w => run_makeMapU (P := Try.prog) 30 w
  go_enter Try.func3, Try.ntmps3
  go_upto_region 1 with (fail)
  generalize hwA : World.alloc (World.alloc w _) _ = wA
  have xA : Blk wA w.heap.size (x.map u8v) 22 := by rw [← hwA]; exact (Blk.mk_alloc rfl rfl).alloc _
  have yA : Blk wA (w.heap.size + 1) (y.map u8v) 22 := by rw [← hwA]; exact Blk.mk_alloc (by simp) rfl
  have eA : Ext w wA := by rw [← hwA]; exact ((Ext.refl w).alloc _).alloc _
  have XA := hid xA
  have YA := hid yA
  have EA := hid eA
  clear hwA xA yA eA
  go_wp2_with fail
  refine (landed_c _).mono ?_
  rintro e wB ⟨rfl, eB⟩
  have XB := hid (XA.out.ext eB)
  have YB := hid (YA.out.ext eB)
  have EB := hid (EA.out.ext eB)
  clear eB XA YA EA
  go_wp2_with (first | (refine wpl_loadw rfl 22 (.tmp 5) rfl rfl XB.out agg_arr32 hxl.out ?_) | (refine wpl_loadw rfl 22 (.tmp 6) rfl rfl YB.out agg_arr32 hyl.out ?_))
  refine (hxor.out wB).mono ?_
  rintro e wC ⟨rfl, eC⟩
  have XC := hid (XB.out.ext eC)
  have YC := hid (YB.out.ext eC)
  have EC := hid (EB.out.ext eC)
  clear eC XB YB EB
  go_wp2_with (refine wpl_storew rfl _ (.tmp 11) _ rfl rfl rfl (Blk.mk_alloc (vs := List.replicate 32 (.int .u8 0)) rfl rfl) agg_arr32 (by simp) hzl.out hzo ?_)
  intro wD bD uD
  have hgz : w.heap.size + 2 ≤ wC.heap.size := YC.out.lt
  have eD : Ext wC wD := uD.ext ((Ext.refl wC).alloc _) (Nat.le_refl _)
  have ZD := hid bD
  have XD := hid (XC.out.ext eD)
  have YD := hid (YC.out.ext eD)
  have ED := hid (EC.out.ext eD)
  clear bD uD eD XC YC EC
  generalize wC.heap.size = gz at *
  go_wp2
  go_loopw [29] (fun i wr => ∃ k : Nat, k ≤ 32 ∧ i = .int .i64 (k : Int) ∧ Hid (Blk wr w.heap.size (x.map u8v) 22) ∧ Hid (Blk wr (w.heap.size + 1) (y.map u8v) 22) ∧ Hid (Blk wr gz (z.map u8v) 22) ∧ Hid (Ext w wr)) (fun i _ => 32 - (intOf i).toNat)
  case atStart => exact ⟨0, by omega, rfl, XD, YD, ZD, ED⟩
  case round =>
    obtain ⟨k, hk, rfl, XR, YR, ZR, ER⟩ := hrel
    clear XD YD ZD ED
    by_cases hlt : k < 32
    · have hd : decide ((k : Int) < 32) = true := decide_eq_true (by omega)
      have hzk := HZ.out k hlt
      rw [if_pos hlt] at hzk
      have hzk2 : z[k]?.getD 0 = xor8 (x[k]?.getD 0) (y[k]?.getD 0) := by rw [hzk]; rfl
      have hz1 : z.length = 32 := by have := hzl.out; rwa [List.length_map] at this
      have hxo := xor8_b (x[k]?.getD 0) (y[k]?.getD 0)
      go_wp2_with fail
      obtain ⟨C, hC⟩ : ∃ C : World → Prop, C = Cls w wr [w.heap.size, w.heap.size + 1, gz] [] := ⟨_, rfl⟩
      have hC0 : ∀ w', C w' ↔ Cls w wr [w.heap.size, w.heap.size + 1, gz] [] w' := fun w' => by rw [hC]
      clear hC
      have HCC := hid hC0
      clear hC0
      have hCx : ∀ w w', C w → Ext w w' → C w' := fun w w' h1 h2 => (HCC.out w').2 (((HCC.out w).1 h1).ext h2)
      have hCA : C wr := (HCC.out _).2 (Cls.no_room ER.out (Kept.three XR.out.lt YR.out.lt ZR.out.lt))
      have c1 : ∀ w1, C w1 → w1.cell? ⟨gz, k, none⟩ = some (.int .u8 ((z[k]?.getD 0).toNat : Int)) := fun w1 h1 => (((HCC.out w1).1 h1).blk ZR.out (by simp)).cell' (u8_at (by rw [hz1]; exact hlt))
      have c2 : ∀ w1, C w1 → w1.cell? ⟨w.heap.size, k, none⟩ = some (.int .u8 ((x[k]?.getD 0).toNat : Int)) := fun w1 h1 => (((HCC.out w1).1 h1).blk XR.out (by simp)).cell' (u8_at (by rw [HX.out]; exact hlt))
      have c3 : ∀ w1, C w1 → w1.cell? ⟨w.heap.size + 1, k, none⟩ = some (.int .u8 ((y[k]?.getD 0).toNat : Int)) := fun w1 h1 => (((HCC.out w1).1 h1).blk YR.out (by simp)).cell' (u8_at (by rw [HY.out]; exact hlt))
      rw [hzk2] at c1
      clear hzk hzk2 hz1
      have i0 : (0 : Int) ≤ (k : Int) := by omega
      have i1 : (k : Int) < 32 := by omega
      generalize x[k]?.getD 0 = p at *
      generalize y[k]?.getD 0 = q at *
      have hne : (((xor8 p q).toNat : Int) != ((xor8 p q).toNat : Int)) = false := by simp
      refine wp_region_held_drew (S := C) (by kernel_rfl) (hCx _ _ hCA (Ext.refl _).drew) (fun hS0 => ?_)
      refine held_take 0 (v := ?tv1) rfl (by kernel_rfl) (by kernel_rfl) (by kernel_rfl) (fun _ _ _ h => h) (.inl ⟨rfl, ?ty1⟩) hS0 ?tr1
      case ty1 => (intro _ _; go_simp; try with_reducible rfl)
      case tr1 =>
      simp only [Act.put, List.setIfInBounds_toArray, List.set_cons_succ, List.set_cons_zero]
      refine held_take 1 (v := ?tv2) rfl (by kernel_rfl) (by kernel_rfl) (by kernel_rfl) (fun _ _ _ h => h) (.inl ⟨rfl, ?ty2⟩) hS0 ?tr2
      case ty2 => (intro _ _; go_simp; try with_reducible rfl)
      case tr2 =>
      simp only [Act.put, List.setIfInBounds_toArray, List.set_cons_succ, List.set_cons_zero]
      refine held_take 2 (v := ?tv3) rfl (by kernel_rfl) (by kernel_rfl) (by kernel_rfl) (fun _ _ _ h => h) (.inl ⟨rfl, ?ty3⟩) hS0 ?tr3
      case ty3 => (intro wq hwq; have hcq := (c1) wq hwq; go_simp; try with_reducible rfl)
      case tr3 =>
      simp only [Act.put, List.setIfInBounds_toArray, List.set_cons_succ, List.set_cons_zero]
      refine held_take 3 (v := ?tv4) rfl (by kernel_rfl) (by kernel_rfl) (by kernel_rfl) (fun _ _ _ h => h) (.inl ⟨rfl, ?ty4⟩) hS0 ?tr4
      case ty4 => (intro _ _; go_simp; try with_reducible rfl)
      case tr4 =>
      simp only [Act.put, List.setIfInBounds_toArray, List.set_cons_succ, List.set_cons_zero]
      refine held_take 4 (v := ?tv5) rfl (by kernel_rfl) (by kernel_rfl) (by kernel_rfl) (fun _ _ _ h => h) (.inl ⟨rfl, ?ty5⟩) hS0 ?tr5
      case ty5 => (intro _ _; go_simp; try with_reducible rfl)
      case tr5 =>
      simp only [Act.put, List.setIfInBounds_toArray, List.set_cons_succ, List.set_cons_zero]
      refine held_take 5 (v := ?tv6) rfl (by kernel_rfl) (by kernel_rfl) (by kernel_rfl) (fun _ _ _ h => h) (.inl ⟨rfl, ?ty6⟩) hS0 ?tr6
      case ty6 => (intro wq hwq; have hcq := (c2) wq hwq; go_simp; try with_reducible rfl)
      case tr6 =>
      simp only [Act.put, List.setIfInBounds_toArray, List.set_cons_succ, List.set_cons_zero]
      refine held_take 6 (v := ?tv7) rfl (by kernel_rfl) (by kernel_rfl) (by kernel_rfl) (fun _ _ _ h => h) (.inl ⟨rfl, ?ty7⟩) hS0 ?tr7
      case ty7 => (intro _ _; go_simp; try with_reducible rfl)
      case tr7 =>
      simp only [Act.put, List.setIfInBounds_toArray, List.set_cons_succ, List.set_cons_zero]
      refine held_take 7 (v := ?tv8) rfl (by kernel_rfl) (by kernel_rfl) (by kernel_rfl) (fun _ _ _ h => h) (.inl ⟨rfl, ?ty8⟩) hS0 ?tr8
      case ty8 => (intro _ _; go_simp; try with_reducible rfl)
      case tr8 =>
      simp only [Act.put, List.setIfInBounds_toArray, List.set_cons_succ, List.set_cons_zero]
      refine held_take 8 (v := ?tv9) rfl (by kernel_rfl) (by kernel_rfl) (by kernel_rfl) (fun _ _ _ h => h) (.inl ⟨rfl, ?ty9⟩) hS0 ?tr9
      case ty9 => (intro wq hwq; have hcq := (c3) wq hwq; go_simp; try with_reducible rfl)
      case tr9 =>
      simp only [Act.put, List.setIfInBounds_toArray, List.set_cons_succ, List.set_cons_zero]
      refine held_take 9 (v := ?tv10) rfl (by kernel_rfl) (by kernel_rfl) (by kernel_rfl) (fun _ _ _ h => h) (.inl ⟨rfl, ?ty10⟩) hS0 ?tr10
      case ty10 => (intro _ _; go_simp; try with_reducible rfl)
      case tr10 =>
      simp only [Act.put, List.setIfInBounds_toArray, List.set_cons_succ, List.set_cons_zero]
      refine held_take 10 (v := ?tv11) rfl (by kernel_rfl) (by kernel_rfl) (by kernel_rfl) (fun _ _ _ h => h) (.inl ⟨rfl, ?ty11⟩) hS0 ?tr11
      case ty11 => (intro _ _; go_simp; try with_reducible rfl)
      case tr11 =>
      simp only [Act.put, List.setIfInBounds_toArray, List.set_cons_succ, List.set_cons_zero]
      refine wpAnyH_done (by kernel_rfl) ?_ _
      have ER2 := hid ER.out.drew
      have XR2 := hid (XR.out.ext (Ext.refl wr).drew)
      have YR2 := hid (YR.out.ext (Ext.refl wr).drew)
      have ZR2 := hid (ZR.out.ext (Ext.refl wr).drew)
      clear c1 c2 c3 hS0 hCx hCA HCC
      generalize wr.drew = wG at *
      go_wp2
      go_roundw
      case rel => exact ⟨k + 1, by omega, by go_num, XR2, YR2, ZR2, ER2⟩
      case measure => simp [intOf]; omega
    · obtain rfl : k = 32 := by omega
      clear ZR hk hlt
      go_wp2_with fail
      generalize hD : cmpB x y = D at *
      have hDD : ((D : Int) != D) = false := by simp
      have hbc := hid (fun w1 h1 h2 => bcompare_c x y ⟨w.heap.size, 0, none⟩ ⟨w.heap.size + 1, 0, none⟩ 32 32 32 32 w1 HX.out HY.out h1 h2)
      rw [hD] at hbc
      clear hD HZ hzl hxor
      obtain ⟨C, hC⟩ : ∃ C : World → Prop, C = Cls w wr [w.heap.size, w.heap.size + 1] [] := ⟨_, rfl⟩
      have hC0 : ∀ w', C w' ↔ Cls w wr [w.heap.size, w.heap.size + 1] [] w' := fun w' => by rw [hC]
      clear hC
      have HCC := hid hC0
      clear hC0
      have hCx : ∀ w w', C w → Ext w w' → C w' := fun w w' h1 h2 => (HCC.out w').2 (((HCC.out w).1 h1).ext h2)
      have hCA : C wr := (HCC.out _).2 (Cls.no_room ER.out (Kept.two XR.out.lt YR.out.lt))
      refine wp_region_held_drew (S := C) (by kernel_rfl) (hCx _ _ hCA (Ext.refl _).drew) (fun hS0 => ?_)
      refine held_take 0 (v := _) rfl (by kernel_rfl) (by kernel_rfl) (by kernel_rfl) (fun _ _ _ h => h) (yieldsI_loadw rfl 22 _ rfl rfl (fun w1 h => ((HCC.out w1).1 h).blk XR.out (by simp)) agg_arr32 hxl.out) hS0 ?_
      simp only [Act.put, List.setIfInBounds_toArray, List.set_cons_succ, List.set_cons_zero]
      refine held_take 1 (v := _) rfl (by kernel_rfl) (by kernel_rfl) (by kernel_rfl) (fun _ _ _ h => h) (yieldsI_loadw rfl 22 _ rfl rfl (fun w1 h => ((HCC.out w1).1 h).blk YR.out (by simp)) agg_arr32 hyl.out) hS0 ?_
      simp only [Act.put, List.setIfInBounds_toArray, List.set_cons_succ, List.set_cons_zero]
      refine held_take 3 (v := ?tv12) rfl (by kernel_rfl) (by kernel_rfl) (by kernel_rfl) (fun _ _ _ h => h) (.inl ⟨rfl, ?ty12⟩) hS0 ?tr12
      case ty12 => (intro _ _; go_simp; try with_reducible rfl)
      case tr12 =>
      simp only [Act.put, List.setIfInBounds_toArray, List.set_cons_succ, List.set_cons_zero]
      refine held_take 4 (v := ?tv13) rfl (by kernel_rfl) (by kernel_rfl) (by kernel_rfl) (fun _ _ _ h => h) (.inl ⟨rfl, ?ty13⟩) hS0 ?tr13
      case ty13 => (intro _ _; go_simp; try with_reducible rfl)
      case tr13 =>
      simp only [Act.put, List.setIfInBounds_toArray, List.set_cons_succ, List.set_cons_zero]
      generalize wr.drew = wE at *
      refine held_one (i := 2) (by kernel_rfl) rfl ?_
      intro Q' hQ
      go_wp2_with fail
      refine (hcmp.out wE).mono ?_
      rintro e wF ⟨rfl, eq9⟩
      have hS9 := hCx _ _ hS0 eq9
      go_wp2_with fail
      refine hQ _ _ hS9 ?_
      clear hQ Q' hS0 eq9
      have hS0 := hS9
      clear hS9
      try dsimp only
      try simp only [Act.put, List.setIfInBounds_toArray, List.set_cons_succ, List.set_cons_zero]
      refine held_one (i := 5) (by kernel_rfl) rfl ?_
      intro Q' hQ
      go_wp2_with fail
      refine (hbc.out wF (cellsAt_blk (((HCC.out wF).1 hS0).blk XR.out (by simp))) (cellsAt_blk (((HCC.out wF).1 hS0).blk YR.out (by simp)))).mono ?_
      rintro e wG ⟨rfl, rfl⟩
      go_wp2_with fail
      refine hQ _ _ hS0 ?_
      clear hQ Q'
      try dsimp only
      try simp only [Act.put, List.setIfInBounds_toArray, List.set_cons_succ, List.set_cons_zero]
      refine held_take 6 (v := ?tv14) rfl (by kernel_rfl) (by kernel_rfl) (by kernel_rfl) (fun _ _ _ h => h) (.inl ⟨rfl, ?ty14⟩) hS0 ?tr14
      case ty14 => (intro _ _; go_simp; try with_reducible rfl)
      case tr14 =>
      simp only [Act.put, List.setIfInBounds_toArray, List.set_cons_succ, List.set_cons_zero]
      refine wpAnyH_done (by kernel_rfl) ?_ _
      have HCG := hid ((HCC.out wF).1 hS0)
      have XG := hid (HCG.out.blk XR.out (by simp))
      have EG := hid HCG.out.base
      clear HCG hS0 hCx hCA HCC XR YR ER hcmp hbc hDD hyl HY
      go_wp2_with fail
      have SA := hid (SumSet.new wF)
      have eH : Ext wF (wF.alloc (.map #[] 0)) := (Ext.refl wF).alloc _
      have EH := hid eH
      have hsz : (wF.alloc (.map #[] 0)).heap.size = wF.heap.size + 1 := by show (wF.heap.push _).size = _; simp
      have hin : (wF.alloc (.map #[] 0)).ownsRow (wF.heap.size + 1) 32 32 (.slice none 0 0) 0 (rows (ls.take 0)) := ⟨by simp [rows], .inl ⟨rfl, rfl⟩⟩
      have HIN := hid hin
      have hgx : w.heap.size < wF.heap.size := XG.out.lt
      clear eH hin hsz
      generalize wF.alloc (.map #[] 0) = wH at *
      generalize hgm : wF.heap.size = gm at *
      have HGM := hid hgm
      clear hgm
      go_loopw [54, 13] (fun i v wr => ∃ (k : Nat) (ds : List (List UInt8)), k ≤ n ∧ i = .int .i64 (k : Int) ∧ wr.ownsRow (gm + 1) 32 32 v k (rows (ls.take k)) ∧ SumSet wr gm ds ∧ (∀ z, z ∈ ds ↔ z ∈ ls.take k) ∧ Ext wF wr) (fun i _ _ => n - (intOf i).toNat)
      case atStart => exact ⟨0, [], by omega, rfl, HIN.out, SA.out, by simp, EH.out⟩
      case round =>
        obtain ⟨k, ds, hk, rfl, own, hset, hmem, e1⟩ := hrel
        have OWN := hid own
        have SET := hid hset
        have MEM := hid hmem
        have E1 := hid e1
        clear own hset hmem e1 EH SA HIN
        by_cases hlt : k < n
        · have hd : decide ((k : Int) < (n : Int)) = true := decide_eq_true (by omega)
          obtain ⟨s, hsk⟩ : ∃ s, ls[k]? = some s := ⟨ls[k]'(by rw [HLN.out]; exact hlt), by simp⟩
          have hs0 := H32.out.at hsk
          obtain ⟨A, rfl, hca⟩ : ∃ A, a = some A ∧ CellsAt w (A.add (k * 32)) (s.map u8v) := by
            cases a with
            | none => rcases HCL.out with h | ⟨_, _, h, _⟩
                      · have := rows_length H32.out; rw [h, HLN.out] at this; simp at this; omega
                      · cases h
            | some A => exact ⟨A, rfl, HCL.out.rowAt H32.out hsk⟩
          have HCA := hid (hca.ext (EG.out.ext E1.out))
          have HS0 := hid hs0
          have HSV : Hid ((s.map u8v).length = 32) := hid (by rw [List.length_map, hs0])
          have hso := one_u8 s
          have htk : ls.take (k + 1) = ls.take k ++ [s] := by rw [List.take_add_one, hsk]; rfl
          have HTK := hid htk
          clear hca hs0 hsk htk
          go_wp2_with (first | (refine wpl_run rfl (exec_index (i := k) rfl rfl rfl Try.underlying23 size_arr32 hlt _) ?_) | (refine wpl_run rfl (exec_load_at rfl rfl HCA.out agg_arr32 HSV.out) ?_) | (refine wpl_storew rfl _ (.tmp 16) _ rfl rfl rfl (Blk.mk_alloc (vs := List.replicate 32 (.int .u8 0)) rfl rfl) agg_arr32 (by simp) HSV.out hso ?_))
          intro w1 b1 u1
          have e1 : Ext wr w1 := u1.ext ((Ext.refl wr).alloc _) (Nat.le_refl _)
          have O1 := hid (ownsRow_ext OWN.out e1)
          have S1 := hid (SET.out.ext e1)
          have E2 := hid (E1.out.ext e1)
          have B1 := hid b1
          have hlt1 : ∀ q, u13.ownBlock = some q → q < wr.heap.size := own_block_lt' OWN.out
          have HLT1 := hid hlt1
          clear b1 u1 e1 hlt1 OWN SET E1
          generalize wr.heap.size = gr at *
          have hg1 : gm + 1 ≤ w1.heap.size := S1.out.lt
          have O2 := hid (ownsRow_ext O1.out ((Ext.refl w1).alloc (.cells (s.map u8v).toArray 32)))
          have S2 := hid (S1.out.ext ((Ext.refl w1).alloc (.cells (s.map u8v).toArray 32)))
          have E3 := hid (E2.out.alloc (.cells (s.map u8v).toArray 32))
          have B2 := hid (B1.out.alloc (.cells (s.map u8v).toArray 32))
          have N2 : Hid (Blk (w1.alloc (.cells (s.map u8v).toArray 32)) w1.heap.size (s.map u8v) 32) := hid (Blk.mk_alloc rfl rfl)
          have hg2 : gm + 1 ≤ (w1.alloc (.cells (s.map u8v).toArray 32)).heap.size := Nat.le_trans hg1 ((Ext.refl w1).alloc _).size
          clear O1 S1 E2
          go_wp2_with (first | (refine wpl_loadw rfl 22 (.tmp 16) rfl rfl B1.out agg_arr32 HSV.out ?_) | (refine wpl_buildRow rfl rfl rfl HS0.out ?_) | (at_builtin; refine wpl_append_row rfl _ _ rfl (gm + 1) rfl rfl O2.out HS0.out N2.out (by omega) hg2 ?_))
          intro v2 w2 own2 gr2
          have hge := own_block_ge O2.out
          have O3 := hid own2
          have S3 := hid (S2.out.grown gr2 (fun q hq => hge q hq))
          have E4 := hid (E3.out.grown gr2 (fun q hq => by rw [HGM.out]; exact Nat.le_of_succ_le (hge q hq)))
          have B3 := hid (B2.out.keep (gr2.block gr B2.out.lt (fun he => absurd (HLT1.out gr he.symm) (Nat.lt_irrefl _))))
          clear own2 gr2 hge O2 S2 E3 B2 N2 B1 HLT1
          obtain ⟨wU, ds2, hup, hU, hS, hms⟩ := run_putSum Try.underlying30 S3.out HS0.out
          have hgeU := own_block_ge O3.out
          have O4 := hid (own_keep O3.out (fun q hq => hU.block q (by have := hgeU q hq; omega)))
          have S4 := hid hS
          have E5 := hid (hU.ext E4.out (by rw [HGM.out]; exact Nat.le_refl _))
          have M4 := hid (show ∀ z, z ∈ ds2 ↔ z ∈ ls.take (k + 1) from fun z => by rw [hms, MEM.out, HTK.out, List.mem_append, List.mem_singleton])
          clear hU hS hms hgeU O3 S3 E4
          go_wp2_with (refine wpl_loadw rfl 22 (.tmp 16) rfl rfl B3.out agg_arr32 HSV.out ?_)
          clear hup
          go_roundw
          case rel => exact ⟨k + 1, ds2, by omega, by go_num, by rw [HTK.out]; exact O4.out, S4.out, M4.out, E5.out⟩
          case measure => simp [intOf]; omega
        · obtain rfl : k = n := by omega
          have htk : ls.take k = ls := List.take_of_length_le (by rw [HLN.out]; exact Nat.le_refl _)
          rw [htk] at OWN MEM
          clear htk hk hlt
          obtain ⟨p1, c1, rfl, hnc1, hcm1, hnil1, hcl1⟩ := own_sliceT (by decide) OWN.out
          have HC1 := hid hcl1
          clear hcl1
          go_wp2_with fail
          refine (cloneS_c ls p1 k c1 wr HLN.out H32.out (by omega) HC1.out).mono ?_
          rintro e wI ⟨v2, rfl, own2, _, eI⟩
          obtain ⟨p2, c2, rfl, hnc2, hcm2, hnil2, hcl2⟩ := own_sliceT (by decide) own2
          have HC2 := hid hcl2
          have HC1I := hid (HC1.out.ext eI)
          have SI := hid (SET.out.ext eI)
          have EI := hid (E1.out.ext eI)
          clear own2 hcl2 eI HC1 SET E1 OWN
          go_wp2_with fail
          refine (sorted_c ls p1 k c1 wI HLN.out H32.out (by omega) HC1I.out).mono ?_
          rintro e wJ ⟨p3, os, c3, rfl, hsrt, hosm, hcl3, eJ⟩
          have HC3 := hid hcl3
          have SRT := hid hsrt
          have HC1J := hid (HC1I.out.ext eJ)
          have HC2J := hid (HC2.out.ext eJ)
          have SJ := hid (SI.out.ext eJ)
          have EJ := hid (EI.out.ext eJ)
          have hsame : os.length = ds.length := same_members hsrt SI.out.nodup (fun x => by rw [hosm, MEM.out])
          have hos32 : All32 os := fun x hx => H32.out x ((hosm x).1 hx)
          have hosd := hid (fun x (hx : x ∈ os) => (MEM.out x).2 ((hosm x).1 hx))
          have hoslen : os.length ≤ k := by rw [← HLN.out]; exact List.Nodup.length_le_of_subset (sorted_nodup hsrt) (fun x hx => (hosm x).1 hx)
          have HO32 := hid hos32
          have HSAME := hid hsame
          clear hcl3 hsrt hosm eJ HC1I HC2 SI EI hsame hos32 MEM
          obtain ⟨M, hM⟩ : ∃ M, os.length = M := ⟨_, rfl⟩
          have HM := hid hM
          have hdl : ((ds.map sumV).length : Int) = (M : Int) := by rw [List.length_map, ← HSAME.out, hM]
          have heq := hid (fun w' h1 h2 => equalS_c ls ls p2 p1 k k c2 c1 w' HLN.out HLN.out (by omega) H32.out H32.out h1 h2)
          have hll : (ls == ls) = true := by simp
          rw [hll] at heq
          rw [hM] at hoslen ⊢
          clear hM hll
          have hmm : ((M : Int) != (M : Int)) = false := by simp
          go_wp2_with fail
          refine (heq.out wJ HC2J.out HC1J.out).mono ?_
          rintro e wK ⟨rfl, eK⟩
          have HC3K := hid (HC3.out.ext eK)
          have SK := hid (SJ.out.ext eK)
          have EK := hid (EJ.out.ext eK)
          have hlen2 := fun ty => run_len_set (w := wK) (ty := ty) Try.underlying30 SK.out.set
          unfold goInt at hlen2
          rw [hdl] at hlen2
          clear eK HC1J HC2J HC3 SJ EJ heq hdl HSAME
          go_wp2_with fail
          go_loopw [82] (fun i wr => ∃ j : Nat, j ≤ M ∧ i = .int .i64 (j : Int) ∧ Hid (Ext wK wr)) (fun i _ => M - (intOf i).toNat)
          case atStart => exact ⟨0, by omega, rfl, hid (Ext.refl _)⟩
          case round =>
            obtain ⟨j, hj, rfl, ER⟩ := hrel
            clear hlen2
            by_cases hjt : j < M
            · have hd : decide ((j : Int) < (M : Int)) = true := decide_eq_true (by omega)
              obtain ⟨s, hsj⟩ : ∃ s, os[j]? = some s := ⟨os[j]'(by rw [HM.out]; exact hjt), by simp⟩
              have hs0 := HO32.out.at hsj
              obtain ⟨A, rfl, hca⟩ : ∃ A, p3 = some A ∧ CellsAt wK (A.add (j * 32)) (s.map u8v) := by
                cases p3 with
                | none => rcases HC3K.out with h | ⟨_, _, h, _⟩
                          · have := rows_length HO32.out; rw [h, HM.out] at this; simp at this; omega
                          · cases h
                | some A => exact ⟨A, rfl, HC3K.out.rowAt HO32.out hsj⟩
              have HCA := hid (hca.ext ER.out)
              have HS0 := hid hs0
              have HSV : Hid ((s.map u8v).length = 32) := hid (by rw [List.length_map, hs0])
              have hso := one_u8 s
              have HSJ := hid hsj
              have SR := hid (SK.out.ext ER.out)
              have HIN := hid (hosd.out s (List.mem_of_getElem? hsj))
              clear hca hs0 hsj
              go_wp2_with (first | (refine wpl_run rfl (exec_index (i := j) rfl rfl rfl Try.underlying29 size_apisum hjt _) ?_) | (refine wpl_run rfl (exec_load_at rfl rfl HCA.out agg_apisum HSV.out) ?_) | (refine wpl_storew rfl _ (.tmp 20) _ rfl rfl rfl (Blk.mk_alloc (vs := List.replicate 32 (.int .u8 0)) rfl rfl) agg_apisum (by simp) HSV.out hso ?_))
              intro w1 b1 u1
              have e1 : Ext wr w1 := u1.ext ((Ext.refl wr).alloc _) (Nat.le_refl _)
              have S1 := hid (SR.out.ext e1)
              have E2 := hid (ER.out.ext e1)
              have B1 := hid b1
              clear b1 u1 e1 HCA SR
              generalize wr.heap.size = gr at *
              go_wp2
              obtain ⟨C, hC⟩ : ∃ C : World → Prop, C = Cls w1 w1 [] [] := ⟨_, rfl⟩
              have hC0 : ∀ w', C w' ↔ Cls w1 w1 [] [] w' := fun w' => by rw [hC]
              clear hC
              have HCC := hid hC0
              clear hC0
              have hCx : ∀ w w', C w → Ext w w' → C w' := fun w w' h1 h2 => (HCC.out w').2 (((HCC.out w).1 h1).ext h2)
              have hCA : C w1 := (HCC.out _).2 (Cls.no_room (Ext.refl w1) (Kept.none _))
              cases j with
              | zero =>
                have hd0 : decide ((0 : Int) < ((0 : Nat) : Int)) = false := by decide
                refine wp_region_held_drew (S := C) (by kernel_rfl) (hCx _ _ hCA (Ext.refl _).drew) (fun hS0 => ?_)
                refine held_take 0 (v := ?tv15) rfl (by kernel_rfl) (by kernel_rfl) (by kernel_rfl) (fun _ _ _ h => h) (.inl ⟨rfl, ?ty15⟩) hS0 ?tr15
                case ty15 => (intro _ _; go_simp; try with_reducible rfl)
                case tr15 =>
                simp only [Act.put, List.setIfInBounds_toArray, List.set_cons_succ, List.set_cons_zero]
                refine held_take 1 (v := _) rfl (by kernel_rfl) (by kernel_rfl) (by kernel_rfl) (fun _ _ _ h => h) (yieldsI_loadw rfl 32 _ rfl rfl (fun w2 h => B1.out.ext ((HCC.out w2).1 h).base) agg_apisum HSV.out) hS0 ?_
                simp only [Act.put, List.setIfInBounds_toArray, List.set_cons_succ, List.set_cons_zero]
                refine held_take 2 (v := _) rfl (by kernel_rfl) (by kernel_rfl) (by kernel_rfl) (fun _ _ _ h => h) (yieldsI_run rfl (fun w2 h => exec_hasSum Try.underlying30 rfl rfl rfl (S1.out.ext ((HCC.out w2).1 h).base) HS0.out HIN.out)) hS0 ?_
                simp only [Act.put, List.setIfInBounds_toArray, List.set_cons_succ, List.set_cons_zero]
                refine held_take 3 (v := ?tv16) rfl (by kernel_rfl) (by kernel_rfl) (by kernel_rfl) (fun _ _ _ h => h) (.inl ⟨rfl, ?ty16⟩) hS0 ?tr16
                case ty16 => (intro _ _; go_simp; try with_reducible rfl)
                case tr16 =>
                simp only [Act.put, List.setIfInBounds_toArray, List.set_cons_succ, List.set_cons_zero]
                refine held_take 4 (v := ?tv17) rfl (by kernel_rfl) (by kernel_rfl) (by kernel_rfl) (fun _ _ _ h => h) (.inl ⟨rfl, ?ty17⟩) hS0 ?tr17
                case ty17 => (intro _ _; go_simp; try with_reducible rfl)
                case tr17 =>
                simp only [Act.put, List.setIfInBounds_toArray, List.set_cons_succ, List.set_cons_zero]
                refine held_take 5 (v := ?tv18) rfl (by kernel_rfl) (by kernel_rfl) (by kernel_rfl) (fun _ _ _ h => h) (.inl ⟨rfl, ?ty18⟩) hS0 ?tr18
                case ty18 => (intro _ _; go_simp; try with_reducible rfl)
                case tr18 =>
                simp only [Act.put, List.setIfInBounds_toArray, List.set_cons_succ, List.set_cons_zero]
                refine held_take 6 (v := ?tv19) rfl (by kernel_rfl) (by kernel_rfl) (by kernel_rfl) (fun _ _ _ h => h) (.inl ⟨rfl, ?ty19⟩) hS0 ?tr19
                case ty19 => (intro _ _; go_simp; try with_reducible rfl)
                case tr19 =>
                simp only [Act.put, List.setIfInBounds_toArray, List.set_cons_succ, List.set_cons_zero]
                refine held_take 7 (v := ?tv20) rfl (by kernel_rfl) (by kernel_rfl) (by kernel_rfl) (fun _ _ _ h => h) (.inl ⟨rfl, ?ty20⟩) hS0 ?tr20
                case ty20 => (intro _ _; go_simp; try with_reducible rfl)
                case tr20 =>
                simp only [Act.put, List.setIfInBounds_toArray, List.set_cons_succ, List.set_cons_zero]
                refine held_take 8 (v := undef) rfl (by kernel_rfl) (by kernel_rfl) (by kernel_rfl) (fun _ _ _ h => h) (.inr ⟨rfl, rfl⟩) hS0 ?_
                simp only [Act.put, List.setIfInBounds_toArray, List.set_cons_succ, List.set_cons_zero]
                refine held_take 9 (v := undef) rfl (by kernel_rfl) (by kernel_rfl) (by kernel_rfl) (fun _ _ _ h => h) (.inr ⟨rfl, rfl⟩) hS0 ?_
                simp only [Act.put, List.setIfInBounds_toArray, List.set_cons_succ, List.set_cons_zero]
                refine held_take 10 (v := undef) rfl (by kernel_rfl) (by kernel_rfl) (by kernel_rfl) (fun _ _ _ h => h) (.inr ⟨rfl, rfl⟩) hS0 ?_
                simp only [Act.put, List.setIfInBounds_toArray, List.set_cons_succ, List.set_cons_zero]
                refine held_take 11 (v := undef) rfl (by kernel_rfl) (by kernel_rfl) (by kernel_rfl) (fun _ _ _ h => h) (.inr ⟨rfl, rfl⟩) hS0 ?_
                simp only [Act.put, List.setIfInBounds_toArray, List.set_cons_succ, List.set_cons_zero]
                refine held_take 12 (v := undef) rfl (by kernel_rfl) (by kernel_rfl) (by kernel_rfl) (fun _ _ _ h => h) (.inr ⟨rfl, rfl⟩) hS0 ?_
                simp only [Act.put, List.setIfInBounds_toArray, List.set_cons_succ, List.set_cons_zero]
                refine held_take 13 (v := undef) rfl (by kernel_rfl) (by kernel_rfl) (by kernel_rfl) (fun _ _ _ h => h) (.inr ⟨rfl, rfl⟩) hS0 ?_
                simp only [Act.put, List.setIfInBounds_toArray, List.set_cons_succ, List.set_cons_zero]
                refine held_take 14 (v := undef) rfl (by kernel_rfl) (by kernel_rfl) (by kernel_rfl) (fun _ _ _ h => h) (.inr ⟨rfl, rfl⟩) hS0 ?_
                simp only [Act.put, List.setIfInBounds_toArray, List.set_cons_succ, List.set_cons_zero]
                refine held_take 15 (v := undef) rfl (by kernel_rfl) (by kernel_rfl) (by kernel_rfl) (fun _ _ _ h => h) (.inr ⟨rfl, rfl⟩) hS0 ?_
                simp only [Act.put, List.setIfInBounds_toArray, List.set_cons_succ, List.set_cons_zero]
                refine held_take 16 (v := ?tv21) rfl (by kernel_rfl) (by kernel_rfl) (by kernel_rfl) (fun _ _ _ h => h) (.inl ⟨rfl, ?ty21⟩) hS0 ?tr21
                case ty21 => (intro _ _; go_simp; try with_reducible rfl)
                case tr21 =>
                simp only [Act.put, List.setIfInBounds_toArray, List.set_cons_succ, List.set_cons_zero]
                refine held_take 17 (v := ?tv22) rfl (by kernel_rfl) (by kernel_rfl) (by kernel_rfl) (fun _ _ _ h => h) (.inl ⟨rfl, ?ty22⟩) hS0 ?tr22
                case ty22 => (intro _ _; go_simp; try with_reducible rfl)
                case tr22 =>
                simp only [Act.put, List.setIfInBounds_toArray, List.set_cons_succ, List.set_cons_zero]
                refine wpAnyH_done (by kernel_rfl) ?_ _
                have E3 := hid (E2.out.ext ((HCC.out _).1 hS0).base)
                clear hS0 hCx hCA HCC
                go_wp2
                go_roundw
                case rel => exact ⟨1, by omega, by go_num, E3⟩
                case measure => simp [intOf]; omega
              | succ j =>
                obtain ⟨t, htj⟩ : ∃ t, os[j]? = some t := ⟨os[j]'(by rw [HM.out]; omega), by simp⟩
                have ht0 := HO32.out.at htj
                have hct : CellsAt wK (A.add (j * 32)) (t.map u8v) := HC3K.out.rowAt HO32.out htj
                have HCT := hid (hct.ext E2.out)
                have hlt0 := sorted_at SRT.out htj HSJ.out
                have hbc := hid (fun w2 h1 h2 => bcompare_c t s (A.add (j * 32)) ⟨gr, 0, none⟩ 32 32 32 32 w2 ht0 HS0.out h1 h2)
                generalize cmpB t s = D2 at *
                have hge : decide ((0 : Int) ≤ D2) = false := decide_eq_false (by omega)
                have hd0 : decide ((0 : Int) < ((j + 1 : Nat) : Int)) = true := decide_eq_true (by omega)
                have hd1 : decide ((0 : Int) < (j : Int) + 1) = true := decide_eq_true (by omega)
                have hwj : IntKind.i64.wrap (((j + 1 : Nat) : Int) - 1) = (j : Int) := by rw [IntWalk.i64_in _ (by omega)]; omega
                have hwj2 : IntKind.i64.wrap (j : Int) = (j : Int) := IntWalk.i64_in _ (by omega)
                have hjM : j < M := by omega
                clear hct ht0 htj hlt0
                refine wp_region_held_drew (S := C) (by kernel_rfl) (hCx _ _ hCA (Ext.refl _).drew) (fun hS0 => ?_)
                refine held_take 0 (v := ?tv23) rfl (by kernel_rfl) (by kernel_rfl) (by kernel_rfl) (fun _ _ _ h => h) (.inl ⟨rfl, ?ty23⟩) hS0 ?tr23
                case ty23 => (intro _ _; go_simp; try with_reducible rfl)
                case tr23 =>
                simp only [Act.put, List.setIfInBounds_toArray, List.set_cons_succ, List.set_cons_zero]
                refine held_take 1 (v := _) rfl (by kernel_rfl) (by kernel_rfl) (by kernel_rfl) (fun _ _ _ h => h) (yieldsI_loadw rfl 32 _ rfl rfl (fun w2 h => B1.out.ext ((HCC.out w2).1 h).base) agg_apisum HSV.out) hS0 ?_
                simp only [Act.put, List.setIfInBounds_toArray, List.set_cons_succ, List.set_cons_zero]
                refine held_take 2 (v := _) rfl (by kernel_rfl) (by kernel_rfl) (by kernel_rfl) (fun _ _ _ h => h) (yieldsI_run rfl (fun w2 h => exec_hasSum Try.underlying30 rfl rfl rfl (S1.out.ext ((HCC.out w2).1 h).base) HS0.out HIN.out)) hS0 ?_
                simp only [Act.put, List.setIfInBounds_toArray, List.set_cons_succ, List.set_cons_zero]
                refine held_take 3 (v := ?tv24) rfl (by kernel_rfl) (by kernel_rfl) (by kernel_rfl) (fun _ _ _ h => h) (.inl ⟨rfl, ?ty24⟩) hS0 ?tr24
                case ty24 => (intro _ _; go_simp; try with_reducible rfl)
                case tr24 =>
                simp only [Act.put, List.setIfInBounds_toArray, List.set_cons_succ, List.set_cons_zero]
                refine held_take 4 (v := ?tv25) rfl (by kernel_rfl) (by kernel_rfl) (by kernel_rfl) (fun _ _ _ h => h) (.inl ⟨rfl, ?ty25⟩) hS0 ?tr25
                case ty25 => (intro _ _; go_simp; try with_reducible rfl)
                case tr25 =>
                simp only [Act.put, List.setIfInBounds_toArray, List.set_cons_succ, List.set_cons_zero]
                refine held_take 5 (v := ?tv26) rfl (by kernel_rfl) (by kernel_rfl) (by kernel_rfl) (fun _ _ _ h => h) (.inl ⟨rfl, ?ty26⟩) hS0 ?tr26
                case ty26 => (intro _ _; go_simp; try with_reducible rfl)
                case tr26 =>
                simp only [Act.put, List.setIfInBounds_toArray, List.set_cons_succ, List.set_cons_zero]
                refine held_take 6 (v := ?tv27) rfl (by kernel_rfl) (by kernel_rfl) (by kernel_rfl) (fun _ _ _ h => h) (.inl ⟨rfl, ?ty27⟩) hS0 ?tr27
                case ty27 => (intro _ _; go_simp; try with_reducible rfl)
                case tr27 =>
                simp only [Act.put, List.setIfInBounds_toArray, List.set_cons_succ, List.set_cons_zero]
                refine held_take 7 (v := ?tv28) rfl (by kernel_rfl) (by kernel_rfl) (by kernel_rfl) (fun _ _ _ h => h) (.inl ⟨rfl, ?ty28⟩) hS0 ?tr28
                case ty28 => (intro _ _; go_simp; try with_reducible rfl)
                case tr28 =>
                simp only [Act.put, List.setIfInBounds_toArray, List.set_cons_succ, List.set_cons_zero]
                refine held_take 8 (v := ?tv29) rfl (by kernel_rfl) (by kernel_rfl) (by kernel_rfl) (fun _ _ _ h => h) (.inl ⟨rfl, ?ty29⟩) hS0 ?tr29
                case ty29 => (intro _ _; go_simp; try with_reducible rfl)
                case tr29 =>
                simp only [Act.put, List.setIfInBounds_toArray, List.set_cons_succ, List.set_cons_zero]
                refine held_take 9 (v := ?tv30) rfl (by kernel_rfl) (by kernel_rfl) (by kernel_rfl) (fun _ _ _ h => h) (.inl ⟨rfl, ?ty30⟩) hS0 ?tr30
                case ty30 => (intro _ _; go_simp; try with_reducible rfl)
                case tr30 =>
                simp only [Act.put, List.setIfInBounds_toArray, List.set_cons_succ, List.set_cons_zero]
                refine held_take 10 (v := ?tv31) rfl (by kernel_rfl) (by kernel_rfl) (by kernel_rfl) (fun _ _ _ h => h) (.inl ⟨rfl, ?ty31⟩) hS0 ?tr31
                case ty31 => (intro _ _; go_simp; try with_reducible rfl)
                case tr31 =>
                simp only [Act.put, List.setIfInBounds_toArray, List.set_cons_succ, List.set_cons_zero]
                refine held_take 11 (v := _) rfl (by kernel_rfl) (by kernel_rfl) (by kernel_rfl) (fun _ _ _ h => h) (yieldsI_run rfl (fun w1 _ => exec_index (i := j) rfl rfl rfl Try.underlying29 size_apisum hjM w1)) hS0 ?_
                simp only [Act.put, List.setIfInBounds_toArray, List.set_cons_succ, List.set_cons_zero]
                refine held_take 12 (v := ?tv32) rfl (by kernel_rfl) (by kernel_rfl) (by kernel_rfl) (fun _ _ _ h => h) (.inl ⟨rfl, ?ty32⟩) hS0 ?tr32
                case ty32 => (intro _ _; go_simp; try with_reducible rfl)
                case tr32 =>
                simp only [Act.put, List.setIfInBounds_toArray, List.set_cons_succ, List.set_cons_zero]
                refine held_take 13 (v := ?tv33) rfl (by kernel_rfl) (by kernel_rfl) (by kernel_rfl) (fun _ _ _ h => h) (.inl ⟨rfl, ?ty33⟩) hS0 ?tr33
                case ty33 => (intro _ _; go_simp; try with_reducible rfl)
                case tr33 =>
                simp only [Act.put, List.setIfInBounds_toArray, List.set_cons_succ, List.set_cons_zero]
                generalize w1.drew = wE2 at *
                refine held_one (i := 14) (by kernel_rfl) rfl ?_
                intro Q' hQ
                go_wp2_with fail
                refine (hbc.out wE2 (HCT.out.ext ((HCC.out _).1 hS0).base) (cellsAt_blk (B1.out.ext ((HCC.out _).1 hS0).base))).mono ?_
                rintro e w5 ⟨rfl, rfl⟩
                go_wp2_with fail
                refine hQ _ _ hS0 ?_
                clear hQ Q'
                try dsimp only
                try simp only [Act.put, List.setIfInBounds_toArray, List.set_cons_succ, List.set_cons_zero]
                refine held_take 15 (v := ?tv34) rfl (by kernel_rfl) (by kernel_rfl) (by kernel_rfl) (fun _ _ _ h => h) (.inl ⟨rfl, ?ty34⟩) hS0 ?tr34
                case ty34 => (intro _ _; go_simp; try with_reducible rfl)
                case tr34 =>
                simp only [Act.put, List.setIfInBounds_toArray, List.set_cons_succ, List.set_cons_zero]
                refine held_take 16 (v := ?tv35) rfl (by kernel_rfl) (by kernel_rfl) (by kernel_rfl) (fun _ _ _ h => h) (.inl ⟨rfl, ?ty35⟩) hS0 ?tr35
                case ty35 => (intro _ _; go_simp; try with_reducible rfl)
                case tr35 =>
                simp only [Act.put, List.setIfInBounds_toArray, List.set_cons_succ, List.set_cons_zero]
                refine held_take 17 (v := ?tv36) rfl (by kernel_rfl) (by kernel_rfl) (by kernel_rfl) (fun _ _ _ h => h) (.inl ⟨rfl, ?ty36⟩) hS0 ?tr36
                case ty36 => (intro _ _; go_simp; try with_reducible rfl)
                case tr36 =>
                simp only [Act.put, List.setIfInBounds_toArray, List.set_cons_succ, List.set_cons_zero]
                refine wpAnyH_done (by kernel_rfl) ?_ _
                have E3 := hid (E2.out.ext ((HCC.out _).1 hS0).base)
                clear hS0 hCx hCA HCC
                go_wp2
                go_roundw
                case rel => exact ⟨j + 2, by omega, by go_num, E3⟩
                case measure => simp [intOf]; omega
            · obtain rfl : j = M := by omega
              clear hj hjt
              have XR := hid ((XG.out.ext EK.out).ext ER.out)
              have ER2 := hid (EG.out.ext (EK.out.ext ER.out))
              clear XG EG EK ER SK HC3K hosd HO32 HM SRT HGM HLN H32 HCL
              have hhx := hid (fun w' h => hexn_c x (some ⟨w.heap.size, 0, none⟩) 32 32 w' HX.out (by omega) h)
              have hrx := hid (fun w' h => rhex_c x (some ⟨w.heap.size, 0, none⟩) 32 32 w' HX.out (by omega) h)
              have hpx := hid (fun w' => parseBack_c x 32 w' HX.out (by omega))
              generalize strOf (hexL x) = T at *
              have hpt := hid (fun w' => parseHex_c text many w' HTS.out HMANY.out)
              go_wp2_with fail
              refine (hhx.out wr (XR.out.cells)).mono ?_
              rintro e w1 ⟨rfl, e1⟩
              have X1 := hid (XR.out.ext e1)
              have E1 := hid (ER2.out.ext e1)
              clear e1 XR ER2 hhx
              go_wp2_with fail
              refine (hpx.out w1).mono ?_
              rintro e w2 ⟨p, d, rfl, hc2, e2⟩
              have X2 := hid (X1.out.ext e2)
              have E2 := hid (E1.out.ext e2)
              have HC2 := hid hc2
              clear e2 X1 E1 hpx hc2
              go_wp2_with fail
              refine (hrx.out w2 (X2.out.cells)).mono ?_
              rintro e w3 ⟨rfl, e3⟩
              have X3 := hid (X2.out.ext e3)
              have E3 := hid (E2.out.ext e3)
              have HC3 := hid (HC2.out.ext e3)
              clear e3 X2 E2 hrx HC2
              have heq := equal_c x x p (some ⟨w.heap.size, 0, none⟩) 32 32 d 32 w3 HX.out.symm HX.out.symm HC3.out X3.out.cells
              have hxx : (x == x) = true := by simp
              rw [hxx] at heq
              go_wp2_with fail
              refine heq.mono ?_
              rintro e w4 ⟨rfl, rfl⟩
              clear heq hxx
              go_wp2_with fail
              refine (hpt.out w3).mono ?_
              rintro e w5 ⟨v, rfl, e5, hv⟩
              have E5 := hid (E3.out.ext e5)
              clear e5 E3 hpt HC3 X3
              clear hxl hn
              by_cases hr : many < 0 ∨ 1048576 < many
              · have hE4 : hexE text.data.toList many = 4 := by unfold hexE; rw [if_pos hr]
                rw [hE4, if_neg (by decide)] at hv
                subst hv
                rw [hE4]
                by_cases hr1 : many < 0
                · have k1 : decide (many < 0) = true := decide_eq_true hr1
                  clear hr
                  go_wp2
                  go_ret
                  exact ⟨rfl, E5.out⟩
                · have k1 : decide (many < 0) = false := decide_eq_false hr1
                  have k2 : decide (1048576 < many) = true := decide_eq_true (by omega)
                  clear hr
                  go_wp2
                  go_ret
                  exact ⟨rfl, E5.out⟩
              · obtain ⟨N, rfl⟩ : ∃ N : Nat, many = (N : Int) := ⟨many.toNat, by omega⟩
                have k1 : decide ((N : Int) < 0) = false := decide_eq_false (by omega)
                have k2 : decide ((1048576 : Int) < (N : Int)) = false := decide_eq_false (by omega)
                have hN : N ≤ 1048576 := by omega
                have hsz : text.data.toList.length = text.size := by simp
                by_cases hg : (text.data.toList.length : Int) = 2 * (N : Int) ∧ text.data.toList.all isHexD = true
                · have hE0 : hexE text.data.toList (N : Int) = 0 := by unfold hexE; rw [if_neg hr, if_pos hg]
                  rw [hE0, if_pos rfl, Int.toNat_natCast] at hv
                  rw [hE0]
                  obtain ⟨q, d2, rfl, _, _, _, hcq⟩ := own_slice hv
                  have hb := hexL_unhex N text.data.toList (by omega) hg.2
                  have hrt := rhex_c (unhex text.data.toList) q N d2 w5 hb.2 (by omega) hcq
                  rw [hb.1, strOf_back] at hrt
                  have HRT := hid hrt
                  have hqq : ((N : Int) == (N : Int)) = true := by simp
                  clear hr hg hsz hE0 hv hcq hb hrt
                  go_wp2_with fail
                  refine HRT.out.mono ?_
                  rintro e w6 ⟨rfl, e6⟩
                  have E6 := hid (E5.out.ext e6)
                  clear e6 E5
                  go_wp2_with fail
                  go_ret
                  exact ⟨rfl, E6.out⟩
                · have hE11 : hexE text.data.toList (N : Int) = 11 := by unfold hexE; rw [if_neg hr, if_neg hg]
                  rw [hE11, if_neg (by decide)] at hv
                  subst hv
                  rw [hE11]
                  have hih := isHex_c text N w5 (by have := HTS.out; omega) hN
                  have hif : (decide (text.size = 2 * N) && text.data.toList.all isHexD) = false := by
                    rw [Bool.eq_false_iff]
                    intro h
                    rw [Bool.and_eq_true, decide_eq_true_eq] at h
                    exact hg ⟨by omega, h.2⟩
                  rw [hif] at hih
                  have HIH := hid hih
                  clear hr hg hsz hE11 hih hif
                  go_wp2_with fail
                  refine HIH.out.mono ?_
                  rintro e w6 ⟨rfl, rfl⟩
                  go_wp2_with fail
                  go_ret
                  exact ⟨rfl, E5.out⟩
end

section
open Go Go.RowKit Go.ChangeShapes Go.WideShapes Go.ChangeAt Go.Deep

theorem cells?_at {w : World} {base : Nat} {p : Addr} {k : Nat} {cs : List Value} (h : w.cells? base p k = some cs) : cs.length = k ∧ CellsAt w p cs := by
  unfold World.cells? at h
  split at h
  · refine ⟨by simpa using mapM_some_length h, fun j u hu => ?_⟩
    have hj : j < k := by
      have h1 := (List.getElem?_eq_some_iff.1 hu).1
      have h2 := mapM_some_length h
      simp at h2; omega
    have := mapM_some_get h j j (by simp [hj])
    rw [hu] at this
    exact this
  · cases h

section
variable {H : Type} {enc : TypeId × Value → H} {P : Program} {w : World}
theorem octets_of_trod {base : Nat} {sp : Nat → Bool} {held : Bool} {t e : TypeId} {n f : Nat} {cs : List Value} {x : DataW H × List MemPlace} (ht : P.underlying t = some (.array n e)) (he : P.underlying e = some (.int .u8)) (hce : P.cellsOf e = 1) (hct : P.cellsOf t = n)
    (hf : DataW.trod enc P w base sp held f t cs = some x) : ∃ l : List UInt8, l.length = n ∧ cs = l.map u8v := by
  obtain ⟨xs, m, _, _, hlen, hxl, hel⟩ := DataW.trod_array ht hf
  have hcl : cs.length = n := by rw [hlen, hct]
  obtain ⟨l, hl⟩ := u8s_of cs fun i u hu => by
    have hi : i < n := by
      have := (List.getElem?_eq_some_iff.1 hu).1
      omega
    have h1 := hel i hi
    rw [hce, Nat.mul_one] at h1
    have hx : xs[i]? = some xs[i] := by simp
    have h2 : (cs.drop i).take 1 = [u] := by
      have h3 := List.getElem?_drop (xs := cs) (i := i) (j := 0)
      rw [Nat.add_zero, hu] at h3
      cases hd : cs.drop i with
      | nil => rw [hd] at h3; simp at h3
      | cons y r => rw [hd] at h3; simp at h3; simp [h3]
    have h4 : DataW.trod enc P w base sp held m e [u] = some xs[i] := by
      rw [← h2, ← hx]; exact h1
    obtain ⟨k, hk, _, hw⟩ := DataW.trod_int he h4
    have hu' : u = .int .u8 k := by simpa using hk
    rw [hu']; exact u8_of hw
  refine ⟨l, ?_, hl⟩
  have := congrArg List.length hl
  rw [hcl, List.length_map] at this; exact this.symm

/-- a slice of rows, its cell read -/
theorem sums_of_trod {base f : Nat} {held : Bool} {t e q : TypeId} {cs : List Value} {x : DataW H × List MemPlace} (ht : P.underlying t = some (.slice e)) (he : P.underlying e = some (.array 32 q)) (hq : P.underlying q = some (.int .u8)) (cq : P.cellsOf q = 1) (ce : P.cellsOf e = 32)
    (hf : DataW.trod enc P w base (fun _ => true) held f t cs = some x) :
    ∃ (a : Option Addr) (n c : Nat) (ls : List (List UInt8)) (es sp : List (DataW H)), cs = [.slice a n c] ∧ ls.length = n ∧ All32 ls ∧ n ≤ c ∧ c ≤ maxLen ∧ (a = none → c = 0) ∧ Cells w a (rows ls) ∧ ((x.1 = .nil ∧ c = 0) ∨ (x.1 = .slice es sp ∧ es.length + sp.length = c)) := by
  rcases DataW.trod_slice ht hf with ⟨h0, h1⟩ | ⟨a, len, cap, elems, rest, n, _, rfl, rfl, hb, hl, hm, hlen, hel, hsp, hns⟩
  · exact ⟨none, 0, 0, [], [], [], h0, rfl, All32.nil, Nat.le_refl _, Nat.zero_le _, fun _ => rfl, .inl rfl, .inl ⟨by rw [h1], rfl⟩⟩
  · have each : ∀ i, i < len → ∃ l : List UInt8, l.length = 32 ∧ CellsAt w (a.add (i * 32)) (l.map u8v) := by
      intro i hi
      have h1 := hel i hi
      have hx : elems[i]? = some (elems[i]'(by omega)) := by simp
      rw [ce, hx, Option.bind_eq_some_iff] at h1
      obtain ⟨cs', hcs, hy⟩ := h1
      obtain ⟨l, hl1, rfl⟩ := octets_of_trod he hq cq ce hy
      exact ⟨l, hl1, (cells?_at hcs).2⟩
    obtain ⟨g, hg⟩ := choose_lt each
    have h32 : All32 ((List.range len).map g) := fun l hl => by
      obtain ⟨i, hi, rfl⟩ := List.mem_map.1 hl
      exact (hg i (List.mem_range.1 hi)).1
    obtain ⟨hrl, _⟩ := hsp rfl
    refine ⟨some a, len, cap, (List.range len).map g, _, _, rfl, by simp, h32, hl, hm, (fun h => by cases h), ?_, .inr ⟨rfl, by simp; omega⟩⟩
    by_cases h0 : len = 0
    · left; subst h0; rfl
    · obtain ⟨hl0, hc0⟩ := hg 0 (by omega)
      obtain ⟨b, off, spot⟩ := a
      have hspot : spot = none := by
        have := hc0 0 (u8v ((g 0)[0]'(by omega))) (by simp [hl0])
        simpa [Addr.add] using World.cell?_spot this
      subst hspot
      refine .inr ⟨b, off, rfl, fun i u hu => ?_⟩
      have hi : i < 32 * len := by
        have := (List.getElem?_eq_some_iff.1 hu).1
        rw [rows_length h32] at this; simpa using this
      obtain ⟨_, hcr⟩ := hg (i / 32) (by omega)
      have hrow : ((List.range len).map g)[i / 32]? = some (g (i / 32)) := by
        rw [List.getElem?_map, List.getElem?_range (by omega)]; rfl
      have h2 := rows_at h32 hrow
      have h3 : ((g (i / 32)).map u8v)[i % 32]? = some u := by
        rw [← h2, List.getElem?_take_of_lt (Nat.mod_lt _ (by omega)), List.getElem?_drop, Nat.div_add_mod]; exact hu
      have h4 := hcr _ _ h3
      rw [addr_add, addr_add] at h4
      rw [show off + i / 32 * 32 + i % 32 = off + i by omega] at h4
      exact h4

/-- a struct of two ints and a slice of rows -/
theorem open_proof {r : Reach} {b0 base : Nat} {held : Bool} {t e q : TypeId} {f0 f1 f2 : Field} {v : Value} {d : DataW H} {ps : List MemPlace} (ht : P.underlying t = some (.struct #[f0, f1, f2])) (h0 : P.underlying f0.type = some (.int .i64)) (h1 : P.underlying f1.type = some (.int .i64))
    (h2 : P.underlying f2.type = some (.slice e)) (he : P.underlying e = some (.array 32 q)) (hq : P.underlying q = some (.int .u8)) (cq : P.cellsOf q = 1) (ce : P.cellsOf e = 32) (c0 : P.cellsOf f0.type = 1) (c1 : P.cellsOf f1.type = 1) (c2 : P.cellsOf f2.type = 1) (ct : P.cellsOf t = 3)
    (o0 : f0.offset = 0) (o1 : f1.offset = 1) (o2 : f2.offset = 2)
    (hval : Value.okWide P w r b0 t v) (hd : DataW.Trod enc P w base (fun _ => true) held t v d ps) :
    ∃ (I Z : Int) (a : Option Addr) (n c : Nat) (ls : List (List UInt8)), v = .agg #[.int .i64 I, .int .i64 Z, .slice a n c] ∧ ls.length = n ∧ All32 ls ∧ n ≤ c ∧ c ≤ maxLen ∧ (a = none → c = 0) ∧ Cells w a (rows ls) ∧
      ∃ (D : DataW H) (es sp : List (DataW H)), d = .agg [.lit (.int .i64 I), .lit (.int .i64 Z), D] ∧ ((D = .nil ∧ c = 0) ∨ (D = .slice es sp ∧ es.length + sp.length = c)) ∧ (Lit.int .i64 I).wf = true ∧ (Lit.int .i64 Z).wf = true := by
  obtain ⟨cs, rfl, hs⟩ := okWide_struct ht hval
  obtain ⟨fuel, hf⟩ := hd
  obtain ⟨y0, y1, y2, m, hx, hl, g0, g1, g2⟩ := trod_struct3 ht hf
  rw [c0, o0] at g0
  rw [c1, o1] at g1
  rw [c2, o2] at g2
  obtain ⟨I, hI, hI2, wI⟩ := DataW.trod_int h0 g0
  obtain ⟨Z, hZ, hZ2, wZ⟩ := DataW.trod_int h1 g1
  obtain ⟨a, n, c, ls, es, sp, hsl, hln, h32, hnc, hcm, hnil, hcl, hdd⟩ := sums_of_trod h2 he hq cq ce g2
  have hcs : cs = #[.int .i64 I, .int .i64 Z, .slice a n c] := by
    have hsz : cs.size = 3 := by rw [hs, ct]
    obtain ⟨l⟩ := cs
    match l, hsz with
    | [p0, p1, p2], _ =>
      simp [Value.cells] at hI hZ hsl
      rw [hI, hZ, hsl]
  refine ⟨I, Z, a, n, c, ls, by rw [hcs], hln, h32, hnc, hcm, hnil, hcl, y2.1, es, sp, ?_, hdd, wI, wZ⟩
  simp only [Prod.mk.injEq] at hx
  rw [hx.1, hI2, hZ2]
end
end

section
open Go Go.RowKit Go.ChangeShapes Go.WideShapes Go.ChangeAt Go.Deep

section
variable {H : Type} {enc : TypeId × Value → H} {P : Program} {w : World}
theorem open_sums {r : Reach} {b0 base : Nat} {held : Bool} {t e q : TypeId} {v : Value} {d : DataW H} {ps : List MemPlace} (ht : P.underlying t = some (.slice e)) (he : P.underlying e = some (.array 32 q)) (hq : P.underlying q = some (.int .u8)) (cq : P.cellsOf q = 1) (ce : P.cellsOf e = 32)
    (hval : Value.okWide P w r b0 t v) (hd : DataW.Trod enc P w base (fun _ => true) held t v d ps) :
    ∃ (a : Option Addr) (n c : Nat) (ls : List (List UInt8)) (es sp : List (DataW H)), v = .slice a n c ∧ ls.length = n ∧ All32 ls ∧ n ≤ c ∧ c ≤ maxLen ∧ (a = none → c = 0) ∧ Cells w a (rows ls) ∧ ((d = .nil ∧ c = 0) ∨ (d = .slice es sp ∧ es.length + sp.length = c)) := by
  obtain ⟨a, n, c, rfl⟩ := okWide_slice ht hval
  obtain ⟨fuel, hf⟩ := hd
  obtain ⟨a2, n2, c2, ls, es, sp, hcs, hl, h32, hnc, hcm, hnil, hcl, hdd⟩ := sums_of_trod ht he hq cq ce hf
  simp [Value.cells] at hcs
  obtain ⟨rfl, rfl, rfl⟩ := hcs
  exact ⟨a, n, c, ls, es, sp, rfl, hl, h32, hnc, hcm, hnil, hcl, hdd⟩
end
end
end Go.Proofs.Ytkcjdginoccgjaa
