/- Contracts and laws that the claim's row leans on (3 texts, joined): MapsMatch is true; conditions: the slice of steps lies in memory. Readings of slices of rows of 32 octets, and of a struct of two ints and such a slice, are opened; no condition. A reading of a slice of steps (three ints each) is opened; no condition. -/
import Derived.Test.YtkcjdginoccgjaaJ5
import Derived.Deep.Strs
namespace Go.Proofs.Ytkcjdginoccgjaa
section
open Go Go.RowKit Go.Maps Go.MapKept

set_option maxRecDepth 100000 in
set_option maxHeartbeats 4000000 in
theorem mapsMatch_c (ls : List StepR) (a : Option Addr) (n c : Nat) (w : World) (hl : ls.length = n) (hnc : n ≤ c) (hcl : Cells w a (stepsV ls)) :
    Calls Try.prog 4 #[.slice a n c] w fun e w' => e = .returned (.bool true) ∧ Ext w w' := by
  have HC := hid hcl
  have hmp := hid (fun w' h => mapped_c ls a n c w' hl hnc h)
  have hnz0 : ∀ p ∈ foldM (ls.take 40), p.2 ≠ zero32 := foldM_nz _ _ (by simp)
  generalize foldM (ls.take 40) = hs at *
  clear hl hcl
  go_enter Try.func4, Try.ntmps4
  go_wp2_with fail
  refine (landed_c w).mono ?_
  rintro e w1 ⟨rfl, e1⟩
  have E1 := hid e1
  have s1 := e1.size
  clear e1
  go_wp2_with fail
  refine (hmp.out w1 (HC.out.ext E1.out)).mono ?_
  rintro e w2 ⟨p, g, B, v, rfl, hg0, hp0, hgB, hpB, hB0, hm, own, h40, e2⟩
  obtain ⟨ha, hcp, rfl, hnc2, hcm2, hnil2, hcl2⟩ := own_sliceT (by decide) own
  have hE := hm.ents
  have M2 := hid hm
  have O2 := hid own
  have C2 := hid hcl2
  have E2 := hid (E1.out.ext e2)
  have HE := hid hE
  have s2 := e2.size
  have HNZ := hid hnz0
  have hRL := mapRootL_length 256 0 (entsL hs)
  have hrt := hid (fun w' (h : TMap w' p g hs) => root_c p g hs w' h (by omega))
  have hrr := hid (fun w' h => mapRoot_c 256 0 (entsL hs) ha hs.length hcp w' (entsL_len hs) (by omega) (entsL_64 hE) (by omega) (ents_part hE) h)
  have hrp := hid (fun (hs' : List Ent) (h : hs'.Perm hs) => ents_perm hE h.symm)
  obtain ⟨R, hR⟩ : ∃ R, mapRootL 256 0 (entsL hs) = R := ⟨_, rfl⟩
  rw [hR] at hrt hrr hrp hRL
  have HRL := hid hRL
  have HNE := hid (fun w => neq_arr Try.underlying32 R R hRL hRL w)
  have HEQ := hid (fun w => eq_arr Try.underlying32 R R hRL hRL w)
  rw [show (R == R) = true from by simp] at HNE HEQ
  clear hm own hcl2 e2 E1 hmp hnz0 hE hR hRL HC
  go_wp2_with fail
  refine (hrt.out w2 M2.out).mono ?_
  rintro e w3 ⟨rfl, e3⟩
  have M3 := hid (M2.out.ext e3)
  have O3 := hid (ownsRow_ext O2.out e3)
  have E3 := hid (E2.out.ext e3)
  have C3 := hid (C2.out.ext e3)
  have s3 := e3.size
  clear e3 M2 O2 E2 C2
  go_wp2_with fail
  refine (hrr.out w3 C3.out).mono ?_
  rintro e w4 ⟨rfl, e4⟩
  have M4 := hid (M3.out.ext e4)
  have O4 := hid (ownsRow_ext O3.out e4)
  have E4 := hid (E3.out.ext e4)
  have s4 := e4.size
  clear e4 M3 O3 E3 C3 hrr
  go_wp2_with (first | (refine wpg_cmp rfl .neq _ _ _ _ rfl rfl rfl guard_sum HNE.out ?_))
  refine (newMap_c w4).mono ?_
  rintro e w5 ⟨rfl, hm5, e5⟩
  have N5 := hid hm5
  have M5 := hid (M4.out.ext e5)
  have O5 := hid (ownsRow_ext O4.out e5)
  have E5 := hid (E4.out.ext e5)
  have hob := hid (fun q hq => And.intro (own_block_ge O4.out q hq) (own_block_lt' O4.out q hq))
  have hpl : p < w4.heap.size := M4.out.blk.lt
  have hgl : g < w4.heap.size := M4.out.map.lt
  have s5 : w4.heap.size + 1 < w5.heap.size := hm5.blk.lt
  clear hm5 e5 M4 O4 E4 HNE
  obtain ⟨p2, hp2⟩ : ∃ p2, w4.heap.size + 1 = p2 := ⟨_, rfl⟩
  obtain ⟨g2, hg2⟩ : ∃ g2, w4.heap.size = g2 := ⟨_, rfl⟩
  have HP2 := hid hp2
  rw [hp2] at N5 s5 ⊢
  rw [hg2] at N5 hpl hgl hob
  have HG2 := hid hg2
  clear hp2 hg2
  go_wp2_with fail
  refine (reverseO_c (entsL hs) B hs.length hcp ha w5 (entsL_64 HE.out) (entsL_len hs) (by omega) O5.out).mono ?_
  rintro e w6 ⟨rfl, es2, hpm, own6, g6⟩
  have hq5 := hid (fun q hq => own_block_ge O5.out q hq)
  have M6 := hid (M5.out.grown g6 (fun he => by have := hq5.out p he.symm; omega) (fun he => by have := hq5.out g he.symm; omega))
  have N6 := hid (N5.out.grown g6 (fun he => by have := (hob.out p2 he.symm).2; have := HP2.out; have := HG2.out; omega) (fun he => by have := (hob.out g2 he.symm).2; omega))
  have E6 := hid (E5.out.grown g6 (fun q hq => by have := hq5.out q hq; omega))
  have O6 := hid own6
  have s6 := g6.size
  obtain ⟨hs2, hs2d⟩ : ∃ hs2, es2.map splitE = hs2 := ⟨_, rfl⟩
  have hes2 : es2 = entsL hs2 := by rw [← hs2d, ents_back]
  have hpm2 : hs2.Perm hs := by rw [← hs2d, ← split_ents HE.out]; exact hpm.map _
  subst hes2
  have HPM := hid hpm2
  have HE2 := hid (HE.out.perm hpm2)
  have hob3 := hob
  have hl2 : hs2.length = hs.length := hpm2.length_eq
  clear g6 own6 M5 N5 O5 E5 hpm hs2d hpm2
  go_wp2_with fail
  obtain ⟨NN, hNN⟩ : ∃ NN, hs.length = NN := ⟨_, rfl⟩
  rw [hNN] at O6 hl2 h40 hq5 hob3 ⊢
  have HL2 := hid hl2
  have HNN := hid hNN
  obtain ⟨B2, hB2⟩ : ∃ B2, w6.heap.size = B2 := ⟨_, rfl⟩
  have hob2 := hid (fun q hq => And.intro (hq5.out q hq) (own_block_lt' O6.out q hq))
  have hp2B : p2 < B2 := by rw [← hB2]; exact N6.out.blk.lt
  have hg2B : g2 < B2 := by rw [← hB2]; exact N6.out.map.lt
  rw [hB2] at hob2
  have HB2 := hid hB2
  have hpB2 : p < B2 := by omega
  have hgB2 : g < B2 := by omega
  have hgw : w.heap.size ≤ g2 := by have := HG2.out; omega
  have hwB2 : w.heap.size ≤ B2 := by omega
  have hgp2 : g ≠ g2 ∧ p ≠ g2 := ⟨by omega, by omega⟩
  have hpo : p2 ≠ g2 := N6.out.ne
  have hobg : Hid (∀ q, (Value.slice ha NN hcp).ownBlock = some q → q ≠ g2 ∧ B ≤ q ∧ q < B2) := hid (fun q hq => ⟨by have := (hob3.out q hq).2; omega, hob2.out q hq⟩)
  clear hB2 hNN hl2 hq5 hob2 hob3 s1 s2 s3 s4 s5 s6 hpl hgl
  go_loopw [32, 7] (fun i v wr => ∃ j : Nat, j ≤ NN ∧ i = .int .i64 (j : Int) ∧ TMap wr p2 g2 (hs2.take j) ∧ wr.ownsRow B2 32 32 v j (rows ((hs2.take j).map Prod.fst)) ∧ TMap wr p g hs ∧ wr.ownsRow B 51 64 (.slice ha NN hcp) NN (rows (entsL hs2)) ∧ Ext w wr ∧ B2 ≤ wr.heap.size) (fun i _ _ => NN - (intOf i).toNat)
  case atStart => exact ⟨0, by omega, rfl, N6.out, ⟨by simp [rows], .inl ⟨rfl, rfl⟩⟩, M6.out, O6.out, E6.out, by rw [HB2.out]; exact Nat.le_refl _⟩
  case round =>
    obtain ⟨j, hj, rfl, hn', hk', hm', ho', he', hb'⟩ := hrel
    have NR := hid hn'
    have KR := hid hk'
    have MR := hid hm'
    have OR := hid ho'
    have ER := hid he'
    clear hn' hk' hm' ho' he' N6 M6 O6 E6
    by_cases hlt : j < NN
    · obtain ⟨q, rfl⟩ := own_addr OR.out (by omega)
      obtain ⟨rest, hbk, _, _, _, _, _⟩ := own_block OR.out
      obtain ⟨⟨kk, vv⟩, hx⟩ : ∃ x, hs2[j]? = some x := ⟨hs2[j]'(by rw [HL2.out]; exact hlt), by simp⟩
      have hmem := List.mem_of_getElem? hx
      have hk32 := HE2.out.k32 _ hmem
      have hv32 := HE2.out.v32 _ hmem
      have hvz : (vv == zero32) = false := by
        have := HNZ.out (kk, vv) (HPM.out.mem_iff.1 hmem)
        simpa using this
      have hrow : (entsL hs2)[j]? = some (kk ++ vv) := by unfold entsL; rw [List.getElem?_map, hx]; rfl
      have h64 := entsL_64 HE2.out
      have hca := blk_ent hbk h64 hrow
      have hset := hid (setK_next HE2.out hx)
      have hkeys : (hs2.take (j + 1)).map Prod.fst = (hs2.take j).map Prod.fst ++ [kk] := by rw [List.take_add_one, hx, List.map_append]; rfl
      have HKS := hid hkeys
      have hsc := hid (fun w' (h : TMap w' p2 g2 (hs2.take j)) => set_c p2 g2 (hs2.take j) kk vv w' h hk32 hv32 (by rw [List.length_take]; omega))
      rw [hvz] at hsc
      have HEN := hid (h64.at hrow)
      have HK0 := hid (show (((kk ++ vv).map u8v).drop 0).take 32 = kk.map u8v by rw [List.drop_zero, List.map_append, List.take_left' (by rw [List.length_map]; exact hk32)])
      have HV0 := hid (show (((kk ++ vv).map u8v).drop 32).take 32 = vv.map u8v by rw [List.map_append, List.drop_left' (by rw [List.length_map]; exact hk32), List.take_of_length_le (by rw [List.length_map]; exact Nat.le_of_eq hv32)])
      generalize kk ++ vv = en at *
      have HCA := hid hca
      have HEV := hid (show (en.map u8v).length = 64 by rw [List.length_map]; exact HEN.out)
      have HL32 := hid (show 0 + 32 ≤ (en.map u8v).length by rw [HEV.out]; omega)
      have HL64 := hid (show 32 + 32 ≤ (en.map u8v).length by rw [HEV.out]; exact Nat.le_refl _)
      have oen := one_u8 en
      have HKK := hid hk32
      clear hx hmem hk32 hv32 hvz hrow h64 hca hbk hkeys
      go_wp2_with (first | (refine wpl_run rfl (exec_index (i := j) rfl rfl rfl Try.underlying43 size_entry hlt _) ?_) | (refine wpl_run rfl (exec_load_at rfl rfl HCA.out agg_entry HEV.out) ?_) | (refine wpl_storew rfl _ (.tmp 9) _ rfl rfl rfl (Blk.mk_alloc (vs := List.replicate 64 (.int .u8 0)) rfl rfl) agg_entry (by simp) HEV.out oen ?_))
      intro w7 b7 u7
      have e7 : Ext wr w7 := u7.ext ((Ext.refl wr).alloc _) (Nat.le_refl _)
      have N7 := hid (NR.out.ext e7)
      have K7 := hid (ownsRow_ext KR.out e7)
      have M7 := hid (MR.out.ext e7)
      have O7 := hid (ownsRow_ext OR.out e7)
      have E7 := hid (ER.out.ext e7)
      have B7 := hid b7
      have hkl := hid (fun q hq => own_block_lt' KR.out q hq)
      have hbb7 : B2 ≤ w7.heap.size := Nat.le_trans hb' e7.size
      have s7 := e7.size
      clear b7 u7 e7 NR KR MR OR ER HCA
      generalize hge : wr.heap.size = ge at *
      clear hge
      go_wp2_with (first | (refine wpl_loadp rfl 32 (.tmp 37) rfl rfl B7.out agg_apisum HL32.out HK0.out ?_) | (refine wpl_loadp rfl 32 (.tmp 39) rfl rfl B7.out agg_apisum HL64.out HV0.out ?_))
      refine (hsc.out w7 N7.out).mono ?_
      rintro e w8 ⟨rfl, hn8, g8⟩
      rw [if_neg (by decide), hset.out] at hn8
      have N8 := hid hn8
      have hkge := hid (own_block_ge K7.out)
      have K8 := hid (own_keep K7.out (fun z hz => g8.block z (by have := hkl.out z hz; omega) (fun he => by have := hkge.out z hz; have := Option.some.inj he; omega)))
      have M8 := hid (M7.out.grown g8 (fun he => hgp2.2 (Option.some.inj he)) (fun he => hgp2.1 (Option.some.inj he)))
      have O8 := hid (own_keep O7.out (fun z hz => g8.block z (own_block_lt' O7.out z hz) (fun he => (hobg.out z hz).1 (Option.some.inj he))))
      have E8 := hid (E7.out.grown g8 (fun z hz => by cases hz; exact hgw))
      have B8 := hid (Blk.kept B7.out (g8.block ge B7.out.lt (fun he => by have := Option.some.inj he; omega)))
      have hbb8 : B2 ≤ w8.heap.size := Nat.le_trans hbb7 g8.size
      clear hn8 g8 N7 K7 M7 O7 E7 B7 hsc
      have N9 := hid (N8.out.ext ((Ext.refl w8).alloc (.cells (kk.map u8v).toArray 32)))
      have K9 := hid (ownsRow_ext K8.out ((Ext.refl w8).alloc (.cells (kk.map u8v).toArray 32)))
      have M9 := hid (M8.out.ext ((Ext.refl w8).alloc (.cells (kk.map u8v).toArray 32)))
      have O9 := hid (ownsRow_ext O8.out ((Ext.refl w8).alloc (.cells (kk.map u8v).toArray 32)))
      have E9 := hid (E8.out.alloc (.cells (kk.map u8v).toArray 32))
      have R9 : Hid (Blk (w8.alloc (.cells (kk.map u8v).toArray 32)) w8.heap.size (kk.map u8v) 32) := hid (Blk.mk_alloc rfl rfl)
      have hbb9 : B2 ≤ (w8.alloc (.cells (kk.map u8v).toArray 32)).heap.size := Nat.le_trans hbb8 ((Ext.refl w8).alloc _).size
      clear N8 K8 M8 O8 E8
      go_wp2_with (first | (refine wpl_loadp rfl 32 (.tmp 44) rfl rfl B8.out agg_apisum HL32.out HK0.out ?_) | (refine wpl_buildRow rfl rfl rfl HKK.out ?_) | (at_builtin; refine wpl_append_row rfl _ _ rfl B2 rfl rfl K9.out HKK.out R9.out (by omega) hbb9 ?_))
      intro v9 wX own9 g9
      have hge9 := own_block_ge K9.out
      have NX := hid (N9.out.grown g9 (fun he => by have := hge9 p2 he.symm; omega) (fun he => by have := hge9 g2 he.symm; omega))
      have MX := hid (M9.out.grown g9 (fun he => by have := hge9 p he.symm; omega) (fun he => by have := hge9 g he.symm; omega))
      have OX := hid (own_keep O9.out (fun z hz => g9.block z (own_block_lt' O9.out z hz) (fun he => by have := hge9 z he.symm; have := (hobg.out z hz).2.2; omega)))
      have EX := hid (E9.out.grown g9 (fun z hz => by have := hge9 z hz; omega))
      have KX := hid own9
      have hbbX : B2 ≤ wX.heap.size := Nat.le_trans hbb9 g9.size
      clear own9 g9 hge9 N9 K9 M9 O9 E9 R9 B8
      go_wp2_with fail
      go_roundw
      case rel => exact ⟨j + 1, by omega, by go_num, NX.out, by rw [HKS.out, List.map_take]; exact KX.out, MX.out, OX.out, EX.out, hbbX⟩
      case measure => simp [intOf]; omega
    · obtain rfl : j = NN := by omega
      have htk : hs2.take j = hs2 := List.take_of_length_le (by rw [HL2.out]; exact Nat.le_refl _)
      rw [htk] at NR KR
      clear htk hlt hj
      go_wp2_with fail
      have hsf : ∃ (q : Option Addr) (es : List (List UInt8)) (d : Nat), u7 = .slice q j d ∧ es.length = j ∧ Calls Try.prog 27 #[u7, .func (.func 28) #[] #[]] wr fun e w' => e = .returned (.tuple #[]) ∧ ∃ es : List (List UInt8), es.length = j ∧ es.Perm (hs2.map Prod.fst) ∧ Sorted32 es ∧ Cells w' q (rows es) ∧ TMap w' p2 g2 hs2 ∧ TMap w' p g hs ∧ Ext w w' := by
        have hk32 : All32 (hs2.map Prod.fst) := fun x hx => by
          obtain ⟨z, hz, rfl⟩ := List.mem_map.1 hx
          exact HE2.out.k32 z hz
        have hkl : (hs2.map Prod.fst).length = j := by rw [List.length_map]; exact HL2.out
        by_cases h0 : j = 0
        · subst h0
          obtain ⟨q, d, rfl⟩ : ∃ q d, u7 = .slice q 0 d := by
            rcases KR.out.2 with ⟨rfl, _⟩ | ⟨g, cap, cur, rfl, _⟩
            · exact ⟨_, _, rfl⟩
            · exact ⟨_, _, rfl⟩
          have hnil : hs2 = [] := List.length_eq_zero_iff.1 HL2.out
          refine ⟨q, [], d, rfl, rfl, (sortN_c q d _ wr).mono ?_⟩
          rintro e w' ⟨rfl, rfl⟩
          exact ⟨rfl, [], rfl, by rw [hnil]; simp, List.Pairwise.nil, .inl rfl, NR.out, MR.out, ER.out⟩
        · obtain ⟨v, hv⟩ : ∃ v, u7 = v := ⟨_, rfl⟩
          obtain ⟨q, d, rest, rfl, hbq, hb, hnd⟩ : ∃ q d rest, u7 = .slice (some ⟨q, 0, none⟩) j d ∧ B2 ≤ q ∧ Blk wr q (rows (hs2.map Prod.fst) ++ rest) 32 ∧ j ≤ d := by
            rcases KR.out.2 with ⟨_, h⟩ | ⟨g, cap, cur, h1, hb, hg, hx1, hx2, hx3, hx4⟩
            · exact absurd h h0
            · refine ⟨g, cap, cur.toList.drop (j * 32), h1, hb, ?_, hx1⟩
              unfold Blk
              rw [← hx4, List.take_append_drop]
              simpa using hg
          refine ⟨some ⟨q, 0, none⟩, hs2.map Prod.fst, d, rfl, hkl, (sortF_c 28 mclos_c enters_m1 (hs2.map Prod.fst) rest q j d _ wr hk32 hkl hb (by omega)).mono ?_⟩
          rintro e w' ⟨rfl, es, hp, hs', b2, gg⟩
          refine ⟨rfl, es, by rw [hp.length_eq, hkl], hp, sorted_strict hp HE2.out.nodup hs', .inr ⟨q, 0, rfl, fun i u hu => ?_⟩, NR.out.grown gg (fun he => by have := Option.some.inj he; omega) (fun he => by have := Option.some.inj he; omega), MR.out.grown gg (fun he => by have := Option.some.inj he; omega) (fun he => by have := Option.some.inj he; omega), ER.out.grown gg (fun z hz => by cases hz; omega)⟩
          rw [Nat.zero_add]
          refine b2.cell' ?_
          rw [List.getElem?_append_left (List.getElem?_eq_some_iff.1 hu).1]
          exact hu
      obtain ⟨q, _, d, rfl, _, hsf⟩ := hsf
      have HSF := hid hsf
      clear hsf NR KR MR OR ER
      refine HSF.out.mono ?_
      rintro e wS ⟨rfl, es, hel, hep, hes, hec, hn', hm', he'⟩
      have NS := hid hn'
      have MS := hid hm'
      have ES := hid he'
      have CS := hid hec
      have HEL := hid hel
      have HEP := hid hep
      have HES := hid hes
      have hrn := root_c p2 g2 hs2 wS hn' (by rw [HL2.out]; omega)
      rw [← hrp.out hs2 HPM.out] at hrn
      have HRN := hid hrn
      have HRV := hid (show (R.map u8v).length = 32 by rw [List.length_map]; exact HRL.out)
      clear hn' hm' he' hec hel hep hes hrn HSF
      go_wp2_with fail
      refine HRN.out.mono ?_
      rintro e wT ⟨rfl, eT⟩
      have MT := hid (MS.out.ext eT)
      have ET := hid (ES.out.ext eT)
      have CT := hid (CS.out.ext eT)
      clear eT MS ES CS NS HRN
      go_wp2_with fail
      refine (hrt.out wT MT.out).mono ?_
      rintro e wU ⟨rfl, eU⟩
      have MU := hid (MT.out.ext eU)
      have EU := hid (ET.out.ext eU)
      have CU := hid (CT.out.ext eU)
      clear eU MT ET CT
      go_wp2_with (first | (refine wpg_cmp rfl .eql _ _ _ _ rfl rfl rfl guard_sum HEQ.out ?_))
      refine (keys_c p g hs wU MU.out (by rw [HNN.out]; omega)).mono ?_
      rintro e wV ⟨b, os, d2, rfl, hop, hos, hoc, _, _, eV⟩
      obtain rfl : os = es := sorted_unique (hop.trans ((HPM.out.map Prod.fst).symm.trans HEP.out.symm)) hos HES.out
      have EV := hid (EU.out.ext eV)
      have heq := hid (equalS_c os os b q j j d2 d wV HEL.out HEL.out (by omega) (fun x hx => by
        obtain ⟨z, hz, rfl⟩ := List.mem_map.1 (HEP.out.mem_iff.1 hx)
        exact HE2.out.k32 z hz) (fun x hx => by
        obtain ⟨z, hz, rfl⟩ := List.mem_map.1 (HEP.out.mem_iff.1 hx)
        exact HE2.out.k32 z hz) hoc (CU.out.ext eV))
      rw [show (os == os) = true from by simp] at heq
      rw [HEL.out]
      clear hop hos hoc eV
      go_wp2_with fail
      refine heq.out.mono ?_
      rintro e wW ⟨rfl, eW⟩
      have EW := hid (EV.out.ext eW)
      clear eW
      go_wp2_with fail
      go_ret
      exact ⟨rfl, EW.out⟩
end

section
open Go Go.RowKit Go.ChangeShapes Go.WideShapes Go.ChangeAt Go.Deep

theorem cells?_at {w : World} {base : Nat} {p : Addr} {k : Nat} {cs : List Value} (h : w.cells? base p k = some cs) : cs.length = k ∧ CellsAt w p cs := by
  unfold World.cells? at h
  split at h
  · refine ⟨by simpa using mapM_some_length h, fun j u hu => ?_⟩
    have hj : j < k := by
      have h1 := (List.getElem?_eq_some_iff.1 hu).1
      have h2 := mapM_some_length h
      simp at h2; omega
    have := mapM_some_get h j j (by simp [hj])
    rw [hu] at this
    exact this
  · cases h

section
variable {H : Type} {enc : TypeId × Value → H} {P : Program} {w : World}
theorem octets_of_trod {base : Nat} {sp : Nat → Bool} {held : Bool} {t e : TypeId} {n f : Nat} {cs : List Value} {x : DataW H × List MemPlace} (ht : P.underlying t = some (.array n e)) (he : P.underlying e = some (.int .u8)) (hce : P.cellsOf e = 1) (hct : P.cellsOf t = n)
    (hf : DataW.trod enc P w base sp held f t cs = some x) : ∃ l : List UInt8, l.length = n ∧ cs = l.map u8v := by
  obtain ⟨xs, m, _, _, hlen, hxl, hel⟩ := DataW.trod_array ht hf
  have hcl : cs.length = n := by rw [hlen, hct]
  obtain ⟨l, hl⟩ := u8s_of cs fun i u hu => by
    have hi : i < n := by
      have := (List.getElem?_eq_some_iff.1 hu).1
      omega
    have h1 := hel i hi
    rw [hce, Nat.mul_one] at h1
    have hx : xs[i]? = some xs[i] := by simp
    have h2 : (cs.drop i).take 1 = [u] := by
      have h3 := List.getElem?_drop (xs := cs) (i := i) (j := 0)
      rw [Nat.add_zero, hu] at h3
      cases hd : cs.drop i with
      | nil => rw [hd] at h3; simp at h3
      | cons y r => rw [hd] at h3; simp at h3; simp [h3]
    have h4 : DataW.trod enc P w base sp held m e [u] = some xs[i] := by
      rw [← h2, ← hx]; exact h1
    obtain ⟨k, hk, _, hw⟩ := DataW.trod_int he h4
    have hu' : u = .int .u8 k := by simpa using hk
    rw [hu']; exact u8_of hw
  refine ⟨l, ?_, hl⟩
  have := congrArg List.length hl
  rw [hcl, List.length_map] at this; exact this.symm

/-- a slice of rows, its cell read -/
theorem sums_of_trod {base f : Nat} {held : Bool} {t e q : TypeId} {cs : List Value} {x : DataW H × List MemPlace} (ht : P.underlying t = some (.slice e)) (he : P.underlying e = some (.array 32 q)) (hq : P.underlying q = some (.int .u8)) (cq : P.cellsOf q = 1) (ce : P.cellsOf e = 32)
    (hf : DataW.trod enc P w base (fun _ => true) held f t cs = some x) :
    ∃ (a : Option Addr) (n c : Nat) (ls : List (List UInt8)) (es sp : List (DataW H)), cs = [.slice a n c] ∧ ls.length = n ∧ All32 ls ∧ n ≤ c ∧ c ≤ maxLen ∧ (a = none → c = 0) ∧ Cells w a (rows ls) ∧ ((x.1 = .nil ∧ c = 0) ∨ (x.1 = .slice es sp ∧ es.length + sp.length = c)) := by
  rcases DataW.trod_slice ht hf with ⟨h0, h1⟩ | ⟨a, len, cap, elems, rest, n, _, rfl, rfl, hb, hl, hm, hlen, hel, hsp, hns⟩
  · exact ⟨none, 0, 0, [], [], [], h0, rfl, All32.nil, Nat.le_refl _, Nat.zero_le _, fun _ => rfl, .inl rfl, .inl ⟨by rw [h1], rfl⟩⟩
  · have each : ∀ i, i < len → ∃ l : List UInt8, l.length = 32 ∧ CellsAt w (a.add (i * 32)) (l.map u8v) := by
      intro i hi
      have h1 := hel i hi
      have hx : elems[i]? = some (elems[i]'(by omega)) := by simp
      rw [ce, hx, Option.bind_eq_some_iff] at h1
      obtain ⟨cs', hcs, hy⟩ := h1
      obtain ⟨l, hl1, rfl⟩ := octets_of_trod he hq cq ce hy
      exact ⟨l, hl1, (cells?_at hcs).2⟩
    obtain ⟨g, hg⟩ := choose_lt each
    have h32 : All32 ((List.range len).map g) := fun l hl => by
      obtain ⟨i, hi, rfl⟩ := List.mem_map.1 hl
      exact (hg i (List.mem_range.1 hi)).1
    obtain ⟨hrl, _⟩ := hsp rfl
    refine ⟨some a, len, cap, (List.range len).map g, _, _, rfl, by simp, h32, hl, hm, (fun h => by cases h), ?_, .inr ⟨rfl, by simp; omega⟩⟩
    by_cases h0 : len = 0
    · left; subst h0; rfl
    · obtain ⟨hl0, hc0⟩ := hg 0 (by omega)
      obtain ⟨b, off, spot⟩ := a
      have hspot : spot = none := by
        have := hc0 0 (u8v ((g 0)[0]'(by omega))) (by simp [hl0])
        simpa [Addr.add] using World.cell?_spot this
      subst hspot
      refine .inr ⟨b, off, rfl, fun i u hu => ?_⟩
      have hi : i < 32 * len := by
        have := (List.getElem?_eq_some_iff.1 hu).1
        rw [rows_length h32] at this; simpa using this
      obtain ⟨_, hcr⟩ := hg (i / 32) (by omega)
      have hrow : ((List.range len).map g)[i / 32]? = some (g (i / 32)) := by
        rw [List.getElem?_map, List.getElem?_range (by omega)]; rfl
      have h2 := rows_at h32 hrow
      have h3 : ((g (i / 32)).map u8v)[i % 32]? = some u := by
        rw [← h2, List.getElem?_take_of_lt (Nat.mod_lt _ (by omega)), List.getElem?_drop, Nat.div_add_mod]; exact hu
      have h4 := hcr _ _ h3
      rw [addr_add, addr_add] at h4
      rw [show off + i / 32 * 32 + i % 32 = off + i by omega] at h4
      exact h4

/-- a struct of two ints and a slice of rows -/
theorem open_proof {r : Reach} {b0 base : Nat} {held : Bool} {t e q : TypeId} {f0 f1 f2 : Field} {v : Value} {d : DataW H} {ps : List MemPlace} (ht : P.underlying t = some (.struct #[f0, f1, f2])) (h0 : P.underlying f0.type = some (.int .i64)) (h1 : P.underlying f1.type = some (.int .i64))
    (h2 : P.underlying f2.type = some (.slice e)) (he : P.underlying e = some (.array 32 q)) (hq : P.underlying q = some (.int .u8)) (cq : P.cellsOf q = 1) (ce : P.cellsOf e = 32) (c0 : P.cellsOf f0.type = 1) (c1 : P.cellsOf f1.type = 1) (c2 : P.cellsOf f2.type = 1) (ct : P.cellsOf t = 3)
    (o0 : f0.offset = 0) (o1 : f1.offset = 1) (o2 : f2.offset = 2)
    (hval : Value.okWide P w r b0 t v) (hd : DataW.Trod enc P w base (fun _ => true) held t v d ps) :
    ∃ (I Z : Int) (a : Option Addr) (n c : Nat) (ls : List (List UInt8)), v = .agg #[.int .i64 I, .int .i64 Z, .slice a n c] ∧ ls.length = n ∧ All32 ls ∧ n ≤ c ∧ c ≤ maxLen ∧ (a = none → c = 0) ∧ Cells w a (rows ls) ∧
      ∃ (D : DataW H) (es sp : List (DataW H)), d = .agg [.lit (.int .i64 I), .lit (.int .i64 Z), D] ∧ ((D = .nil ∧ c = 0) ∨ (D = .slice es sp ∧ es.length + sp.length = c)) ∧ (Lit.int .i64 I).wf = true ∧ (Lit.int .i64 Z).wf = true := by
  obtain ⟨cs, rfl, hs⟩ := okWide_struct ht hval
  obtain ⟨fuel, hf⟩ := hd
  obtain ⟨y0, y1, y2, m, hx, hl, g0, g1, g2⟩ := trod_struct3 ht hf
  rw [c0, o0] at g0
  rw [c1, o1] at g1
  rw [c2, o2] at g2
  obtain ⟨I, hI, hI2, wI⟩ := DataW.trod_int h0 g0
  obtain ⟨Z, hZ, hZ2, wZ⟩ := DataW.trod_int h1 g1
  obtain ⟨a, n, c, ls, es, sp, hsl, hln, h32, hnc, hcm, hnil, hcl, hdd⟩ := sums_of_trod h2 he hq cq ce g2
  have hcs : cs = #[.int .i64 I, .int .i64 Z, .slice a n c] := by
    have hsz : cs.size = 3 := by rw [hs, ct]
    obtain ⟨l⟩ := cs
    match l, hsz with
    | [p0, p1, p2], _ =>
      simp [Value.cells] at hI hZ hsl
      rw [hI, hZ, hsl]
  refine ⟨I, Z, a, n, c, ls, by rw [hcs], hln, h32, hnc, hcm, hnil, hcl, y2.1, es, sp, ?_, hdd, wI, wZ⟩
  simp only [Prod.mk.injEq] at hx
  rw [hx.1, hI2, hZ2]
end
end

section
open Go Go.RowKit Go.ChangeShapes Go.WideShapes Go.ChangeAt Go.Deep

instance : Inhabited StepR := ⟨⟨0, 0, 0⟩⟩
section
variable {H : Type} {enc : TypeId × Value → H} {P : Program} {w : World}
theorem steps_of_trod {base f : Nat} {held : Bool} {t e : TypeId} {f0 f1 f2 : Field} {cs : List Value} {x : DataW H × List MemPlace} (ht : P.underlying t = some (.slice e)) (he : P.underlying e = some (.struct #[f0, f1, f2])) (h0 : P.underlying f0.type = some (.int .i64)) (h1 : P.underlying f1.type = some (.int .i64)) (h2 : P.underlying f2.type = some (.int .i64))
    (c0 : P.cellsOf f0.type = 1) (c1 : P.cellsOf f1.type = 1) (c2 : P.cellsOf f2.type = 1) (ce : P.cellsOf e = 3) (o0 : f0.offset = 0) (o1 : f1.offset = 1) (o2 : f2.offset = 2)
    (hf : DataW.trod enc P w base (fun _ => true) held f t cs = some x) :
    ∃ (a : Option Addr) (n c : Nat) (ls : List StepR), cs = [.slice a n c] ∧ ls.length = n ∧ n ≤ c ∧ c ≤ maxLen ∧ Cells w a (stepsV ls) := by
  rcases DataW.trod_slice ht hf with ⟨hh0, hh1⟩ | ⟨a, len, cap, elems, rest, n, _, rfl, rfl, hb, hl, hm, hlen, hel, hsp, hns⟩
  · exact ⟨none, 0, 0, [], hh0, rfl, Nat.le_refl _, Nat.zero_le _, .inl rfl⟩
  · have each : ∀ i, i < len → ∃ s : StepR, CellsAt w (a.add (i * 3)) s.c := by
      intro i hi
      have hh1 := hel i hi
      have hx : elems[i]? = some (elems[i]'(by omega)) := by simp
      rw [ce, hx, Option.bind_eq_some_iff] at hh1
      obtain ⟨cs', hcs, hy⟩ := hh1
      obtain ⟨y0, y1, y2, m, hxx, hll, g0, g1, g2⟩ := trod_struct3 he hy
      rw [c0, o0] at g0
      rw [c1, o1] at g1
      rw [c2, o2] at g2
      obtain ⟨I, hI, _, _⟩ := DataW.trod_int h0 g0
      obtain ⟨J, hJ, _, _⟩ := DataW.trod_int h1 g1
      obtain ⟨K, hK, _, _⟩ := DataW.trod_int h2 g2
      refine ⟨⟨I, J, K⟩, ?_⟩
      obtain ⟨hl3, hca⟩ := cells?_at hcs
      have hcs3 : cs' = StepR.c ⟨I, J, K⟩ := by
        match cs', hl3 with
        | [p0, p1, p2], _ =>
          simp at hI hJ hK
          rw [hI, hJ, hK]; rfl
      rw [← hcs3]; exact hca
    obtain ⟨g, hg⟩ := choose_lt (p := fun i s => CellsAt w (a.add (i * 3)) (StepR.c s)) each
    refine ⟨some a, len, cap, (List.range len).map g, rfl, by simp, hl, hm, ?_⟩
    by_cases hz : len = 0
    · left; subst hz; rfl
    · have hc0 := hg 0 (by omega)
      obtain ⟨b, off, spot⟩ := a
      have hspot : spot = none := by
        have := hc0 0 (.int .i64 (g 0).kind) rfl
        simpa [Addr.add] using World.cell?_spot this
      subst hspot
      refine .inr ⟨b, off, rfl, fun i u hu => ?_⟩
      have hi : i < 3 * len := by
        have := (List.getElem?_eq_some_iff.1 hu).1
        rw [stepsV_length] at this; simpa using this
      have hcr := hg (i / 3) (by omega)
      have hrow : ((List.range len).map g)[i / 3]? = some (g (i / 3)) := by
        rw [List.getElem?_map, List.getElem?_range (by omega)]; rfl
      have h3 : (StepR.c (g (i / 3)))[i % 3]? = some u := by
        rw [← stepsV_at hrow (Nat.mod_lt _ (by omega)), Nat.mul_comm, Nat.div_add_mod]; exact hu
      have h4 := hcr _ _ h3
      rw [addr_add, addr_add] at h4
      rw [show off + i / 3 * 3 + i % 3 = off + i by omega] at h4
      exact h4
theorem open_steps {r : Reach} {b0 base : Nat} {held : Bool} {t e : TypeId} {f0 f1 f2 : Field} {v : Value} {d : DataW H} {ps : List MemPlace} (ht : P.underlying t = some (.slice e)) (he : P.underlying e = some (.struct #[f0, f1, f2])) (h0 : P.underlying f0.type = some (.int .i64)) (h1 : P.underlying f1.type = some (.int .i64)) (h2 : P.underlying f2.type = some (.int .i64))
    (c0 : P.cellsOf f0.type = 1) (c1 : P.cellsOf f1.type = 1) (c2 : P.cellsOf f2.type = 1) (ce : P.cellsOf e = 3) (o0 : f0.offset = 0) (o1 : f1.offset = 1) (o2 : f2.offset = 2)
    (hval : Value.okWide P w r b0 t v) (hd : DataW.Trod enc P w base (fun _ => true) held t v d ps) :
    ∃ (a : Option Addr) (n c : Nat) (ls : List StepR), v = .slice a n c ∧ ls.length = n ∧ n ≤ c ∧ c ≤ maxLen ∧ Cells w a (stepsV ls) := by
  obtain ⟨a, n, c, rfl⟩ := okWide_slice ht hval
  obtain ⟨fuel, hf⟩ := hd
  obtain ⟨a2, n2, c2', ls, hcs, hl, hnc, hcm, hcl⟩ := steps_of_trod ht he h0 h1 h2 c0 c1 c2 ce o0 o1 o2 hf
  simp [Value.cells] at hcs
  obtain ⟨rfl, rfl, rfl⟩ := hcs
  exact ⟨a, n, c, ls, rfl, hl, hnc, hcm, hcl⟩
end
end
end Go.Proofs.Ytkcjdginoccgjaa
