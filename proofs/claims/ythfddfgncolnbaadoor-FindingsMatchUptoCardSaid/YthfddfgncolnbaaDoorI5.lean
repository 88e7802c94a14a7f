/- audit.ParseFinding; conditions: the text's length, the variables of the library. -/
import Derived.Test.YthfddfgncolnbaaDoorI4
import Derived.Test.YthfddfgncolnbaaDoorM2
import Derived.Lib.AtoiAllCases
namespace Go.Proofs.YthfddfgncolnbaaDoor
open Go Go.RowKit

theorem agg_find : AggT Tryd.prog 24 4 := ⟨⟨_, Tryd.underlying24, rfl⟩, by kernel_rfl⟩
theorem fvs_len (f : FindR) : (fvs f).length = 4 := rfl
theorem fvs_one (f : FindR) : ∀ v ∈ fvs f, v.oneCell' = true := by
  intro v hv
  unfold fvs at hv
  simp at hv
  rcases hv with rfl | rfl | rfl | rfl <;> rfl
theorem numOf_b (l : List UInt8) : -9223372036854775808 ≤ numOf l ∧ numOf l ≤ 9223372036854775807 := by
  unfold numOf
  cases h : Lib.atoiAll l with
  | ok v => exact Lib.atoiAll_bounds h
  | range =>
    simp only [Lib.atoiSat]
    split <;> omega
  | _ => simp
theorem btw_b (s h t : List UInt8) : -9223372036854775808 ≤ (btwL s h t).n ∧ (btwL s h t).n ≤ 9223372036854775807 := numOf_b _
/-- the last stage below k with these words -/
def stgL (what : List UInt8) : Nat → Int
  | 0 => 0
  | k + 1 => if k ≠ 0 ∧ phraseL (k : Int) = what then (k : Int) else stgL what k
theorem stgL_5 (what : List UInt8) : stgL what 5 = stageL what := by
  unfold stgL stgL stgL stgL stgL stgL stageL
  simp only [show phraseL ((4 : Nat) : Int) = phr4 from rfl, show phraseL ((3 : Nat) : Int) = phr3 from rfl, show phraseL ((2 : Nat) : Int) = phr2 from rfl, show phraseL ((1 : Nat) : Int) = phr1 from rfl, eq_comm (a := what)]
  simp
theorem toList2 (l : List UInt8) : (strOf l).toList = l := by rw [ByteArray.toList_eq, toList_strOf]
theorem strOf_inj {a b : List UInt8} : strOf a = strOf b ↔ a = b := by
  constructor
  · intro h
    have := congrArg (fun s => s.data.toList) h
    simpa [strOf] using this
  · rintro rfl; rfl

theorem tryL_eq (s : List UInt8) : tryL s = if (btwL s txtGood txtEntries).ok && (btwL (btwL s txtGood txtEntries).rest [] txtOctets).ok then some ⟨0, (btwL s txtGood txtEntries).n, (btwL (btwL s txtGood txtEntries).rest [] txtOctets).n, 0⟩
    else if (btwL s txtEntry txtAt).ok && (btwL (btwL s txtEntry txtAt).rest [] txtColon).ok && (btwL (Lib.cut (btwL (btwL s txtEntry txtAt).rest [] txtColon).rest txtOpen).2.1 txtError txtClose).ok then some ⟨stageL (Lib.cut (btwL (btwL s txtEntry txtAt).rest [] txtColon).rest txtOpen).1, (btwL s txtEntry txtAt).n, (btwL (btwL s txtEntry txtAt).rest [] txtColon).n, (btwL (Lib.cut (btwL (btwL s txtEntry txtAt).rest [] txtColon).rest txtOpen).2.1 txtError txtClose).n⟩ else none := rfl
theorem parseF_some {s : List UInt8} {f : FindR} (h : tryL s = some f) : parseF s = (if readsB f s then f else zeroF) ∧ parseFE s = (if readsB f s then 0 else 11) := by
  unfold parseF parseFE; rw [h]; exact ⟨rfl, rfl⟩
theorem parseF_none {s : List UInt8} (h : tryL s = none) : parseF s = zeroF ∧ parseFE s = 11 := by
  unfold parseF parseFE; rw [h]; exact ⟨rfl, rfl⟩
theorem stage_b (what : List UInt8) : 0 ≤ stageL what ∧ stageL what ≤ 4 := by
  unfold stageL
  repeat' split
  all_goals omega

set_option maxRecDepth 100000 in
set_option maxHeartbeats 2000000 in
theorem parseFinding_c (s : List UInt8) (w : World) (hs : s.length < 4294967281) (hw : LibW w) :
    Calls Tryd.prog 7 #[.string (strOf s)] w fun e w' => e = .returned (.tuple #[fv (parseF s), .int .i64 (parseFE s)]) ∧ Ext w w' := by
  have hb := hid (fun s h t w h1 h2 => between_c s h t w h1 h2)
  have HW := hid hw
  have hTR := hid (tryL_eq s)
  have n1 := btw_b s txtGood txtEntries
  have l1 := btw_le s txtGood txtEntries
  have ha := hid (hb.out s txtGood txtEntries)
  generalize btwL s txtGood txtEntries = ra at *
  have n2 := btw_b ra.rest [] txtOctets
  have hbb := hid (hb.out ra.rest [] txtOctets)
  generalize btwL ra.rest [] txtOctets = rb at *
  have n3 := btw_b s txtEntry txtAt
  have l3 := btw_le s txtEntry txtAt
  have hcc := hid (hb.out s txtEntry txtAt)
  generalize btwL s txtEntry txtAt = rc at *
  have n4 := btw_b rc.rest [] txtColon
  have l4 := btw_le rc.rest [] txtColon
  have hdd := hid (hb.out rc.rest [] txtColon)
  generalize btwL rc.rest [] txtColon = rd at *
  have l5 := cut2_le rd.rest txtOpen
  have hee := hid (fun w hm => cutS_c rd.rest txtOpen w (by omega) hm)
  generalize Lib.cut rd.rest txtOpen = re at *
  obtain ⟨what, tl, b5⟩ := re
  dsimp only at *
  have n6 := btw_b tl txtError txtClose
  have hgg := hid (hb.out tl txtError txtClose)
  generalize btwL tl txtError txtClose = rg at *
  obtain ⟨an, ar, ao⟩ := ra
  obtain ⟨bn, br, bo⟩ := rb
  obtain ⟨cn, cr, co⟩ := rc
  obtain ⟨dn, dr, dO⟩ := rd
  obtain ⟨gn, gr, go⟩ := rg
  dsimp only at *
  have L1 := hid (show ar.length < 4294967281 by omega)
  have L3 := hid (show cr.length < 4294967281 by omega)
  have L4 := hid (show tl.length < 4294967281 by omega)
  have L0 := hid hs
  have N1 := hid n1
  have N2 := hid n2
  have N3 := hid n3
  have N4 := hid n4
  have N6 := hid n6
  clear n1 n2 n3 n4 n6 l1 l3 l4 l5 hs hw hb
  go_enter Tryd.func7, Tryd.ntmps7
  go_upto_region 2 with (fail)
  generalize hwA : World.alloc (World.alloc w _) _ = wA
  have zA : Blk wA w.heap.size (fvs zeroF) 24 := by rw [← hwA]; exact (Blk.mk_alloc rfl rfl).alloc _
  have fA : Blk wA (w.heap.size + 1) (fvs zeroF) 24 := by rw [← hwA]; exact Blk.mk_alloc (by simp) rfl
  have eA : Ext w wA := by rw [← hwA]; exact ((Ext.refl w).alloc _).alloc _
  have ZA := hid zA
  have FA := hid fA
  have EA := hid eA
  clear hwA zA fA eA
  go_wp2_with fail
  refine (ha.out _ L0.out (HW.out.ext EA.out)).mono ?_
  rintro e wB ⟨rfl, eB⟩
  have ZB := hid (ZA.out.ext eB)
  have FB := hid (FA.out.ext eB)
  have EB := hid (EA.out.ext eB)
  clear eB ZA FA EA
  go_wp2_with fail
  refine (hbb.out _ L1.out (HW.out.ext EB.out)).mono ?_
  rintro e wC ⟨rfl, eC⟩
  have ZC := hid (ZB.out.ext eC)
  have FC := hid (FB.out.ext eC)
  have EC := hid (EB.out.ext eC)
  clear eC ZB FB EB
  clear ha hbb
  dsimp only at *
  go_upto_region 4 with (fail)
  go_cut [36] (fun v wx => v = .bool (ao && bo) ∧ wx = wC)
  case first =>
    cases ao with
    | true =>
      go_wp2
      go_meet
      exact ⟨rfl, rfl⟩
    | false =>
      go_wp2
      go_meet
      exact ⟨rfl, rfl⟩
  case rest =>
  obtain ⟨rfl, rfl⟩ := hcut
  obtain ⟨ab, hab⟩ : ∃ ab, (ao && bo) = ab := ⟨_, rfl⟩
  rw [hab] at hTR ⊢
  clear hab
  go_upto_if 36 with (fail)
  go_cut [] (fun wx => ∃ f : FindR, tryL s = some f ∧ FindB f ∧ Blk wx w.heap.size (fvs zeroF) 24 ∧ Blk wx (w.heap.size + 1) (fvs f) 24 ∧ Ext w wx)
  case first =>
    cases ab with
    | true =>
      have HT := hid (hTR.out.trans (if_pos rfl))
      clear hTR hcc hdd hee hgg
      go_wp2_with (refine wpl_storew rfl _ (.tmp 4) _ rfl rfl rfl FC.out agg_find rfl (fvs_len ⟨0, an, bn, 0⟩) (fvs_one ⟨0, an, bn, 0⟩) ?_)
      intro wD bD uD
      have ZD := hid (ZC.out.upd uD (by omega))
      have ED := hid (uD.ext EC.out (by omega))
      go_wp2_with fail
      go_meet
      exact ⟨_, HT.out, ⟨N1.out.1, N1.out.2, N2.out.1, N2.out.2, by show (-9223372036854775808 : Int) ≤ 0; decide, by show (0 : Int) ≤ 9223372036854775807; decide⟩, ZD.out, bD, ED.out⟩
    | false =>
      have HT := hid (hTR.out.trans (if_neg (by decide)))
      clear hTR
      go_wp2_with fail
      refine (hcc.out _ L0.out (HW.out.ext EC.out)).mono ?_
      rintro e wD ⟨rfl, eD⟩
      have ZD := hid (ZC.out.ext eD)
      have FD := hid (FC.out.ext eD)
      have ED := hid (EC.out.ext eD)
      clear eD ZC FC EC
      go_wp2_with fail
      refine (hdd.out _ L3.out (HW.out.ext ED.out)).mono ?_
      rintro e w5 ⟨rfl, e5⟩
      have Z5 := hid (ZD.out.ext e5)
      have F5 := hid (FD.out.ext e5)
      have E5 := hid (ED.out.ext e5)
      clear e5 ZD FD ED
      go_wp2_with fail
      refine (hee.out _ (HW.out.ext E5.out).ml).mono ?_
      rintro e w6 ⟨rfl, e6⟩
      have Z6 := hid (Z5.out.ext e6)
      have F6 := hid (F5.out.ext e6)
      have E6 := hid (E5.out.ext e6)
      clear e6 Z5 F5 E5
      go_wp2_with fail
      refine (hgg.out _ L4.out (HW.out.ext E6.out)).mono ?_
      rintro e w7 ⟨rfl, e7⟩
      have Z7 := hid (Z6.out.ext e7)
      have F7 := hid (F6.out.ext e7)
      have E7 := hid (E6.out.ext e7)
      clear e7 Z6 F6 E6
      clear hcc hdd hee hgg
      go_upto_region 10 with (fail)
      go_cut [73] (fun v wx => v = .bool (!(co && dO && go)) ∧ wx = w7)
      case first =>
        cases co with
        | false =>
          go_wp2
          go_meet
          exact ⟨rfl, rfl⟩
        | true =>
        cases dO with
        | false =>
          go_wp2
          go_meet
          exact ⟨rfl, rfl⟩
        | true =>
          go_wp2
          go_meet
          exact ⟨rfl, rfl⟩
      case rest =>
      obtain ⟨rfl, rfl⟩ := hcut
      obtain ⟨ok, hok⟩ : ∃ ok, (co && dO && go) = ok := ⟨_, rfl⟩
      rw [hok] at HT ⊢
      clear hok
      cases ok with
      | false =>
        have HP := hid (parseF_none (HT.out.trans (if_neg (by decide))))
        go_wp2_with (refine wpl_storew rfl _ (.tmp 2) _ rfl rfl rfl Z7.out agg_find rfl (fvs_len zeroF) (fvs_one zeroF) ?_)
        intro w8 b8 u8
        have E8 := hid (u8.ext E7.out (by omega))
        go_wp2_with fail
        exact ret_row2 rfl rfl b8 agg_find rfl rfl ⟨by rw [HP.out.1, HP.out.2]; rfl, E8.out⟩
      | true =>
        have HT2 := hid (HT.out.trans (if_pos rfl))
        have hs5 := stgL_5 what
        rw [← hs5] at HT2
        clear HT hs5
        go_wp2_with (refine wpl_storew rfl _ (.tmp 4) _ rfl rfl rfl F7.out agg_find rfl (fvs_len ⟨0, cn, dn, gn⟩) (fvs_one ⟨0, cn, dn, gn⟩) ?_)
        intro w8 b8 u8
        have Z8 := hid (Z7.out.upd u8 (by omega))
        have E8 := hid (u8.ext E7.out (by omega))
        have F8 := hid b8
        clear b8 u8 Z7 F7 E7
        go_wp2_with fail
        go_loopw [17] (fun x wr => ∃ k : Nat, 1 ≤ k ∧ k ≤ 5 ∧ x = .int .i64 (k : Int) ∧ Blk wr w.heap.size (fvs zeroF) 24 ∧ Blk wr (w.heap.size + 1) (fvs ⟨stgL what k, cn, dn, gn⟩) 24 ∧ Ext w wr) (fun x _ => 5 - (intOf x).toNat)
        case atStart => exact ⟨1, by omega, by omega, rfl, Z8.out, F8.out, E8.out⟩
        case round =>
          obtain ⟨k, hk1, hk5, rfl, zr, fr, er⟩ := hrel
          have ZR := hid zr
          have FR := hid fr
          have ER := hid er
          clear zr fr er
          by_cases hlt : k < 5
          · have hd : decide ((k : Int) ≤ 4) = true := decide_eq_true (by omega)
            have hd2 : decide (k ≤ 4) = true := decide_eq_true (by omega)
            have hst : stgL what (k + 1) = if phraseL (k : Int) = what then (k : Int) else stgL what k := by
              conv => lhs; unfold stgL
              by_cases hp : phraseL (k : Int) = what
              · rw [if_pos ⟨by omega, hp⟩, if_pos hp]
              · rw [if_neg (fun h => hp h.2), if_neg hp]
            have HS := hid hst
            clear hst
            go_wp2_with fail
            refine (phrase_c (k : Int) _).mono ?_
            rintro e w9 ⟨rfl, rfl⟩
            by_cases hp : phraseL (k : Int) = what
            · have hq : ((strOf (phraseL (k : Int))).toList == (strOf what).toList) = true := by rw [toList2, toList2, hp]; simp
              have hs2 := HS.out
              rw [if_pos hp] at hs2
              have HS2 := hid hs2
              clear hs2 hp HS
              have cb := FR.out.cell' (i := 0) rfl
              have fb := FR.out.frozen 0
              go_wp2_with fail
              generalize hwX : World.setCell wr _ _ = wX
              have bX : Blk wX (w.heap.size + 1) (fvs ⟨(k : Int), cn, dn, gn⟩) 24 := by rw [← hwX]; exact FR.out.set 0 (.int .i64 (k : Int))
              have uX : Upd wr (w.heap.size + 1) wX := by rw [← hwX]; exact Upd.setCell _
              have ZX := hid (ZR.out.upd uX (by omega))
              have EX := hid (uX.ext ER.out (by omega))
              clear hwX uX cb fb
              go_roundw
              case rel => exact ⟨k + 1, by omega, by omega, by go_num, ZX.out, by rw [HS2.out]; exact bX, EX.out⟩
              case measure => simp [intOf]; omega
            · have hq : ((strOf (phraseL (k : Int))).toList == (strOf what).toList) = false := by rw [toList2, toList2]; simpa using hp
              have hs2 := HS.out
              rw [if_neg hp] at hs2
              have HS2 := hid hs2
              clear hs2 hp HS
              go_wp2
              go_roundw
              case rel => exact ⟨k + 1, by omega, by omega, by go_num, ZR.out, by rw [HS2.out]; exact FR.out, ER.out⟩
              case measure => simp [intOf]; omega
          · have hd : decide ((k : Int) ≤ 4) = false := decide_eq_false (by omega)
            have hd2 : decide (k ≤ 4) = false := decide_eq_false (by omega)
            obtain rfl : k = 5 := by omega
            go_wp2_with fail
            go_meet
            have hsb := stage_b what
            rw [← stgL_5 what] at hsb
            exact ⟨_, HT2.out, ⟨N3.out.1, N3.out.2, N4.out.1, N4.out.2, N6.out.1, N6.out.2⟩, ZR.out, FR.out, ER.out⟩
  case rest =>
  obtain ⟨f, htf, hfb, zc, fc, ec⟩ := hcut
  clear hTR hcc hdd hee hgg ZC FC EC
  obtain ⟨hp1, hp2⟩ := parseF_some htf
  have HP1 := hid hp1
  have HP2 := hid hp2
  have FBD := hid hfb
  have HEL := hid (show explL f = if explE f = 0 then explT f else [] from rfl)
  have HRB := hid (show readsB f s = (decide (explE f = 0) && decide (explT f = s)) from rfl)
  have ZC := hid zc
  have FC := hid fc
  have EC := hid ec
  clear zc fc ec hp1 hp2 hfb htf
  go_wp2_with (refine wpl_loadw rfl 24 (.tmp 4) rfl rfl FC.out agg_find (fvs_len f) ?_)
  refine (explain_c f _ FBD.out (HW.out.ext EC.out)).mono ?_
  rintro e wD ⟨rfl, eD⟩
  have ZD := hid (ZC.out.ext eD)
  have FD := hid (FC.out.ext eD)
  have ED := hid (EC.out.ext eD)
  clear eD ZC FC EC
  generalize explE f = ex at *
  generalize explL f = tx at *
  by_cases hx : ex = 0
  · have hx2 : (ex != 0) = false := by simp [hx]
    have htx := HEL.out
    rw [if_pos hx] at htx
    by_cases hq : tx = s
    · have hq2 : ((strOf tx).toList == (strOf s).toList) = true := by rw [toList2, toList2, hq]; simp
      have HR := hid (show readsB f s = true by rw [HRB.out, ← htx]; simp [hx, hq])
      clear hq hx htx HEL HRB
      go_wp2_with (first | (refine wpl_loadw rfl 24 (.tmp 4) rfl rfl FD.out agg_find (fvs_len f) ?_) | (refine wpl_storew rfl _ (.tmp 2) _ rfl rfl rfl ZD.out agg_find rfl (fvs_len f) (fvs_one f) ?_))
      intro w8 b8 u8
      have E8 := hid (u8.ext ED.out (by omega))
      go_wp2_with fail
      exact ret_row2 rfl rfl b8 agg_find rfl rfl ⟨by rw [HP1.out, HP2.out, if_pos HR.out, if_pos HR.out]; rfl, E8.out⟩
    · have hq2 : ((strOf tx).toList == (strOf s).toList) = false := by rw [toList2, toList2]; simpa using hq
      have HR := hid (show readsB f s = false by rw [HRB.out, ← htx]; simp [hq])
      clear hq hx htx HEL HRB
      go_wp2_with (refine wpl_storew rfl _ (.tmp 2) _ rfl rfl rfl ZD.out agg_find rfl (fvs_len zeroF) (fvs_one zeroF) ?_)
      intro w8 b8 u8
      have E8 := hid (u8.ext ED.out (by omega))
      go_wp2_with fail
      exact ret_row2 rfl rfl b8 agg_find rfl rfl ⟨by rw [HP1.out, HP2.out, HR.out]; rfl, E8.out⟩
  · have hx2 : (ex != 0) = true := by simp [hx]
    have HR := hid (show readsB f s = false by rw [HRB.out]; simp [hx])
    clear hx HEL HRB
    go_wp2_with (refine wpl_storew rfl _ (.tmp 2) _ rfl rfl rfl ZD.out agg_find rfl (fvs_len zeroF) (fvs_one zeroF) ?_)
    intro w8 b8 u8
    have E8 := hid (u8.ext ED.out (by omega))
    go_wp2_with fail
    exact ret_row2 rfl rfl b8 agg_find rfl rfl ⟨by rw [HP1.out, HP2.out, HR.out]; rfl, E8.out⟩
end Go.Proofs.YthfddfgncolnbaaDoor
