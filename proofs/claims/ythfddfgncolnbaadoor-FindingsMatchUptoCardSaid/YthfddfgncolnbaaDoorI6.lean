/- The law FindingsMatch, walked; conditions: the bounds of the numbers, the text's length, the variables of the library. -/
import Derived.Test.YthfddfgncolnbaaDoorI5
import Derived.Test.YthfddfgncolnbaaDoorM3
namespace Go.Proofs.YthfddfgncolnbaaDoor
open Go Go.RowKit

theorem guard_find : Tryd.prog.eqGuardType Tryd.prog.depth 24 = false := by kernel_rfl
theorem stood_find : Tryd.prog.stoodInHeld 24 = false := by kernel_rfl
theorem fieldsAt_find : (Tryd.prog.fieldsOf 24).toList.map (fun f => (f.name, f.type, f.offset)) = [("Stage", 3, 0), ("Entry", 3, 1), ("At", 3, 2), ("Err", 22, 3)] := by kernel_rfl
theorem eqFind_self (f : FindR) (w : World) : (Op.equalIn 10000 24 (.agg (fvs f).toArray) (.agg (fvs f).toArray)).run Tryd.prog w = .ok true w := by
  have hu : Tryd.prog.underlying 24 = some (.struct (Tryd.prog.fieldsOf 24)) := by unfold Program.fieldsOf; rw [Tryd.underlying24]
  rw [show (10000 : Nat) = 9999 + 1 from rfl, run_equalIn_struct w 9999 _ _ _ hu stood_find]
  have h := fieldsAt_find
  generalize (Tryd.prog.fieldsOf 24).toList = fs at h
  obtain ⟨f1, fs1, rfl, k1, h⟩ := List.map_eq_cons_iff.1 h
  obtain ⟨f2, fs2, rfl, k2, h⟩ := List.map_eq_cons_iff.1 h
  obtain ⟨f3, fs3, rfl, k3, h⟩ := List.map_eq_cons_iff.1 h
  obtain ⟨f4, fs4, rfl, k4, h⟩ := List.map_eq_cons_iff.1 h
  obtain rfl := List.map_eq_nil_iff.1 h
  simp only [Prod.mk.injEq] at k1 k2 k3 k4
  obtain ⟨a1, a2, a3⟩ := k1
  obtain ⟨b1, b2, b3⟩ := k2
  obtain ⟨c1, c2, c3⟩ := k3
  obtain ⟨d1, d2, d3⟩ := k4
  have p1 : (part f1.type (fvs f).toArray f1.offset).run Tryd.prog w = .ok (.int .i64 f.st) w := by rw [a2, a3]; exact run_part_int Tryd.underlying3 rfl
  have p2 : (part f2.type (fvs f).toArray f2.offset).run Tryd.prog w = .ok (.int .i64 f.en) w := by rw [b2, b3]; exact run_part_int Tryd.underlying3 rfl
  have p3 : (part f3.type (fvs f).toArray f3.offset).run Tryd.prog w = .ok (.int .i64 f.at_) w := by rw [c2, c3]; exact run_part_int Tryd.underlying3 rfl
  have p4 : (part f4.type (fvs f).toArray f4.offset).run Tryd.prog w = .ok (.int .i64 f.er) w := by rw [d2, d3]; exact run_part_int Tryd.underlying22 rfl
  have e1 : ∀ z : Int, (Op.equalIn 9999 3 (.int .i64 z) (.int .i64 z)).run Tryd.prog w = .ok true w := fun z => by
    rw [run_equalIn_int w 9998 _ _ _ _ _ Tryd.underlying3]; simp
  have e2 : ∀ z : Int, (Op.equalIn 9999 22 (.int .i64 z) (.int .i64 z)).run Tryd.prog w = .ok true w := fun z => by
    rw [run_equalIn_int w 9998 _ _ _ _ _ Tryd.underlying22]; simp
  rw [run_eqFields_cons (by rw [a1]; decide) p1 p1 (by rw [a2]; exact e1 _), run_eqFields_cons (by rw [b1]; decide) p2 p2 (by rw [b2]; exact e1 _), run_eqFields_cons (by rw [c1]; decide) p3 p3 (by rw [c2]; exact e1 _), run_eqFields_cons (by rw [d1]; decide) p4 p4 (by rw [d2]; exact e2 _)]
  simp [Op.eqFields]
theorem find_eql (f : FindR) (w : World) : (binOp .eql 24 (.agg (fvs f).toArray) (.agg (fvs f).toArray)).run Tryd.prog w = .ok (.bool true) w := by
  rw [run_eql_struct, eqFind_self f w]; rfl
theorem find_neq (f : FindR) (w : World) : (binOp .neq 24 (.agg (fvs f).toArray) (.agg (fvs f).toArray)).run Tryd.prog w = .ok (.bool false) w := by
  rw [run_neq_struct, eqFind_self f w]; rfl
theorem expl_len (f : FindR) (hb : FindB f) : (explL f).length ≤ 1000 := by
  unfold explL
  split
  · unfold explT
    have h1 := itoa_len hb.a1 hb.b1
    have h2 := itoa_len hb.a2 hb.b2
    have h3 := itoa_len hb.a3 hb.b3
    have h4 := phrase_len f.st
    split <;> simp [txtGood, txtEntries, txtOctets, txtEntry, txtAt, txtColon, txtMid, txtClose] <;> omega
  · simp

theorem parse_bnd (s : List UInt8) : FindB (parseF s) := by
  have hz : FindB zeroF := ⟨by decide, by decide, by decide, by decide, by decide, by decide⟩
  have key : ∀ f, tryL s = some f → FindB f := by
    intro f hf
    rw [tryL_eq] at hf
    split at hf
    · injection hf with hf
      subst hf
      exact ⟨(btw_b _ _ _).1, (btw_b _ _ _).2, (btw_b _ _ _).1, (btw_b _ _ _).2, by show (-9223372036854775808 : Int) ≤ 0; decide, by show (0 : Int) ≤ 9223372036854775807; decide⟩
    · split at hf
      · injection hf with hf
        subst hf
        exact ⟨(btw_b _ _ _).1, (btw_b _ _ _).2, (btw_b _ _ _).1, (btw_b _ _ _).2, (btw_b _ _ _).1, (btw_b _ _ _).2⟩
      · cases hf
  cases ht : tryL s with
  | none => rw [(parseF_none ht).1]; exact hz
  | some f =>
    rw [(parseF_some ht).1]
    split
    · exact key f ht
    · exact hz

set_option maxRecDepth 100000 in
set_option maxHeartbeats 2000000 in
theorem findingsMatch_c (f : FindR) (s : List UInt8) (w : World) (hb : FindB f) (hs : s.length < 4294967281) (hw : LibW w) :
    Calls Tryd.prog 3 #[fv f, .string (strOf s)] w fun e w' => e = .returned (.bool true) ∧ Ext w w' := by
  have HB := hid hb
  have HW := hid hw
  have HS := hid hs
  have HLN := hid (show (explL f).length < 4294967281 by have := expl_len f hb; omega)
  have HX := hid (fun w hw => explain_c f w hb hw)
  have HRX := hid (fun w hw => rexplain_c f w hb hw)
  have HPT := hid (fun (h : explE f = 0) => parse_expl h hb.b1 hb.b2 hb.b3)
  have HTL := hid (fun (h : explE f = 0) => show explL f = explT f by unfold explL; rw [if_pos h])
  have HPB := hid (parse_bnd s)
  clear hb hw hs
  go_enter Tryd.func3, Tryd.ntmps3
  go_upto_region 1 with (fail)
  generalize hwA : World.alloc w _ = wA
  have fA : Blk wA w.heap.size (fvs f) 24 := by rw [← hwA]; exact Blk.mk_alloc rfl rfl
  have eA : Ext w wA := by rw [← hwA]; exact (Ext.refl w).alloc _
  have FA := hid fA
  have EA := hid eA
  clear hwA fA eA
  go_wp2_with fail
  refine (landed_c _).mono ?_
  rintro e wB ⟨rfl, eB⟩
  have FB := hid (FA.out.ext eB)
  have EB := hid (EA.out.ext eB)
  clear eB FA EA
  go_wp2_with (refine wpl_loadw rfl 24 (.tmp 2) rfl rfl FB.out agg_find (fvs_len f) ?_)
  refine (HX.out _ (HW.out.ext EB.out)).mono ?_
  rintro e wC ⟨rfl, eC⟩
  have FC := hid (FB.out.ext eC)
  have EC := hid (EB.out.ext eC)
  clear eC FB EB
  go_wp2_with (refine wpl_loadw rfl 24 (.tmp 2) rfl rfl FC.out agg_find (fvs_len f) ?_)
  refine (HRX.out _ (HW.out.ext EC.out)).mono ?_
  rintro e wD ⟨rfl, eD⟩
  have FD := hid (FC.out.ext eD)
  have ED := hid (EC.out.ext eD)
  clear eD FC EC
  clear HX HRX
  go_upto_if 33 with (fail)
  go_cut [] (fun wx => Blk wx w.heap.size (fvs f) 24 ∧ Ext w wx)
  case first =>
    by_cases hx : explE f = 0
    · obtain ⟨hp1, hp2⟩ := HPT.out hx
      have hpl := HTL.out hx
      rw [← hpl] at hp1 hp2
      have HP1 := hid hp1
      have HP2 := hid hp2
      clear hp1 hp2 hpl HPT HTL
      have hx2 : (explE f == 0) = true := by simp [hx]
      clear hx
      go_wp2_with fail
      refine (parseFinding_c (explL f) _ HLN.out (HW.out.ext ED.out)).mono ?_
      rintro e wE ⟨rfl, eE⟩
      rw [HP1.out, HP2.out]
      have FE := hid (FD.out.ext eE)
      have EE := hid (ED.out.ext eE)
      clear eE FD ED
      go_wp2_with (first | (refine wpl_storew rfl _ (.tmp 9) _ rfl rfl rfl (Blk.mk_alloc (vs := fvs zeroF) rfl rfl) agg_find rfl (fvs_len f) (fvs_one f) ?_))
      intro w8 b8 u8
      have e8 : Ext wE w8 := u8.ext ((Ext.refl wE).alloc _) (Nat.le_refl _)
      have B8 := hid b8
      clear b8 u8
      have F8 := hid (FE.out.ext e8)
      have E8 := hid (EE.out.ext e8)
      clear e8 FE EE
      go_wp2_with (first | (refine wpl_loadw rfl 24 (.tmp 9) rfl rfl B8.out agg_find (fvs_len f) ?_) | (refine wpl_loadw rfl 24 (.tmp 2) rfl rfl F8.out agg_find (fvs_len f) ?_) | (refine wpg_cmp rfl .neq 24 _ _ _ rfl rfl rfl guard_find (find_neq f) ?_))
      go_meet
      exact ⟨F8.out, E8.out⟩
    · have hx2 : (explE f == 0) = false := by simp [hx]
      clear hx
      go_wp2
      go_meet
      exact ⟨FD.out, ED.out⟩
  case rest =>
  obtain ⟨fc, ec⟩ := hcut
  clear HPT HTL HLN FD ED
  have FC := hid fc
  have EC := hid ec
  clear fc ec
  go_wp2_with fail
  refine (parseFinding_c s _ HS.out (HW.out.ext EC.out)).mono ?_
  rintro e wE ⟨rfl, eE⟩
  have FE := hid (FC.out.ext eE)
  have EE := hid (EC.out.ext eE)
  clear eE FC EC
  have HNO := hid (fun h => parseF_no (s := s) h)
  have HYES := hid (fun h => parseF_yes (s := s) h)
  generalize hg : parseF s = g at *
  generalize he : parseFE s = pe at *
  clear hg he
  go_wp2_with (first | (refine wpl_storew rfl _ (.tmp 11) _ rfl rfl rfl (Blk.mk_alloc (vs := fvs zeroF) rfl rfl) agg_find rfl (fvs_len g) (fvs_one g) ?_))
  intro w8 b8 u8
  have e8 : Ext wE w8 := u8.ext ((Ext.refl wE).alloc _) (Nat.le_refl _)
  have B8 := hid b8
  clear b8 u8
  have F8 := hid (FE.out.ext e8)
  have E8 := hid (EE.out.ext e8)
  clear e8 FE EE
  generalize wE.heap.size = g8 at *
  by_cases hx : pe = 0
  · obtain ⟨y1, y2⟩ := HYES.out hx
    have Y1 := hid y1
    have HXL := hid (show explL g = s by unfold explL; rw [if_pos y1]; exact y2)
    have hx2 : (pe != 0) = false := by simp [hx]
    clear hx y1 y2 HYES HNO
    go_wp2_with (refine wpl_loadw rfl 24 (.tmp 11) rfl rfl B8.out agg_find (fvs_len g) ?_)
    refine (rexplain_c g _ HPB.out (HW.out.ext E8.out)).mono ?_
    rintro e wF ⟨rfl, eF⟩
    rw [Y1.out, HXL.out]
    have EF := hid (E8.out.ext eF)
    go_wp2
    go_ret
    exact ⟨rfl, EF.out⟩
  · obtain ⟨y1, y2⟩ := HNO.out hx
    subst y2
    subst y1
    clear hx HYES HNO
    go_wp2_with (first | (refine wpg_loadw rfl 24 (.tmp 11) rfl rfl B8.out agg_find (fvs_len zeroF) ?_) | (refine wpg_cmp rfl .eql 24 _ _ _ rfl rfl rfl guard_find (find_eql zeroF) ?_))
    go_ret
    exact ⟨rfl, E8.out⟩
end Go.Proofs.YthfddfgncolnbaaDoor
