/- Contracts and laws that the claim's row leans on (3 texts, joined): keyref1.World; conditions: the policy's memory, its check says OK. slices.Grow (of nil) and Concat at rules; conditions: the lengths. keyref1.Decide; conditions: the memory of both, and that both are right. -/
import Derived.Test.YthfddfgncolnbaaGreatJ5
import Derived.Deep.DeepCutAuto
namespace Go.Proofs.YthfddfgncolnbaaGreat
section
open Go Go.RowKit Go.Maps Go.MapKept Go.WideShapes

theorem bs_map (l : List ByteArray) : (l.map bs).map sv = l.map encStr := by
  rw [List.map_map]
  exact List.map_congr_left fun s _ => bs_str s
theorem sv_oneW (l : List (List UInt8)) : ∀ v ∈ l.map sv, v.oneCell' = true := by
  intro v hv
  obtain ⟨x, _, rfl⟩ := List.mem_map.1 hv
  rfl
theorem iv_oneW (l : List Int) : ∀ v ∈ l.map iv, v.oneCell' = true := by
  intro v hv
  obtain ⟨x, _, rfl⟩ := List.mem_map.1 hv
  rfl
theorem filter_take {α : Type} {l : List α} {j : Nat} {x : α} (p : α → Bool) (h : l[j]? = some x) : (l.take (j + 1)).filter p = (l.take j).filter p ++ (if p x = true then [x] else []) := by
  rw [List.take_add_one, h, List.filter_append]
  congr 1
  simp only [Option.toList_some, List.filter_cons, List.filter_nil]
theorem flat_takeW {α β : Type} {l : List α} {j : Nat} {x : α} (f : α → List β) (h : l[j]? = some x) : (l.take (j + 1)).flatMap f = (l.take j).flatMap f ++ f x := by
  rw [List.take_add_one, h, List.flatMap_append]
  simp

set_option maxRecDepth 100000 in
set_option maxHeartbeats 8000000 in
theorem rWorld_c (pa : Option Addr) (pn pc : Nat) (rs : List RuleR) (w : World) (hp : PolOk w pa pn pc rs) (hE : polE rs pn = 0) :
    Calls Tryz.prog 9 #[.agg #[.slice pa pn pc]] w fun e w' => (¬ szW rs ≤ 100000 ∧ e = .returned (.tuple #[.slice none 0 0, .bool false]) ∧ Ext w w') ∨
      (szW rs ≤ 100000 ∧ ∃ v xs, e = .returned (.tuple #[v, .bool true]) ∧ AsksI w' w.heap.size v xs ∧ xs.map AskR.p = worldP rs ∧ Ext w w') := by
  obtain ⟨h100, hz⟩ := polE_zero hE
  have hrl : rs.length ≤ 100 := by rw [hp.hl]; exact h100
  have HPO := hid hp
  have HZ := hid hz
  clear hp hE hz
  go_enter Tryz.func9, Tryz.ntmps9
  go_upto_region 3 with (fail)
  generalize hwA : World.alloc (World.alloc w _) _ = wA
  have bA : Blk wA w.heap.size [.slice pa pn pc] 24 := by rw [← hwA]; exact (Blk.mk_alloc rfl rfl).alloc _
  have iA : Blk wA (w.heap.size + 1) [.int .i64 0] 3 := by rw [← hwA]; exact blk_two _ _ _ _
  have eA : Ext w wA := by rw [← hwA]; exact ((Ext.refl w).alloc _).alloc _
  have IA : Hid (RInvW wA w.heap.size (.slice none 0 0) [] (.slice none 0 0) [] (.slice (some ⟨w.heap.size + 1, 0, none⟩) 1 1) [0]) := hid ⟨⟨rfl, .inl ⟨rfl, rfl⟩⟩, ⟨rfl, .inl ⟨rfl, rfl⟩⟩, own_mkS (rest := []) (by simpa using iA) (by simp) (by simp) (by omega) (Nat.le_refl _) (by decide), Apart.nil 0⟩
  have BA := hid bA
  have EA := hid eA
  have HTS := hid elem_str
  have HTI := hid elem_int
  clear hwA bA iA eA
  have hwA := EA.out.size
  go_wp2_with (refine wpl_appendN (m := 2) (c := 2) (news := [[], [120]].map sv) HTS.out rfl _ _ rfl w.heap.size rfl rfl (IA.out.ext ((Ext.refl wA).alloc _)).r5 rfl (Cells.of_blk0 (Blk.mk_alloc (T := 9) rfl rfl)) (sv_oneW _) (by simp) (by simp) (by rw [size_allocW]; omega) ?_)
  intro v5 wB ho hg hb
  have IB := hid ((IA.out.ext ((Ext.refl wA).alloc _)).push5 (news := [[], [120]]) rfl ho hg (by rw [size_allocW]; exact hb))
  have EB := hid ((IA.out.ext ((Ext.refl wA).alloc _)).ext5 (EA.out.alloc _) (Nat.le_refl _) hg)
  have BB := hid ((BA.out.alloc _).besides ((IA.out.ext ((Ext.refl wA).alloc _)).r5) hg (by decide))
  rw [show ([] : List (List UInt8)) ++ [[], [120]] = labW refLab (rs.take 0) by simp [labW]] at IB
  clear ho hg hb IA EA BA hwA
  have c0 := BB.out.cell' (i := 0) rfl
  go_wp2
  go_loopw [4, 5, 6, 37] (fun v4 v5 v6 i wr => ∃ (k : Nat) (l4 l5 : List (List UInt8)) (l6 : List Int), k ≤ pn ∧ i = .int .i64 (k : Int) ∧ RInvW wr w.heap.size v4 l4 v5 l5 v6 l6 ∧ l4 = rolesW (rs.take k) ∧ l5 = labW refLab (rs.take k) ∧ l6 = houW (rs.take k) ∧ l4.length ≤ 17 * k ∧ l5.length ≤ 2 + 32 * k ∧ l6.length ≤ 1 + 2 * k ∧ Ext w wr) (fun _ _ _ i _ => pn - (intOf i).toNat)
  case atStart => exact ⟨0, [], _, _, by omega, rfl, IB.out, by simp [rolesW], rfl, by simp [houW], by simp, by simp [labW], by simp, EB.out⟩
  case round =>
    obtain ⟨k, l4, l5, l6, hk, rfl, hinv, h4, h5, h6, n4, n5, n6, e1⟩ := hrel
    have E1 := hid e1
    have INV := hid hinv
    have H4 := hid h4
    have H5 := hid h5
    have H6 := hid h6
    clear e1 hinv h4 h5 h6 IB EB BB
    by_cases hlt : k < pn
    · obtain ⟨r, hrk⟩ : ∃ r, rs[k]? = some r := ⟨rs[k]'(by rw [HPO.out.hl]; exact hlt), by simp⟩
      obtain ⟨A, rfl, hca⟩ := (HPO.out.ext E1.out).at hrk
      have HCA := hid hca
      have hrz := HZ.out r (List.mem_of_getElem? hrk)
      have HOK := hid (HPO.out.ok r (List.mem_of_getElem? hrk))
      obtain ⟨hr16, han16, hl16⟩ := ruleE_k1 hrz
      have HRZ := hid hrz
      have HRL := hid (RuleR.len r)
      have HRK := hid hrk
      clear hca hrk hrz
      have hro := ruleV_one r
      have HAG := hid agg_rule
      go_wp2_with (first | (refine wpl_run rfl (exec_index (i := k) rfl rfl rfl Tryz.underlying22 size_rule hlt _) ?_) | (refine wpl_run rfl (exec_load_at rfl rfl HCA.out HAG.out HRL.out) ?_) | (refine wpl_storew rfl _ (.tmp 8) _ rfl rfl rfl (Blk.mk_alloc (vs := zeroRule) rfl rfl) HAG.out rfl HRL.out hro ?_))
      intro wB bB uB
      have eB : Ext wr wB := uB.ext ((Ext.refl wr).alloc _) (Nat.le_refl _)
      have BB := hid bB
      have EB := hid (E1.out.ext eB)
      have INB := hid (INV.out.ext eB)
      clear bB uB eB HCA INV E1
      generalize wr.heap.size = gr at *
      have c1 := BB.out.cell' (i := 1) rfl
      have hrcell : Cells wB r.ra ((r.roles.map bs).map sv) := by rw [bs_map]; exact (HOK.out.ext EB.out).rcell
      have HRC := hid hrcell
      have hrlen : ((r.roles.map bs).map sv).length = r.rn * 1 := by rw [List.length_map, List.length_map, HOK.out.rl, Nat.mul_one]
      have hwB := EB.out.size
      clear hrcell
      go_wp2_with (refine wpl_appendN (m := r.rn) (c := r.rc) (news := (r.roles.map bs).map sv) HTS.out rfl _ _ rfl w.heap.size rfl rfl INB.out.r4 hrlen HRC.out (sv_oneW _) (by omega) (by omega) hwB ?_)
      intro v4 wC ho hg hb
      have INC := hid (INB.out.push4 (m := r.rn) (news := r.roles.map bs) (by rw [List.length_map]; exact HOK.out.rl) (by rw [List.map_map]; exact ho) hg hb)
      have EC := hid (INB.out.ext4 EB.out (Nat.le_refl _) hg)
      have BC := hid (BB.out.besides INB.out.r4 hg (by decide))
      clear ho hg hb INB EB BB HRC c1
      have c7 := BC.out.cell' (i := 7) rfl
      obtain ⟨M4, hM4⟩ : ∃ M4, l4 ++ r.roles.map bs = M4 := ⟨_, rfl⟩
      have HM4 := hid hM4
      rw [hM4] at INC
      clear hM4
      go_upto_if 47 with (fail)
      obtain ⟨L4, hL4⟩ : ∃ x, rolesW (rs.take (k + 1)) = x := ⟨_, rfl⟩
      have HL4 := hid hL4
      have hL4e : L4 = M4 ++ (if emptyB r.ow then [] else [bs r.ow]) := by
        rw [← hL4, rolesW_succ HRK.out, ← HM4.out, H4.out]
        unfold roleWords
        simp
      have HL4E := hid hL4e
      have hl4n : M4.length ≤ 17 * k + 16 := by rw [← HM4.out, List.length_append, List.length_map, HOK.out.rl]; omega
      clear hL4 hL4e
      go_cut [4] (fun v4 wx => RInvW wx w.heap.size v4 L4 u5 l5 u6 l6 ∧ L4.length ≤ 17 * (k + 1) ∧ Blk wx gr r.v 50 ∧ Ext w wx)
      case first =>
        cases hem : emptyB r.ow with
        | true =>
          have hLe : L4 = M4 := by rw [HL4E.out, hem]; simp
          have HLe := hid hLe
          unfold emptyB at hem
          rw [hem]
          clear hLe
          go_wp2_with fail
          go_meet
          rw [HLe.out]
          exact ⟨INC.out, by omega, BC.out, EC.out⟩
        | false =>
          have hLe : L4 = M4 ++ [bs r.ow] := by rw [HL4E.out, hem]; simp
          have HLe := hid hLe
          unfold emptyB at hem
          rw [hem]
          have hwC := EC.out.size
          clear hLe
          go_wp2_with (refine wpl_appendN (m := 1) (c := 1) (news := [bs r.ow].map sv) HTS.out rfl _ _ rfl w.heap.size rfl rfl (INC.out.ext ((Ext.refl wC).alloc _)).r4 rfl (Cells.of_blk0 (Blk.mk_alloc (T := 9) rfl rfl)) (sv_oneW _) (by omega) (by omega) (by rw [size_allocW]; omega) ?_)
          intro v4' wD ho hg hb
          have IND := hid ((INC.out.ext ((Ext.refl wC).alloc _)).push4 (news := [bs r.ow]) rfl ho hg (by rw [size_allocW]; exact hb))
          have ED := hid ((INC.out.ext ((Ext.refl wC).alloc _)).ext4 (EC.out.alloc _) (Nat.le_refl _) hg)
          have BD := hid ((BC.out.alloc _).besides ((INC.out.ext ((Ext.refl wC).alloc _)).r4) hg (by decide))
          clear ho hg hb INC EC BC
          go_wp2_with fail
          go_meet
          rw [HLe.out]
          exact ⟨IND.out, by rw [List.length_append, List.length_singleton]; omega, BD.out, ED.out⟩
      case rest =>
      obtain ⟨hinD, hn4D, hbD, heD⟩ := hcut
      have IND := hid hinD
      have BD := hid hbD
      have ED := hid heD
      have c3 := BD.out.cell' (i := 3) rfl
      clear hinD hbD heD INC BC EC c7 HL4E
      have HPR := hid (ruleE_labels HRZ.out)
      clear han16 hrlen hwB HM4 hl4n
      go_wp2
      go_loopw [5, 56] (fun v5 i wx => ∃ (j : Nat) (l5' : List (List UInt8)), j ≤ r.ln ∧ i = .int .i64 (j : Int) ∧ RInvW wx w.heap.size u4 L4 v5 l5' u6 l6 ∧ l5' = l5 ++ (r.labels.take j).flatMap (fun s => refLab (bs s)) ∧ l5'.length ≤ 2 + 32 * k + 2 * j ∧ Blk wx gr r.v 50 ∧ Ext w wx) (fun _ i _ => r.ln - (intOf i).toNat)
      case atStart => exact ⟨0, l5, by omega, rfl, IND.out, by simp, by omega, BD.out, ED.out⟩
      case round =>
        obtain ⟨j, l5', hj, rfl, hinv, hl5, hn5, hbb, e2⟩ := hrel
        have INV := hid hinv
        have HL5 := hid hl5
        have BB := hid hbb
        have E2 := hid e2
        clear hinv hl5 hbb e2 IND BD ED
        by_cases hjt : j < r.ln
        · have OK2 := hid (HOK.out.ext E2.out)
          obtain ⟨s, hsj⟩ : ∃ s, r.labels[j]? = some s := ⟨r.labels[j]'(by rw [OK2.out.ll]; exact hjt), by simp⟩
          obtain ⟨A2, hA2, hcs⟩ := strs_at OK2.out.lcell hsj
          rw [Nat.mul_one] at hcs
          have hsz := OK2.out.ls s (List.mem_of_getElem? hsj)
          have hps := HPR.out s (List.mem_of_getElem? hsj)
          obtain ⟨H, hH⟩ : ∃ H, headL (bs s) = H := ⟨_, rfl⟩
          have hHl : H.length ≤ 32 := by rw [← hH]; exact pat_len hps
          have HCUT : Hid (∀ W, Calls Tryz.prog 27 #[.string s, .string ⟨#[42]⟩] W fun e W' => e = .returned (.tuple #[.string (strOf H), .bool (starL (bs s))]) ∧ W' = W) := hid (fun W => by
            rw [← hH]
            exact cutSuffix_c s ⟨#[42]⟩ W (by omega))
          have HTK : Hid ((r.labels.take (j + 1)).flatMap (fun s => refLab (bs s)) = (r.labels.take j).flatMap (fun s => refLab (bs s)) ++ refLab (bs s)) := hid (flat_takeW _ hsj)
          have HRF : Hid (refLab (bs s) = if starL (bs s) then [H, H ++ [120]].filter isNameL else [bs s]) := hid (by unfold refLab; rw [hH])
          have hcl : H.length + ([120] : List UInt8).length ≤ 9223372036854775807 := by simp; omega
          have hw2 := E2.out.size
          rw [hA2]
          clear hsj hps hH OK2
          cases hst : starL (bs s) with
          | false =>
            rw [hst] at HCUT HRF
            go_wp2_with fail
            refine (HCUT.out _).mono ?_
            rintro e w1 ⟨rfl, rfl⟩
            go_wp2_with (refine wpl_appendN (m := 1) (c := 1) (news := [bs s].map sv) HTS.out rfl _ _ rfl w.heap.size rfl rfl (INV.out.ext ((Ext.refl _).alloc _)).r5 rfl (Cells.of_blk0 (Blk.mk_alloc (T := 9) rfl rfl)) (sv_oneW _) (by omega) (by omega) (by rw [size_allocW]; omega) ?_)
            intro v5' wD ho hg hb
            have IND := hid ((INV.out.ext ((Ext.refl _).alloc _)).push5 (news := [bs s]) rfl ho hg (by rw [size_allocW]; exact hb))
            have ED := hid ((INV.out.ext ((Ext.refl _).alloc _)).ext5 (E2.out.alloc _) (Nat.le_refl _) hg)
            have BD := hid ((BB.out.alloc _).besides ((INV.out.ext ((Ext.refl _).alloc _)).r5) hg (by decide))
            have HL5' : Hid (l5' ++ [bs s] = l5 ++ (r.labels.take (j + 1)).flatMap (fun s => refLab (bs s))) := hid (by rw [HTK.out, HRF.out, HL5.out]; simp)
            have hn5' : (l5' ++ [bs s]).length ≤ 2 + 32 * k + 2 * (j + 1) := by rw [List.length_append, List.length_singleton]; omega
            clear ho hg hb INV E2 BB HTK HRF HL5 HCUT hcs
            go_wp2
            go_roundw
            case rel => exact ⟨j + 1, _, by omega, by go_num, IND.out, HL5'.out, hn5', BD.out, ED.out⟩
            case measure => simp [intOf]; omega
          | true =>
            rw [hst] at HCUT HRF
            obtain ⟨X, hX⟩ : ∃ X, H ++ [120] = X := ⟨_, rfl⟩
            have hXl : X.length ≤ 33 := by rw [← hX, List.length_append, List.length_singleton]; omega
            rw [hX, if_pos rfl] at HRF
            have HN : Hid (∀ x : List UInt8, x.length ≤ 33 → ∀ W, Calls Tryz.prog 28 #[.string (strOf x)] W fun e W' => e = .returned (.bool (isNameL x)) ∧ Ext W W') := hid (fun x hx W => by
              have := risName_c (strOf x) W (by rw [sizeOf_str]; omega)
              rwa [show (strOf x).data.toList = x by unfold strOf; simp] at this)
            go_wp2_with fail
            refine (HCUT.out _).mono ?_
            rintro e w1 ⟨rfl, rfl⟩
            go_upto_region 16 with (fail)
            go_wp2_with (first | (refine wpl_run rfl (exec_catR hX rfl rfl rfl hcl _) ?_))
            generalize hwL : World.alloc w1 _ = wL
            have eL : Ext w1 wL := by rw [← hwL]; exact (Ext.refl w1).alloc _
            have bL : Blk wL w1.heap.size ([H, X].map sv) 9 := by rw [← hwL]; exact Blk.mk_alloc rfl rfl
            obtain ⟨gl, hgl⟩ : ∃ gl, w1.heap.size = gl := ⟨_, rfl⟩
            rw [hgl] at bL
            have LIT : Hid (wL.ownsRow 0 9 1 (.slice (some ⟨gl, 0, none⟩) 2 2) 2 ([H, X].map sv)) := hid (own_mkS (rest := []) (by simpa using bL) (by simp) (by simp) (Nat.zero_le _) (Nat.le_refl _) (by decide))
            have AP5 : Hid (Apart u5 (.slice (some ⟨gl, 0, none⟩) 2 2)) := hid (fun g h1 h2 => by
              have h3 := (INV.out.r5.lt g h1).2
              simp only [Value.ownBlock, Option.some.injEq] at h2
              omega)
            have INL := hid (INV.out.ext eL)
            have BL := hid (BB.out.ext eL)
            have EL := hid (E2.out.ext eL)
            rw [hgl]
            clear hwL eL bL INV BB E2 hcs hX hcl hgl
            go_loopw [5, 76] (fun v5 i wx => ∃ (q : Nat) (m5 : List (List UInt8)), q ≤ 2 ∧ i = .int .i64 (q : Int) ∧ RInvW wx w.heap.size u4 L4 v5 m5 u6 l6 ∧ m5 = l5' ++ ([H, X].take q).filter isNameL ∧ m5.length ≤ 2 + 32 * k + 2 * j + q ∧ Blk wx gr r.v 50 ∧ wx.ownsRow 0 9 1 (.slice (some ⟨gl, 0, none⟩) 2 2) 2 ([H, X].map sv) ∧ Apart v5 (.slice (some ⟨gl, 0, none⟩) 2 2) ∧ Ext w wx) (fun _ i _ => 2 - (intOf i).toNat)
            case atStart => exact ⟨0, l5', by omega, rfl, INL.out, by simp, by omega, BL.out, LIT.out, AP5.out, EL.out⟩
            case round =>
              obtain ⟨q, m5, hq, rfl, hinv, hm5, hnm, hbb, hlit, hap, e3⟩ := hrel
              have INV := hid hinv
              have HM5 := hid hm5
              have BB := hid hbb
              have LIQ := hid hlit
              have AP := hid hap
              have E3 := hid e3
              clear hinv hm5 hbb hlit hap e3 INL BL LIT AP5 EL
              by_cases hqt : q < 2
              · obtain ⟨x, hxq⟩ : ∃ x, [H, X][q]? = some x := ⟨[H, X][q]'hqt, by simp⟩
                have hxl : x.length ≤ 33 := by
                  rcases (show q = 0 ∨ q = 1 by omega) with rfl | rfl
                  · simp at hxq; subst hxq; omega
                  · simp at hxq; subst hxq; omega
                have hcx : wr.cell? ⟨gl, q, none⟩ = some (sv x) := by
                  rw [LIQ.out.cellAt q (by omega), List.getElem?_map, hxq]
                  rfl
                have hq0 : (⟨gl, 0, none⟩ : Addr).add q = ⟨gl, q, none⟩ := by rw [addr_add, Nat.zero_add]
                have HFT := hid (filter_take isNameL hxq)
                have hw3 := E3.out.size
                clear hxq
                go_wp2_with fail
                refine (HN.out x hxl _).mono ?_
                rintro e w4 ⟨rfl, e4⟩
                have INV4 := hid (INV.out.ext e4)
                have BB4 := hid (BB.out.ext e4)
                have LIQ4 := hid (own_extW LIQ.out e4)
                have E4 := hid (E3.out.ext e4)
                have hw4 := E4.out.size
                clear INV BB LIQ E3 e4 hcx hq0 hw3
                cases hx : isNameL x with
                | false =>
                  have HM5' : Hid (m5 = l5' ++ ([H, X].take (q + 1)).filter isNameL) := hid (by rw [HFT.out, HM5.out, hx]; simp)
                  clear HM5 HFT hx
                  go_wp2
                  go_roundw
                  case rel => exact ⟨q + 1, m5, by omega, by go_num, INV4.out, HM5'.out, by omega, BB4.out, LIQ4.out, AP.out, E4.out⟩
                  case measure => simp [intOf]; omega
                | true =>
                  have HM5' : Hid (m5 ++ [x] = l5' ++ ([H, X].take (q + 1)).filter isNameL) := hid (by rw [HFT.out, HM5.out, hx]; simp)
                  have hnm' : (m5 ++ [x]).length ≤ 2 + 32 * k + 2 * j + (q + 1) := by rw [List.length_append, List.length_singleton]; omega
                  clear HM5 HFT hx
                  go_wp2_with (refine wpl_appendN (m := 1) (c := 1) (news := [x].map sv) HTS.out rfl _ _ rfl w.heap.size rfl rfl (INV4.out.ext ((Ext.refl _).alloc _)).r5 rfl (Cells.of_blk0 (Blk.mk_alloc (T := 9) rfl rfl)) (sv_oneW _) (by omega) (by omega) (by rw [size_allocW]; omega) ?_)
                  intro v5' wD ho hg hb
                  have IND := hid ((INV4.out.ext ((Ext.refl _).alloc _)).push5 (news := [x]) rfl ho hg (by rw [size_allocW]; exact hb))
                  have ED := hid ((INV4.out.ext ((Ext.refl _).alloc _)).ext5 (E4.out.alloc _) (Nat.le_refl _) hg)
                  have BD := hid ((BB4.out.alloc _).besides ((INV4.out.ext ((Ext.refl _).alloc _)).r5) hg (by decide))
                  have APD := hid (Apart.append AP.out (LIQ4.out.alloc (.cells #[sv x] 9)) (by rw [size_allocW]; exact hb))
                  have LID := hid (Apart.keep AP.out (LIQ4.out.alloc _) hg)
                  clear ho hg hb INV4 E4 BB4 AP LIQ4
                  go_wp2
                  go_roundw
                  case rel => exact ⟨q + 1, _, by omega, by go_num, IND.out, HM5'.out, hnm', BD.out, LID.out, APD.out, ED.out⟩
                  case measure => simp [intOf]; omega
              · obtain rfl : q = 2 := by omega
                have HL5' : Hid (m5 = l5 ++ (r.labels.take (j + 1)).flatMap (fun s => refLab (bs s))) := hid (by
                  rw [HTK.out, HRF.out, HM5.out, HL5.out, List.append_assoc]
                  rfl)
                clear HM5 HTK HRF HL5 HN HCUT LIQ AP
                go_wp2
                go_roundw
                case rel => exact ⟨j + 1, _, by omega, by go_num, INV.out, HL5'.out, by omega, BB.out, E3.out⟩
                case measure => simp [intOf]; omega
        · obtain rfl : j = r.ln := by omega
          obtain ⟨L5, hL5⟩ : ∃ x, labW refLab (rs.take (k + 1)) = x := ⟨_, rfl⟩
          have hle : l5' = L5 := by
            rw [← hL5, labW_succ HRK.out, ← H5.out, HL5.out, List.take_of_length_le (by rw [HOK.out.ll]; exact Nat.le_refl _)]
            rfl
          subst hle
          have HL5' := hid hL5
          have hn5' : l5'.length ≤ 2 + 32 * (k + 1) := by omega
          have c4 := BB.out.cell' (i := 4) rfl
          have c5 := BB.out.cell' (i := 5) rfl
          clear hL5 HL5
          go_wp2
          generalize hwL : World.alloc wr _ = wL
          have eL : Ext wr wL := by rw [← hwL]; exact (Ext.refl wr).alloc _
          have bL : Blk wL wr.heap.size ([r.fr, r.tt].map iv) 3 := by rw [← hwL]; exact Blk.mk_alloc rfl rfl
          obtain ⟨gl, hgl⟩ : ∃ gl, wr.heap.size = gl := ⟨_, rfl⟩
          rw [hgl] at bL
          have LIT : Hid (wL.ownsRow 0 3 1 (.slice (some ⟨gl, 0, none⟩) 2 2) 2 ([r.fr, r.tt].map iv)) := hid (own_mkS (rest := []) (by simpa using bL) (by simp) (by simp) (Nat.zero_le _) (Nat.le_refl _) (by decide))
          have AP6 : Hid (Apart u6 (.slice (some ⟨gl, 0, none⟩) 2 2)) := hid (fun g h1 h2 => by
            have h3 := (INV.out.r6.lt g h1).2
            simp only [Value.ownBlock, Option.some.injEq] at h2
            omega)
          have INL := hid (INV.out.ext eL)
          have EL := hid (E2.out.ext eL)
          rw [hgl]
          clear hwL eL bL INV BB E2 hgl c4 c5
          go_loopw [6, 94] (fun v6 i wx => ∃ (q : Nat) (m6 : List Int), q ≤ 2 ∧ i = .int .i64 (q : Int) ∧ RInvW wx w.heap.size u4 L4 u5 l5' v6 m6 ∧ m6 = l6 ++ ([r.fr, r.tt].take q).filter (fun h => decide (h < 24)) ∧ m6.length ≤ 1 + 2 * k + q ∧ wx.ownsRow 0 3 1 (.slice (some ⟨gl, 0, none⟩) 2 2) 2 ([r.fr, r.tt].map iv) ∧ Apart v6 (.slice (some ⟨gl, 0, none⟩) 2 2) ∧ Ext w wx) (fun _ i _ => 2 - (intOf i).toNat)
          case atStart => exact ⟨0, l6, by omega, rfl, INL.out, by simp, by omega, LIT.out, AP6.out, EL.out⟩
          case round =>
            obtain ⟨q, m6, hq, rfl, hinv, hm6, hnm, hlit, hap, e3⟩ := hrel
            have INV := hid hinv
            have HM6 := hid hm6
            have LIQ := hid hlit
            have AP := hid hap
            have E3 := hid e3
            clear hinv hm6 hlit hap e3 INL LIT AP6 EL
            by_cases hqt : q < 2
            · obtain ⟨z, hzq⟩ : ∃ z, [r.fr, r.tt][q]? = some z := ⟨[r.fr, r.tt][q]'hqt, by simp⟩
              have hcx : wr.cell? ⟨gl, q, none⟩ = some (.int .i64 z) := by
                rw [LIQ.out.cellAt q (by omega), List.getElem?_map, hzq]
                rfl
              have hq0 : (⟨gl, 0, none⟩ : Addr).add q = ⟨gl, q, none⟩ := by rw [addr_add, Nat.zero_add]
              have HFT := hid (filter_take (fun h => decide (h < 24)) hzq)
              have hw3 := E3.out.size
              clear hzq
              by_cases hz : z < 24
              · have dz : decide (z < 24) = true := decide_eq_true hz
                have HM6' : Hid (m6 ++ [z] = l6 ++ ([r.fr, r.tt].take (q + 1)).filter (fun h => decide (h < 24))) := hid (by rw [HFT.out, HM6.out, dz]; simp)
                have hnm' : (m6 ++ [z]).length ≤ 1 + 2 * k + (q + 1) := by rw [List.length_append, List.length_singleton]; omega
                clear HM6 HFT
                go_wp2_with (refine wpl_appendN (m := 1) (c := 1) (news := [z].map iv) HTI.out rfl _ _ rfl w.heap.size rfl rfl (INV.out.ext ((Ext.refl _).alloc _)).r6 rfl (Cells.of_blk0 (Blk.mk_alloc (T := 3) rfl rfl)) (iv_oneW _) (by omega) (by omega) (by rw [size_allocW]; omega) ?_)
                intro v6' wD ho hg hb
                have IND := hid ((INV.out.ext ((Ext.refl _).alloc _)).push6 (zs := [z]) rfl ho hg)
                have ED := hid ((INV.out.ext ((Ext.refl _).alloc _)).ext6 (E3.out.alloc _) (Nat.le_refl _) hg)
                have APD := hid (Apart.append AP.out (LIQ.out.alloc (.cells #[iv z] 3)) (by rw [size_allocW]; exact hb))
                have LID := hid (Apart.keep AP.out (LIQ.out.alloc _) hg)
                clear ho hg hb INV E3 AP LIQ hcx hq0 dz
                go_wp2
                go_roundw
                case rel => exact ⟨q + 1, _, by omega, by go_num, IND.out, HM6'.out, hnm', LID.out, APD.out, ED.out⟩
                case measure => simp [intOf]; omega
              · have dz : decide (z < 24) = false := decide_eq_false hz
                have HM6' : Hid (m6 = l6 ++ ([r.fr, r.tt].take (q + 1)).filter (fun h => decide (h < 24))) := hid (by rw [HFT.out, HM6.out, dz]; simp)
                clear HM6 HFT
                go_wp2
                go_roundw
                case rel => exact ⟨q + 1, m6, by omega, by go_num, INV.out, HM6'.out, by omega, LIQ.out, AP.out, E3.out⟩
                case measure => simp [intOf]; omega
            · obtain rfl : q = 2 := by omega
              have HM6' : Hid (m6 = houW (rs.take (k + 1))) := hid (by
                rw [houW_succ HRK.out, HM6.out, H6.out]
                rfl)
              have H4' : Hid (L4 = rolesW (rs.take (k + 1))) := hid HL4.out.symm
              have H5' : Hid (l5' = labW refLab (rs.take (k + 1))) := hid HL5'.out.symm
              clear HM6 HL4 HL5' LIQ AP H4 H5 H6
              go_wp2
              go_roundw
              case rel => exact ⟨k + 1, L4, l5', m6, by omega, by go_num, INV.out, H4'.out, H5'.out, HM6'.out, by omega, by omega, by omega, E3.out⟩
              case measure => simp [intOf]; omega
    · obtain rfl : k = pn := by omega
      have H4' : Hid (l4 = rolesW rs) := hid (by rw [H4.out, List.take_of_length_le (by rw [HPO.out.hl]; exact Nat.le_refl _)])
      have H5' : Hid (l5 = labW refLab rs) := hid (by rw [H5.out, List.take_of_length_le (by rw [HPO.out.hl]; exact Nat.le_refl _)])
      have H6' : Hid (l6 = houW rs) := hid (by rw [H6.out, List.take_of_length_le (by rw [HPO.out.hl]; exact Nat.le_refl _)])
      have HSM := hid (labsOf_small HZ.out)
      have HSM4 : Hid (∀ x ∈ l4, x.length ≤ 140737488355328) := hid (by
        intro x hx
        rw [H4'.out] at hx
        unfold rolesW roleWords at hx
        simp only [List.mem_flatMap, List.mem_append, List.mem_map] at hx
        obtain ⟨r, hr, hx⟩ := hx
        have hok := HPO.out.ok r hr
        rcases hx with ⟨s, hs, rfl⟩ | hx
        · rw [bs_len]; exact hok.rs s hs
        · split at hx
          · cases hx
          · rw [List.mem_singleton] at hx
            subst hx
            rw [bs_len]; exact hok.os)
      have HH24 := hid (hoursW_in (rs := rs) (fun r hr => ruleE_24 (HZ.out r hr)))
      clear H4 H5 H6 c0 HPO HZ
      go_wp2_with fail
      refine (sortStr_c INV.out.r4 (by omega)).mono ?_
      rintro e w1 ⟨rfl, ho, hg⟩
      have E2 := hid (INV.out.ext4 E1.out (Nat.le_refl _) hg)
      have INV2 := hid (INV.out.set4 (sortL_len l4) ho hg rfl)
      clear ho hg INV E1
      go_wp2_with fail
      refine (compStr_c INV2.out.r4 (by rw [sortL_len]; omega)).mono ?_
      rintro e w2 ⟨v4, rfl, ho, hg, hb⟩
      have hc4 : Lib.compact (sortL l4) = canL l4 := by rw [comp_dd]; rfl
      rw [hc4] at ho
      have E3 := hid (INV2.out.ext4 E2.out (Nat.le_refl _) hg)
      have INV3 := hid (INV2.out.set4 rfl ho hg hb)
      clear ho hg hb INV2 E2 hc4
      go_wp2_with fail
      refine (sortStr_c INV3.out.r5 (by omega)).mono ?_
      rintro e w3 ⟨rfl, ho, hg⟩
      have E4 := hid (INV3.out.ext5 E3.out (Nat.le_refl _) hg)
      have INV4 := hid (INV3.out.set5 (sortL_len l5) ho hg rfl)
      clear ho hg INV3 E3
      go_wp2_with fail
      refine (compStr_c INV4.out.r5 (by rw [sortL_len]; omega)).mono ?_
      rintro e w4 ⟨v5, rfl, ho, hg, hb⟩
      have hc5 : Lib.compact (sortL l5) = canL l5 := by rw [comp_dd]; rfl
      rw [hc5] at ho
      have E5 := hid (INV4.out.ext5 E4.out (Nat.le_refl _) hg)
      have INV5 := hid (INV4.out.set5 rfl ho hg hb)
      clear ho hg hb INV4 E4 hc5
      go_wp2_with fail
      refine (sortInt_c INV5.out.r6 (by omega)).mono ?_
      rintro e w5 ⟨rfl, ho, hg⟩
      have E6 := hid (INV5.out.ext6 E5.out (Nat.le_refl _) hg)
      have INV6 := hid (INV5.out.set6 (sortI_len l6) ho hg)
      clear ho hg INV5 E5
      go_wp2_with fail
      refine (compInt_c INV6.out.r6 (by rw [sortI_len]; omega)).mono ?_
      rintro e w6 ⟨v6, rfl, ho, hg, hb⟩
      have hc6 : Lib.compact (sortI l6) = canI l6 := by rw [comp_dd]; rfl
      rw [hc6] at ho
      have E7 := hid (INV6.out.ext6 E6.out (Nat.le_refl _) hg)
      have INV7 := hid (INV6.out.set6 rfl ho hg)
      clear ho hg hb INV6 E6 hc6
      have hn4 : (canL l4).length ≤ 1700 := Nat.le_trans (canL_len l4) (by omega)
      have hn5 : (canL l5).length ≤ 3300 := Nat.le_trans (canL_len l5) (by omega)
      have hn6 : (canI l6).length ≤ 300 := Nat.le_trans (canI_len l6) (by omega)
      have HSM4' : Hid (∀ x ∈ canL l4, x.length ≤ 140737488355328) := hid (fun x hx => HSM4.out x ((canL_mem l4 x).1 hx))
      obtain ⟨SS, hSS⟩ : ∃ x, setsOf rs = x := ⟨_, rfl⟩
      obtain ⟨LL, hLL⟩ : ∃ x, labsOf rs = x := ⟨_, rfl⟩
      obtain ⟨HH, hHH⟩ : ∃ x, hoursW rs = x := ⟨_, rfl⟩
      obtain ⟨ro, hro⟩ : ∃ x, canL l4 = x := ⟨_, rfl⟩
      have hLL2 : canL l5 = LL := by rw [H5'.out]; exact hLL
      have hHH2 : canI l6 = HH := by rw [H6'.out]; exact hHH
      have HSW : Hid (setsW ro = SS) := hid (by rw [← hro, H4'.out]; exact hSS)
      have hSz : szW rs = SS.length * 12 * LL.length * HH.length := by unfold szW; rw [hSS, hLL, hHH]
      have hWP : worldP rs = SS.flatMap fun s => actsW.flatMap fun a => LL.flatMap fun l => HH.map fun h => (⟨zer 16, s.map strOf, a, strOf l, zer 16, 3600 * h, zer 32⟩ : AskP) := by unfold worldP; rw [hSS, hLL, hHH]
      rw [hro, hLL2, hHH2] at INV7
      rw [hro] at hn4 HSM4'
      rw [hLL2] at hn5
      rw [hHH2] at hn6
      rw [hLL] at HSM
      rw [hHH] at HH24
      have hL0 : 0 < LL.length := by rw [← hLL]; exact labsOf_pos rs
      have hH0 : 0 < HH.length := by rw [← hHH]; exact hoursW_pos rs
      have hS15 : SS.length ≤ 1500000 := by rw [← HSW.out]; exact setsW_le ro hn4
      obtain ⟨Sz, hSz2⟩ : ∃ n, szW rs = n := ⟨_, rfl⟩
      have hSzz : SS.length * 12 * LL.length * HH.length = Sz := by rw [← hSz2, hSz]
      have HWP := hid hWP
      have HSZ := hid hSz2
      clear hSS hLL hHH hro hLL2 hHH2 hSz hWP hSz2 H4' H5' H6' HSM4 n4 n5 n6
      obtain ⟨a4, c4, rfl, hc4, hx1, hy1⟩ := own_cellsA INV7.out.r4
      obtain ⟨a5, c5, rfl, hc5, hx2, hy2⟩ := own_cellsA INV7.out.r5
      obtain ⟨a6, c6, rfl, hc6, hx3, hy3⟩ := own_cellsA INV7.out.r6
      clear hx1 hx2 hx3 hy1 hy2 hy3
      have hwB := E7.out.size
      have HT := hid elem_sets
      go_upto_region 37 with (fail)
      generalize hwC : World.alloc w6 _ = wC
      have bC : Blk wC w6.heap.size [.slice none 0 0] 36 := by rw [← hwC]; exact Blk.mk_alloc rfl rfl
      have eC : Ext w6 wC := by rw [← hwC]; exact (Ext.refl w6).alloc _
      have PC : Hid (PInvW wC w.heap.size (.slice (some ⟨w6.heap.size, 0, none⟩) 1 1) [⟨none, 0, 0, []⟩] ⟨a4, ro.length, c4, ro⟩ ⟨a5, LL.length, c5, LL⟩ (.slice a6 HH.length c6) HH) := hid
        ⟨⟨own_mkS (rest := []) (by simpa [SetR.v] using bC) (by simp) (by simp) hwB (Nat.le_refl _) (by decide), fun s hs => by rw [List.mem_singleton] at hs; subst hs; exact SetR.Own.nil _⟩,
         ⟨⟨_, own_extW INV7.out.r4 eC⟩, HSM4'.out⟩, ⟨⟨_, own_extW INV7.out.r5 eC⟩, HSM.out⟩, own_extW INV7.out.r6 eC⟩
      have EC := hid (E7.out.ext eC)
      clear hwC bC eC INV7 E7 hwB
      go_wp2
      go_loopw [17, 121] (fun v i wr => ∃ (k : Nat) (ss : List SetR), k ≤ ro.length ∧ i = .int .i64 (k : Int) ∧ PInvW wr w.heap.size v ss ⟨a4, ro.length, c4, ro⟩ ⟨a5, LL.length, c5, LL⟩ (.slice a6 HH.length c6) HH ∧ ss.map SetR.roles = [] :: (ro.take k).map (fun r => [r]) ∧ Ext w wr) (fun _ i _ => ro.length - (intOf i).toNat)
      case atStart => exact ⟨0, _, by omega, rfl, PC.out, rfl, EC.out⟩
      case round =>
        obtain ⟨k, ss, hk, rfl, hinv, hss, e1⟩ := hrel
        have E1 := hid e1
        have INV := hid hinv
        have HSS := hid hss
        clear e1 hinv hss PC EC
        by_cases hlt : k < ro.length
        · obtain ⟨x, hxk⟩ : ∃ x, ro[k]? = some x := ⟨ro[k]'hlt, by simp⟩
          obtain ⟨A2, hA2, hcs⟩ := cells_one (INV.out.o4.ok (by show ro.length ≤ _; omega)).cell (show (ro.map sv)[k]? = some (sv x) by rw [List.getElem?_map, hxk]; rfl)
          rw [Nat.mul_one] at hcs
          have hA3 : a4 = some A2 := hA2
          subst hA3
          have HXK := hid hxk
          have hsl : ss.length + 1 ≤ 140737488355328 := by have := congrArg List.length HSS.out; simp at this; omega
          have hsb : (ss.length + 1) * 24 ≤ 140737488355328 := by have := congrArg List.length HSS.out; simp at this; omega
          have hwr : w.heap.size ≤ wr.heap.size := E1.out.size
          have hwr2 : w.heap.size ≤ wr.heap.size + 1 + 1 := by omega
          clear hxk hA2
          go_wp2_with (refine wpl_appendA (m := 1) (c := 1) (news := [.slice (some ⟨wr.heap.size, 0, none⟩) 1 1]) HT.out rfl _ _ rfl w.heap.size rfl rfl (INV.out.out.ext (((Ext.refl wr).alloc _).alloc _)).row rfl (by decide) (fun h => by cases h) (Cells.of_blk0 (blk_two _ _ _ 36)) (by simp [Value.oneCell']) hsl hsb (by rw [size_allocW, size_allocW]; exact hwr2) ?_)
          intro v' w' ho' hg' _
          have INV' := hid (INV.out.made (l := [x]) rfl (fun y hy => by rw [List.mem_singleton] at hy; subst hy; exact HSM4'.out _ (List.mem_of_getElem? HXK.out)) (by show (1 : Nat) ≤ _; decide) ho' hg')
          have E' := hid ((INV.out.ext (((Ext.refl wr).alloc _).alloc _)).grow ((E1.out.alloc _).alloc _) (Nat.le_refl _) hg')
          have HSS' : Hid ((ss ++ [(⟨some ⟨wr.heap.size, 0, none⟩, 1, 1, [x]⟩ : SetR)]).map SetR.roles = [] :: (ro.take (k + 1)).map (fun r => [r])) := hid (by
            rw [List.map_append, HSS.out, List.take_add_one, HXK.out]
            simp)
          clear ho' hg' hcs HXK hsl hsb hwr hwr2 INV HSS E1
          go_wp2
          go_roundw
          case rel => exact ⟨k + 1, _, by omega, by go_num, INV'.out, HSS'.out, E'.out⟩
          case measure => simp [intOf]; omega
        · obtain rfl : k = ro.length := by omega
          have HS0 : Hid (ss.map SetR.roles = ([] :: ro.map (fun r => [r]))) := hid (by rw [HSS.out, List.take_length])
          obtain ⟨S0, hS0⟩ : ∃ S0, ([] :: ro.map (fun r => [r])) ++ pairsW ro = S0 := ⟨_, rfl⟩
          have HSI : Hid (ss.map SetR.roles ++ pairsW (ro.drop 0) = S0) := hid (by rw [HS0.out, List.drop_zero, hS0])
          have hlenS : S0.length ≤ 1500000 := by
            have := setsW_le ro hn4
            unfold setsW at this
            rw [hS0, List.length_append] at this
            omega
          have HS := hid hS0
          clear HS0 HSS hS0
          go_wp2
          go_loopw [17, 133] (fun v i wr => ∃ (k : Nat) (ss : List SetR), k ≤ ro.length ∧ i = .int .i64 (k : Int) ∧ PInvW wr w.heap.size v ss ⟨a4, ro.length, c4, ro⟩ ⟨a5, LL.length, c5, LL⟩ (.slice a6 HH.length c6) HH ∧ ss.map SetR.roles ++ pairsW (ro.drop k) = S0 ∧ Ext w wr) (fun _ i _ => ro.length - (intOf i).toNat)
          case atStart => exact ⟨0, _, by omega, rfl, INV.out, HSI.out, E1.out⟩
          case round =>
            obtain ⟨k, ss, hk, rfl, hinv, hss, e1⟩ := hrel
            have E1 := hid e1
            have INV := hid hinv
            have HSS := hid hss
            clear e1 hinv hss HSI
            by_cases hlt : k < ro.length
            · obtain ⟨x, hxk⟩ : ∃ x, ro[k]? = some x := ⟨ro[k]'hlt, by simp⟩
              have hA4 : ∃ A2, a4 = some A2 := by
                obtain ⟨A2, hA2, _⟩ := cells_one (INV.out.o4.ok (by show ro.length ≤ _; omega)).cell (show (ro.map sv)[k]? = some (sv x) by rw [List.getElem?_map, hxk]; rfl)
                exact ⟨A2, hA2⟩
              obtain ⟨A2, rfl⟩ := hA4
              have HXK := hid hxk
              have hwk : IntKind.i64.wrap ((k : Int) + 1) = ((k + 1 : Nat) : Int) := by rw [IntWalk.i64_in _ (by omega)]; omega
              have HXZ := hid (HSM4'.out x (List.mem_of_getElem? hxk))
              obtain ⟨R1, hR1⟩ : ∃ R1, pairsW (ro.drop (k + 1)) = R1 := ⟨_, rfl⟩
              have HR1 := hid hR1
              have HSI : Hid (ss.map SetR.roles ++ ((ro.drop (k + 1)).map (fun t => [x, t]) ++ R1) = S0) := hid (by
                have := HSS.out
                rw [pairsW_at hxk, hR1] at this
                exact this)
              clear hxk hR1
              go_wp2
              go_loopw [17, 21] (fun v i wr => ∃ (j : Nat) (ss : List SetR), k + 1 ≤ j ∧ j ≤ ro.length ∧ i = .int .i64 (j : Int) ∧ PInvW wr w.heap.size v ss ⟨some A2, ro.length, c4, ro⟩ ⟨a5, LL.length, c5, LL⟩ (.slice a6 HH.length c6) HH ∧ ss.map SetR.roles ++ ((ro.drop j).map (fun t => [x, t]) ++ R1) = S0 ∧ Ext w wr) (fun _ i _ => ro.length - (intOf i).toNat)
              case atStart => exact ⟨k + 1, _, by omega, by omega, by first | rfl | (simp; done), INV.out, HSI.out, E1.out⟩
              case round =>
                obtain ⟨j, ss, hkj, hj, rfl, hinv, hss, e1⟩ := hrel
                have E1 := hid e1
                have INV := hid hinv
                have HSS := hid hss
                clear e1 hinv hss HSI
                by_cases hjt : j < ro.length
                · obtain ⟨y, hyj⟩ : ∃ y, ro[j]? = some y := ⟨ro[j]'hjt, by simp⟩
                  have HYJ := hid hyj
                  have hsl : ss.length + 1 ≤ 140737488355328 := by
                    have := congrArg List.length HSS.out
                    rw [List.length_append, List.length_map] at this
                    omega
                  have hsb : (ss.length + 1) * 24 ≤ 140737488355328 := by
                    have := congrArg List.length HSS.out
                    rw [List.length_append, List.length_map] at this
                    omega
                  have hwr : w.heap.size ≤ wr.heap.size := E1.out.size
                  have hwr2 : w.heap.size ≤ wr.heap.size + 1 + 1 := by omega
                  clear hyj
                  go_upto_region 48 with (fail)
                  obtain ⟨C, hC⟩ : ∃ C : World → Prop, C = fun w' => Ext w w' ∧ SetR.Own w' ⟨some A2, ro.length, c4, ro⟩ := ⟨_, rfl⟩
                  have hC0 : ∀ w', C w' ↔ (Ext w w' ∧ SetR.Own w' ⟨some A2, ro.length, c4, ro⟩) := fun w' => by rw [hC]
                  clear hC
                  have HCC := hid hC0
                  clear hC0
                  have hCx : ∀ w w', C w → Ext w w' → C w' := fun w w' h1 h2 => (HCC.out w').2 ⟨((HCC.out w).1 h1).1.ext h2, ((HCC.out w).1 h1).2.ext h2⟩
                  have hCA : C wr := (HCC.out _).2 ⟨E1.out, INV.out.o4⟩
                  have hcx : ∀ w1, C w1 → w1.cell? (A2.add (k * 1)) = some (sv x) := fun w1 h1 => by
                    obtain ⟨A3, hA3, hc3⟩ := cells_one (((HCC.out w1).1 h1).2.ok (by show ro.length ≤ _; omega)).cell (show (ro.map sv)[k]? = some (sv x) by rw [List.getElem?_map, HXK.out]; rfl)
                    injection hA3 with hA3
                    rw [hA3]; exact hc3
                  have hcy : ∀ w1, C w1 → w1.cell? (A2.add (j * 1)) = some (sv y) := fun w1 h1 => by
                    obtain ⟨A3, hA3, hc3⟩ := cells_one (((HCC.out w1).1 h1).2.ok (by show ro.length ≤ _; omega)).cell (show (ro.map sv)[j]? = some (sv y) by rw [List.getElem?_map, HYJ.out]; rfl)
                    injection hA3 with hA3
                    rw [hA3]; exact hc3
                  refine wp_region_held_drew (S := C) (by kernel_rfl) (hCx _ _ hCA (Ext.refl _).drew) (fun hS0 => ?_)
                  refine held_take 0 (v := ?tv1) rfl (by kernel_rfl) (by kernel_rfl) (by kernel_rfl) (fun _ _ _ h => h) (.inl ⟨rfl, ?ty1⟩) hS0 ?tr1
                  case ty1 => (intro _ _; go_simp; try with_reducible rfl)
                  case tr1 =>
                  simp only [Act.put, List.setIfInBounds_toArray, List.set_cons_succ, List.set_cons_zero]
                  refine held_take 1 (v := ?tv2) rfl (by kernel_rfl) (by kernel_rfl) (by kernel_rfl) (fun _ _ _ h => h) (.inl ⟨rfl, ?ty2⟩) hS0 ?tr2
                  case ty2 => (intro _ _; go_simp; try with_reducible rfl)
                  case tr2 =>
                  simp only [Act.put, List.setIfInBounds_toArray, List.set_cons_succ, List.set_cons_zero]
                  refine held_take 2 (v := ?tv3) rfl (by kernel_rfl) (by kernel_rfl) (by kernel_rfl) (fun _ _ _ h => h) (.inl ⟨rfl, ?ty3⟩) hS0 ?tr3
                  case ty3 => (intro _ _; go_simp; try with_reducible rfl)
                  case tr3 =>
                  simp only [Act.put, List.setIfInBounds_toArray, List.set_cons_succ, List.set_cons_zero]
                  refine held_take 3 (v := _) rfl (by kernel_rfl) (by kernel_rfl) (by kernel_rfl) (fun _ _ _ h => h) (yieldsI_run rfl (fun w1 _ => exec_index (i := k) rfl rfl rfl Tryz.underlying36 size_str hlt w1)) hS0 ?_
                  simp only [Act.put, List.setIfInBounds_toArray, List.set_cons_succ, List.set_cons_zero]
                  refine held_take 4 (v := _) rfl (by kernel_rfl) (by kernel_rfl) (by kernel_rfl) (fun _ _ _ h => h) (yieldsI_run rfl (fun w1 h => exec_load_oneU rfl rfl (hcx w1 h) one_str)) hS0 ?_
                  simp only [Act.put, List.setIfInBounds_toArray, List.set_cons_succ, List.set_cons_zero]
                  refine held_take 5 (v := ?tv4) rfl (by kernel_rfl) (by kernel_rfl) (by kernel_rfl) (fun _ _ _ h => h) (.inl ⟨rfl, ?ty4⟩) hS0 ?tr4
                  case ty4 => (intro _ _; go_simp; try with_reducible rfl)
                  case tr4 =>
                  simp only [Act.put, List.setIfInBounds_toArray, List.set_cons_succ, List.set_cons_zero]
                  refine held_take 6 (v := ?tv5) rfl (by kernel_rfl) (by kernel_rfl) (by kernel_rfl) (fun _ _ _ h => h) (.inl ⟨rfl, ?ty5⟩) hS0 ?tr5
                  case ty5 => (intro _ _; go_simp; try with_reducible rfl)
                  case tr5 =>
                  simp only [Act.put, List.setIfInBounds_toArray, List.set_cons_succ, List.set_cons_zero]
                  refine held_take 7 (v := _) rfl (by kernel_rfl) (by kernel_rfl) (by kernel_rfl) (fun _ _ _ h => h) (yieldsI_run rfl (fun w1 _ => exec_index (i := j) rfl rfl rfl Tryz.underlying36 size_str hjt w1)) hS0 ?_
                  simp only [Act.put, List.setIfInBounds_toArray, List.set_cons_succ, List.set_cons_zero]
                  refine held_take 8 (v := _) rfl (by kernel_rfl) (by kernel_rfl) (by kernel_rfl) (fun _ _ _ h => h) (yieldsI_run rfl (fun w1 h => exec_load_oneU rfl rfl (hcy w1 h) one_str)) hS0 ?_
                  simp only [Act.put, List.setIfInBounds_toArray, List.set_cons_succ, List.set_cons_zero]
                  clear hcx hcy
                  have INVd := hid (INV.out.ext (Ext.refl wr).drew)
                  have Ed := hid (E1.out.ext (Ext.refl wr).drew)
                  generalize wr.drew = wd at *
                  have hwd := Ed.out.size
                  refine held_one (i := 9) (by kernel_rfl) rfl ?_
                  intro Q' hQ
                  go_wp2_with fail
                  refine hQ _ _ (hCx _ _ hS0 ((Ext.refl wd).alloc _)) ?_
                  clear hQ Q'
                  try dsimp only
                  try simp only [Act.put, List.setIfInBounds_toArray, List.set_cons_succ, List.set_cons_zero]
                  have hS1 := hCx _ _ hS0 ((Ext.refl wd).alloc (.cells #[sv x, sv y] 9))
                  refine held_one (i := 10) (by kernel_rfl) rfl ?_
                  intro Q' hQ
                  go_wp2_with fail
                  refine hQ _ _ (hCx _ _ hS1 ((Ext.refl _).alloc _)) ?_
                  clear hQ Q'
                  try dsimp only
                  try simp only [Act.put, List.setIfInBounds_toArray, List.set_cons_succ, List.set_cons_zero]
                  refine held_one (i := 11) (by kernel_rfl) rfl ?_
                  intro Q' hQ
                  go_wp2_with (refine wpl_appendA (m := 1) (c := 1) (news := [.slice (some ⟨wd.heap.size, 0, none⟩) 2 2]) HT.out rfl _ _ rfl w.heap.size rfl rfl (INVd.out.out.ext (((Ext.refl wd).alloc _).alloc _)).row rfl (by decide) (fun h => by cases h) (Cells.of_blk0 (blk_two _ _ _ 36)) (by simp [Value.oneCell']) hsl hsb (by rw [size_allocW, size_allocW]; omega) ?_)
                  intro v' w' ho' hg' _
                  have INV' := hid (INVd.out.made (l := [x, y]) rfl (fun z hz => by
                    simp only [List.mem_cons, List.not_mem_nil, or_false] at hz
                    rcases hz with rfl | rfl
                    · exact HXZ.out
                    · exact HSM4'.out _ (List.mem_of_getElem? HYJ.out)) (by show (2 : Nat) ≤ _; decide) ho' hg')
                  have E' := hid ((INVd.out.ext (((Ext.refl wd).alloc _).alloc _)).grow ((Ed.out.alloc _).alloc _) (Nat.le_refl _) hg')
                  have HSS' : Hid ((ss ++ [(⟨some ⟨wd.heap.size, 0, none⟩, 2, 2, [x, y]⟩ : SetR)]).map SetR.roles ++ ((ro.drop (j + 1)).map (fun t => [x, t]) ++ R1) = S0) := hid (by
                    have := HSS.out
                    rw [drop_cons HYJ.out] at this
                    rw [← this]
                    simp)
                  have hS3 : C w' := (HCC.out _).2 ⟨E'.out, INV'.out.o4⟩
                  clear ho' hg' hS0 hS1 INV INVd E1 Ed HSS HYJ
                  go_wp2_with fail
                  refine hQ _ _ hS3 ?_
                  clear hQ Q'
                  have hS0 := hS3
                  clear hS3
                  try dsimp only
                  try simp only [Act.put, List.setIfInBounds_toArray, List.set_cons_succ, List.set_cons_zero]
                  refine held_take 12 (v := ?tv6) rfl (by kernel_rfl) (by kernel_rfl) (by kernel_rfl) (fun _ _ _ h => h) (.inl ⟨rfl, ?ty6⟩) hS0 ?tr6
                  case ty6 => (intro _ _; go_simp; try with_reducible rfl)
                  case tr6 =>
                  simp only [Act.put, List.setIfInBounds_toArray, List.set_cons_succ, List.set_cons_zero]
                  refine wpAnyH_done (by kernel_rfl) ?_ _
                  clear hS0 hCA hCx HCC
                  have hwj : IntKind.i64.wrap ((j : Int) + 1) = ((j + 1 : Nat) : Int) := by rw [IntWalk.i64_in _ (by omega)]; omega
                  go_wp2
                  go_roundw
                  case rel => exact ⟨j + 1, _, by omega, by omega, by go_num, INV'.out, HSS'.out, E'.out⟩
                  case measure => simp [intOf]; omega
                · obtain rfl : j = ro.length := by omega
                  have HSS' : Hid (ss.map SetR.roles ++ pairsW (ro.drop (k + 1)) = S0) := hid (by
                    have := HSS.out
                    rw [List.drop_of_length_le (Nat.le_refl _)] at this
                    rw [HR1.out]
                    simpa using this)
                  clear HSS HR1
                  go_wp2
                  go_roundw
                  case rel => exact ⟨k + 1, _, by omega, by go_num, INV.out, HSS'.out, E1.out⟩
                  case measure => simp [intOf]; omega
            · obtain rfl : k = ro.length := by omega
              have HS1 : Hid (ss.map SetR.roles = S0) := hid (by have := HSS.out; rw [pairsW_end (Nat.le_refl _)] at this; simpa using this)
              have HSW2 : Hid (SS = S0 ++ (if 3 ≤ ro.length then [ro] else [])) := hid (by rw [← HSW.out]; unfold setsW; rw [HS.out])
              clear HSS HS
              go_upto_if 159 with (fail)
              go_cut [17] (fun v wx => ∃ ss, PInvW wx w.heap.size v ss ⟨a4, ro.length, c4, ro⟩ ⟨a5, LL.length, c5, LL⟩ (.slice a6 HH.length c6) HH ∧ ss.map SetR.roles = SS ∧ Ext w wx)
              case first =>
                by_cases h3 : 3 ≤ ro.length
                · have d3 : decide ((2 : Int) < (ro.length : Int)) = true := decide_eq_true (by omega)
                  have hsl : ss.length + 1 ≤ 140737488355328 := by
                    have := congrArg List.length HS1.out
                    rw [List.length_map] at this
                    omega
                  have hsb : (ss.length + 1) * 24 ≤ 140737488355328 := by
                    have := congrArg List.length HS1.out
                    rw [List.length_map] at this
                    omega
                  have hwr : w.heap.size ≤ wr.heap.size := E1.out.size
                  have hwr2 : w.heap.size ≤ wr.heap.size + 1 := by omega
                  rw [d3]
                  go_wp2_with (refine wpl_appendA (m := 1) (c := 1) (news := [.slice a4 ro.length c4]) HT.out rfl _ _ rfl w.heap.size rfl rfl (INV.out.out.ext ((Ext.refl wr).alloc _)).row rfl (by decide) (fun h => by cases h) (Cells.of_blk0 (Blk.mk_alloc (T := 36) rfl rfl)) (by simp [Value.oneCell']) hsl hsb (by rw [size_allocW]; exact hwr2) ?_)
                  intro v' w' ho' hg' _
                  have INV' := hid ((INV.out.ext ((Ext.refl wr).alloc _)).push (s := ⟨a4, ro.length, c4, ro⟩) (INV.out.o4.ext ((Ext.refl wr).alloc _)) ho' hg')
                  have E' := hid ((INV.out.ext ((Ext.refl wr).alloc _)).grow (E1.out.alloc _) (Nat.le_refl _) hg')
                  have HSF : Hid ((ss ++ [(⟨a4, ro.length, c4, ro⟩ : SetR)]).map SetR.roles = SS) := hid (by rw [HSW2.out, if_pos h3, List.map_append, HS1.out]; rfl)
                  clear ho' hg' hsl hsb hwr hwr2 INV E1
                  go_wp2
                  go_meet
                  exact ⟨_, INV'.out, HSF.out, E'.out⟩
                · have d3 : decide ((2 : Int) < (ro.length : Int)) = false := decide_eq_false (by omega)
                  have HSF : Hid (ss.map SetR.roles = SS) := hid (by rw [HSW2.out, if_neg h3, HS1.out]; simp)
                  rw [d3]
                  go_wp2
                  go_meet
                  exact ⟨_, INV.out, HSF.out, E1.out⟩
              case rest =>
              obtain ⟨ss2, hinv, hss2, e1⟩ := hcut
              have INVW := hid (hinv.winv w.heap.size)
              have HSS := hid hss2
              have EC := hid e1
              clear hinv hss2 e1 INV E1 HS1 HSW2
              obtain ⟨B2, hset⟩ := INVW.out.sets
              obtain ⟨sa, sc, hu17, hsc, hx1, hy1⟩ := own_cellsA hset.row
              subst hu17
              clear hx1 hy1 hset
              have HSMALL : Hid (∀ s ∈ ss2, s.roles.length ≤ 1700) := hid (fun s hs => sets_small hn4 _ (by rw [HSW.out, ← HSS.out]; exact List.mem_map.2 ⟨s, hs, rfl⟩))
              obtain ⟨ss, hsseq⟩ : ∃ x, ss2 = x := ⟨_, rfl⟩
              subst hsseq
              obtain ⟨nS, hnS⟩ : ∃ n, ss2.length = n := ⟨_, rfl⟩
              obtain ⟨nL, hnL⟩ : ∃ n, LL.length = n := ⟨_, rfl⟩
              obtain ⟨nH, hnH⟩ : ∃ n, HH.length = n := ⟨_, rfl⟩
              have hSl : SS.length = nS := by rw [← HSS.out, List.length_map]; exact hnS
              rw [hSl, hnL, hnH] at hSzz
              rw [hSl] at hS15
              rw [hnL] at hn5 hL0 hc5
              rw [hnH] at hn6 hH0 hc6
              rw [hnS] at hsc
              rw [hnS, hnL, hnH] at INVW
              rw [hnS, hnL, hnH]
              obtain ⟨p1, hp1⟩ : ∃ p, nS * 12 = p := ⟨_, rfl⟩
              obtain ⟨p2, hp2⟩ : ∃ p, p1 * nL = p := ⟨_, rfl⟩
              have hp3 : p2 * nH = Sz := by rw [← hSzz, ← hp2, ← hp1]
              have hb1 : p1 ≤ 18000000 := by omega
              have hb2 : p2 ≤ 18000000 * 3300 := by rw [← hp2]; exact Nat.mul_le_mul hb1 hn5
              have hb3 : Sz ≤ 18000000 * 3300 * 300 := by rw [← hp3]; exact Nat.mul_le_mul hb2 hn6
              have hw1 : IntKind.i64.wrap ((nS : Int) * 12) = (p1 : Int) := by
                rw [show ((nS : Int) * 12) = ((p1 : Nat) : Int) by rw [← hp1]; push_cast; rfl]
                exact IntWalk.i64_in _ (by omega)
              have hw2 : IntKind.i64.wrap ((p1 : Int) * (nL : Int)) = (p2 : Int) := by
                rw [show ((p1 : Int) * (nL : Int)) = ((p2 : Nat) : Int) by rw [← hp2]; push_cast; rfl]
                exact IntWalk.i64_in _ (by omega)
              have hw3 : IntKind.i64.wrap ((p2 : Int) * (nH : Int)) = (Sz : Int) := by
                rw [show ((p2 : Int) * (nH : Int)) = ((Sz : Nat) : Int) by rw [← hp3]; push_cast; rfl]
                exact IntWalk.i64_in _ (by omega)
              clear hp1 hp2 hp3 hb2 hn4 hnS HSM4' HSW
              by_cases hgt : 100000 < Sz
              · have dg : decide ((100000 : Int) < (Sz : Int)) = true := decide_eq_true (by omega)
                go_wp2
                go_ret2
                exact .inl ⟨by rw [HSZ.out]; omega, rfl, EC.out⟩
              · have dg : decide ((100000 : Int) < (Sz : Int)) = false := decide_eq_false (by omega)
                have hle : Sz ≤ 100000 := by omega
                have HTA := hid elem_ask
                obtain ⟨T, hT⟩ : ∃ T, asksA ss2 LL HH = T := ⟨_, rfl⟩
                have hTl : T.length = Sz := by rw [← hT, asksA_len, hnL, hnH, show ss2.length = nS by rw [← hSl, ← HSS.out, List.length_map]]; exact hSzz
                have hnS2 : ss2.length = nS := by rw [← hSl, ← HSS.out, List.length_map]
                have HTT := hid hT
                clear hT
                go_wp2
                go_loopw [22, 176] (fun v i wr => ∃ (k : Nat) (xs : List AskR), k ≤ nS ∧ i = .int .i64 (k : Int) ∧ WInv wr w.heap.size v xs (.slice sa nS sc) ss2 ⟨a5, nL, c5, LL⟩ (.slice a6 nH c6) HH ∧ xs ++ asksA (ss2.drop k) LL HH = T ∧ Ext w wr) (fun _ i _ => nS - (intOf i).toNat)
                case atStart => exact ⟨0, [], by omega, rfl, INVW.out, by rw [List.drop_zero]; exact HTT.out, EC.out⟩
                case round =>
                  obtain ⟨k, xs, hk, rfl, hinv, hxs, e1⟩ := hrel
                  have INV := hid hinv
                  have HXS := hid hxs
                  have E1 := hid e1
                  clear hinv hxs e1 INVW EC
                  by_cases hlt : k < nS
                  · obtain ⟨s, hsk⟩ : ∃ s, ss2[k]? = some s := ⟨ss2[k]'(by omega), by simp⟩
                    obtain ⟨B2, hsets⟩ := INV.out.sets
                    obtain ⟨a9, c9, hv9, hnc9, h09, hcs9⟩ := own_cellsA hsets.row
                    injection hv9 with hv9a hv9b hv9c
                    subst hv9a
                    obtain ⟨A2, hA2, hcs⟩ := cells_one hcs9 (show (ss2.map SetR.v)[k]? = some s.v by rw [List.getElem?_map, hsk]; rfl)
                    rw [Nat.mul_one] at hcs
                    obtain ⟨R1, hR1⟩ : ∃ x, asksA (ss2.drop (k + 1)) LL HH = x := ⟨_, rfl⟩
                    have HR1 := hid hR1
                    have HX1 : Hid (xs ++ (actsA s (actsW.drop 0) LL HH ++ R1) = T) := hid (by
                      have := HXS.out
                      rw [drop_cons hsk] at this
                      unfold asksA at this
                      rw [List.flatMap_cons] at this
                      rw [← this, ← hR1]
                      rfl)
                    subst hA2
                    clear hsets hv9b hv9c hnc9 h09 hcs9 hR1
                    go_wp2
                    go_loopw [22, 25] (fun v i wr => ∃ (j : Nat) (z : Int) (xs : List AskR), j ≤ 12 ∧ z = ((j + 1 : Nat) : Int) ∧ i = .int .i64 z ∧ WInv wr w.heap.size v xs (.slice (some A2) nS sc) ss2 ⟨a5, nL, c5, LL⟩ (.slice a6 nH c6) HH ∧ xs ++ (actsA s (actsW.drop j) LL HH ++ R1) = T ∧ Ext w wr) (fun _ i _ => 13 - (intOf i).toNat)
                    case atStart => exact ⟨0, 1, xs, by omega, rfl, rfl, INV.out, HX1.out, E1.out⟩
                    case round =>
                      obtain ⟨j, z, xs, hj, hzj, rfl, hinv, hxs, e1⟩ := hrel
                      have INV := hid hinv
                      have HXS := hid hxs
                      have E1 := hid e1
                      have HZJ := hid hzj
                      clear hinv hxs e1 HX1 hcs
                      by_cases hjt : j < 12
                      · have dj : decide (z ≤ 12) = true := decide_eq_true (by omega)
                        have hwz : IntKind.i64.wrap (z + 1) = z + 1 := by rw [hzj, show (((j + 1 : Nat) : Int) + 1) = ((j + 2 : Nat) : Int) by omega]; exact IntWalk.i64_in _ (by omega)
                        have hz0 : 0 ≤ z := by omega
                        have hz12 : z ≤ 12 := by omega
                        obtain ⟨R2, hR2⟩ : ∃ x, actsA s (actsW.drop (j + 1)) LL HH ++ R1 = x := ⟨_, rfl⟩
                        have HX2 : Hid (xs ++ (labsA s z (LL.drop 0) HH ++ R2) = T) := hid (by
                          have := HXS.out
                          rw [actsW_drop hjt, ← hzj] at this
                          unfold actsA at this
                          rw [List.flatMap_cons, List.append_assoc] at this
                          rw [← this, ← hR2, List.drop_zero]
                          rfl)
                        have HR2 := hid hR2
                        clear hR2 hzj
                        go_wp2
                        go_loopw [22, 186] (fun v i wr => ∃ (m : Nat) (xs : List AskR), m ≤ nL ∧ i = .int .i64 (m : Int) ∧ WInv wr w.heap.size v xs (.slice (some A2) nS sc) ss2 ⟨a5, nL, c5, LL⟩ (.slice a6 nH c6) HH ∧ xs ++ (labsA s z (LL.drop m) HH ++ R2) = T ∧ Ext w wr) (fun _ i _ => nL - (intOf i).toNat)
                        case atStart => exact ⟨0, xs, by omega, rfl, INV.out, HX2.out, E1.out⟩
                        case round =>
                          obtain ⟨m, xs, hm, rfl, hinv, hxs, e1⟩ := hrel
                          have INV := hid hinv
                          have HXS := hid hxs
                          have E1 := hid e1
                          clear hinv hxs e1 HX2
                          by_cases hmt : m < nL
                          · obtain ⟨l, hlm⟩ : ∃ l, LL[m]? = some l := ⟨LL[m]'(by omega), by simp⟩
                            obtain ⟨A3, hA3, hcl⟩ := cells_one (INV.out.labs.ok (by show nL ≤ _; omega)).cell (show (LL.map sv)[m]? = some (sv l) by rw [List.getElem?_map, hlm]; rfl)
                            rw [Nat.mul_one] at hcl
                            have hA4 : a5 = some A3 := hA3
                            obtain ⟨R3, hR3⟩ : ∃ x, labsA s z (LL.drop (m + 1)) HH ++ R2 = x := ⟨_, rfl⟩
                            have HX3 : Hid (xs ++ (hoursA s z l (HH.drop 0) ++ R3) = T) := hid (by
                              have := HXS.out
                              rw [drop_cons hlm] at this
                              unfold labsA at this
                              rw [List.flatMap_cons, List.append_assoc] at this
                              rw [← this, ← hR3, List.drop_zero]
                              rfl)
                            have HR3 := hid hR3
                            subst hA4
                            clear hR3 hlm hA3
                            go_wp2
                            go_loopw [22, 192] (fun v i wr => ∃ (q : Nat) (xs : List AskR), q ≤ nH ∧ i = .int .i64 (q : Int) ∧ WInv wr w.heap.size v xs (.slice (some A2) nS sc) ss2 ⟨some A3, nL, c5, LL⟩ (.slice a6 nH c6) HH ∧ xs ++ (hoursA s z l (HH.drop q) ++ R3) = T ∧ Ext w wr) (fun _ i _ => nH - (intOf i).toNat)
                            case atStart => exact ⟨0, xs, by omega, rfl, INV.out, HX3.out, E1.out⟩
                            case round =>
                              obtain ⟨q, xs, hq, rfl, hinv, hxs, e1⟩ := hrel
                              have INV := hid hinv
                              have HXS := hid hxs
                              have E1 := hid e1
                              clear hinv hxs e1 HX3 hcl
                              by_cases hqt : q < nH
                              · obtain ⟨h, hhq⟩ : ∃ h, HH[q]? = some h := ⟨HH[q]'(by omega), by simp⟩
                                obtain ⟨B2, hhours⟩ := INV.out.hours
                                obtain ⟨a9, c9, hv9, hnc9, h09, hcs9⟩ := own_cellsA hhours
                                injection hv9 with hv9a hv9b hv9c
                                obtain ⟨A5, hA5, hch⟩ := cells_one hcs9 (show (HH.map iv)[q]? = some (.int .i64 h) by rw [List.getElem?_map, hhq]; rfl)
                                rw [Nat.mul_one] at hch
                                rw [hA5] at hv9a
                                have h24 := HH24.out h (List.mem_of_getElem? hhq)
                                have hwh : IntKind.i64.wrap (3600 * h) = 3600 * h := by
                                  obtain ⟨hN, rfl⟩ := Int.eq_ofNat_of_zero_le h24.1
                                  have : (3600 : Int) * (hN : Int) = ((3600 * hN : Nat) : Int) := by push_cast; rfl
                                  rw [this]
                                  exact IntWalk.i64_in _ (by omega)
                                have HXX : Hid ((xs ++ [askW s z l h]) ++ (hoursA s z l (HH.drop (q + 1)) ++ R3) = T) := hid (by
                                  have := HXS.out
                                  rw [drop_cons hhq] at this
                                  unfold hoursA at this
                                  rw [List.map_cons] at this
                                  rw [← this]
                                  unfold hoursA
                                  simp)
                                have hxl : xs.length + 1 ≤ 140737488355328 := by have := congrArg List.length HXX.out; rw [List.length_append, List.length_append, List.length_singleton] at this; omega
                                have hxb : (xs.length + 1) * 120 ≤ 140737488355328 := by have := congrArg List.length HXX.out; rw [List.length_append, List.length_append, List.length_singleton] at this; omega
                                have hwr := E1.out.size
                                have hwr2 : w.heap.size ≤ wr.heap.size + 1 := by omega
                                have HAL := hid (askW_len s z l h)
                                have HA1 := hid (askW_one (askW s z l h))
                                obtain ⟨X, hX⟩ : ∃ X, askW s z l h = X := ⟨_, rfl⟩
                                have HX := hid hX
                                rw [hX] at HXX HAL HA1
                                subst hv9a
                                clear hhours hv9b hv9c hnc9 h09 hcs9 hhq hX
                                go_wp2_with (first | (refine wpl_run rfl (exec_ask (s := s) (act := z) (h := h) (l := l) rfl rfl rfl rfl rfl _) ?_; rw [HX.out]) | (refine wpl_buildOne HTA.out (by decide) rfl rfl rfl HAL.out ?_) | (refine wpl_appendA (m := 1) (c := 1) (news := X.v) HTA.out rfl _ _ rfl w.heap.size rfl rfl (INV.out.row.alloc _) (by rw [HAL.out]) (by decide) (fun h => by cases h) (Cells.of_blk0 (Blk.mk_alloc (T := 40) rfl rfl)) HA1.out hxl hxb (by rw [size_allocW]; exact hwr2) ?_))
                                intro v' w' ho' hg' _
                                have INV' := hid (INV.out.push ho' hg')
                                have E' := hid (INV.out.pushExt E1.out (Nat.le_refl _) hg')
                                clear ho' hg' INV E1 HXS HAL HA1 HX hwh hxl hxb hwr hwr2 hch
                                go_wp2
                                go_roundw
                                case rel => exact ⟨q + 1, _, by omega, by go_num, INV'.out, HXX.out, E'.out⟩
                                case measure => simp [intOf]; omega
                              · obtain rfl : q = nH := by omega
                                have HXX : Hid (xs ++ (labsA s z (LL.drop (m + 1)) HH ++ R2) = T) := hid (by
                                  have := HXS.out
                                  rw [List.drop_of_length_le (by omega)] at this
                                  unfold hoursA at this
                                  rw [HR3.out]
                                  simpa using this)
                                clear HXS HR3
                                go_wp2
                                go_roundw
                                case rel => exact ⟨m + 1, _, by omega, by go_num, INV.out, HXX.out, E1.out⟩
                                case measure => simp [intOf]; omega
                          · obtain rfl : m = nL := by omega
                            have HXX : Hid (xs ++ (actsA s (actsW.drop (j + 1)) LL HH ++ R1) = T) := hid (by
                              have := HXS.out
                              rw [List.drop_of_length_le (by omega)] at this
                              unfold labsA at this
                              rw [HR2.out]
                              simpa using this)
                            clear HXS HR2
                            go_wp2
                            go_roundw
                            case rel => exact ⟨j + 1, z + 1, _, by omega, by have := HZJ.out; omega, by first | rfl | (rw [hwz]; done) | simp [hwz], INV.out, HXX.out, E1.out⟩
                            case measure => simp [intOf]; omega
                      · obtain rfl : j = 12 := by omega
                        have dj : decide (z ≤ 12) = false := decide_eq_false (by omega)
                        have HXX : Hid (xs ++ asksA (ss2.drop (k + 1)) LL HH = T) := hid (by
                          have := HXS.out
                          rw [List.drop_of_length_le (by decide)] at this
                          rw [HR1.out]
                          unfold actsA at this
                          simpa using this)
                        clear HXS HR1
                        go_wp2
                        go_roundw
                        case rel => exact ⟨k + 1, _, by omega, by go_num, INV.out, HXX.out, E1.out⟩
                        case measure => simp [intOf]; omega
                  · obtain rfl : k = nS := by omega
                    have HXX : Hid (xs = asksA ss2 LL HH) := hid (by
                      have := HXS.out
                      rw [List.drop_of_length_le (by omega)] at this
                      unfold asksA at this
                      rw [HTT.out]
                      simpa [asksA] using this)
                    have HAS : Hid (AsksI wr w.heap.size u22 (asksA ss2 LL HH)) := hid (world_own2 (by rw [← HXX.out]; exact INV.out) HSMALL.out HSM.out)
                    have HWPP : Hid ((asksA ss2 LL HH).map AskR.p = worldP rs) := hid (by rw [HWP.out]; exact asksA_p HSS.out LL HH)
                    clear HXS HTT INV HXX
                    go_wp2
                    go_ret2
                    exact .inr ⟨by rw [HSZ.out]; exact hle, _, _, rfl, HAS.out, HWPP.out, E1.out⟩
end

section
open Go Go.RowKit

theorem info_rule : (Tryz.prog.info? 50).map (fun i => (i.zero, i.size, i.bytes)) = some (some (.agg zeroRule.toArray), 8, 120) := by kernel_rfl

set_option maxRecDepth 100000 in
set_option maxHeartbeats 1000000 in
theorem growR_c (n : Nat) (w : World) (hn : n ≤ 1000) :
    Calls Tryz.prog 38 #[.slice none 0 0, .int .i64 n] w fun e w' => ∃ v, e = .returned v ∧ w'.ownsRow w.heap.size 50 8 v 0 [] ∧ Ext w w' := by
  by_cases h0 : n = 0
  · subst h0
    go_enter Tryz.func38, Tryz.ntmps38
    go_wp2
    go_ret
    exact ⟨_, rfl, World.ownsRow_nil _ _ _ _, Ext.refl _⟩
  · have h1 : ¬ ((n : Int) < 0) := by omega
    have h3 : IntKind.i64.wrap (n : Int) = (n : Int) := IntWalk.i64_in _ (by omega)
    have h4 : decide ((0 : Int) < (n : Int)) = true := decide_eq_true (by omega)
    obtain ⟨i0, hi, hz, hs, hb⟩ := info_parts info_rule
    obtain ⟨G, hG⟩ : ∃ G, G = grownCap w n 0 50 := ⟨_, rfl⟩
    have hGn : n ≤ G := by rw [hG]; exact grownCap_ge w _ _ _
    have hG63 : G ≤ maxLen := by rw [hG]; exact grownCap_le_maxLen w n 0 50 (by unfold maxLen; omega)
    have hrz : ∀ ty, (Builtin.append_ #[22, 3] ty #[.slice none 0 0, .int .i64 (n : Int)]).run Tryz.prog w =
        .ok (.slice (some ⟨w.heap.size, 0, none⟩) n G) (w.drew.alloc (.cells (#[] ++ Builtin.zeroCells (Value.agg zeroRule.toArray).cells n ++ Builtin.zeroCells (Value.agg zeroRule.toArray).cells (G - n)) 50)) := fun ty => by
      have h := Lib.run_append_grow_zeros w 22 3 ty 50 i0 (.agg zeroRule.toArray) .i64 .i64 Tryz.underlying22 Tryz.underlying3 hi hz none 0 0 [] (by rw [hs]; exact run_firstCells_none w.drew 8 0 0 0) n (by omega) (by omega) (by omega) (by omega) (by rw [hb]; omega)
        (by exact growslice_fits (by omega) (by rw [hb]; omega))
      rw [Nat.zero_add, ← hG] at h
      exact h
    have hsz : (#[] ++ Builtin.zeroCells (Value.agg zeroRule.toArray).cells n ++ Builtin.zeroCells (Value.agg zeroRule.toArray).cells (G - n)).size = G * 8 := by
      have h1 : (Value.agg zeroRule.toArray).cells.size = 8 := rfl
      simp [Builtin.zeroCells, h1]
      omega
    have hown : ∀ cs : Array Value, cs.size = G * 8 → (w.drew.alloc (.cells cs 50)).ownsRow w.heap.size 50 8 (.slice (some ⟨w.heap.size, 0, none⟩) 0 G) 0 [] := fun cs hc => World.ownsRow_made w.drew cs G (Nat.le_refl _) hG63 hc
    generalize hcs : (#[] ++ Builtin.zeroCells (Value.agg zeroRule.toArray).cells n ++ Builtin.zeroCells (Value.agg zeroRule.toArray).cells (G - n)) = cs at *
    clear hG hcs
    unfold maxLen at hG63
    go_enter Tryz.func38, Tryz.ntmps38
    go_wp2_with (at_builtin; refine Lib.wpList_append_run _ rfl _ _ _ _ rfl _ _ rfl rfl _ _ (hrz _) ?_)
    all_goals (go_ret; exact ⟨_, rfl, hown cs hsz, (Ext.refl w).drew.alloc _⟩)

/-- a list of slices of rules: address, capacity, rules -/
abbrev RItem := Option Addr × Nat × List RuleR
def catR (its : List RItem) : List RuleR := (its.map (·.2.2)).flatten
def itemR (it : RItem) : Value := .slice it.1 it.2.2.length it.2.1
theorem catR_succ {its : List RItem} {k : Nat} {it : RItem} (h : its[k]? = some it) : catR (its.take (k + 1)) = catR (its.take k) ++ it.2.2 := by
  unfold catR
  rw [List.take_add_one, h]; simp
theorem catR_le (its : List RItem) (k : Nat) : (catR (its.take k)).length ≤ (catR its).length := by
  have h2 : catR its = catR (its.take k) ++ catR (its.drop k) := by
    unfold catR
    rw [← List.flatten_append, ← List.map_append, List.take_append_drop]
  rw [h2, List.length_append]
  omega
theorem rulesV_append (xs ys : List RuleR) : rulesV (xs ++ ys) = rulesV xs ++ rulesV ys := by unfold rulesV; rw [List.flatMap_append]
theorem rulesV_one (rs : List RuleR) : ∀ v ∈ rulesV rs, v.oneCell' = true := by
  intro v hv
  unfold rulesV at hv
  obtain ⟨r, _, h⟩ := List.mem_flatMap.1 hv
  exact ruleV_one r v h

set_option maxRecDepth 100000 in
set_option maxHeartbeats 1000000 in
theorem concatR_c (its : List RItem) (g nn cap : Nat) (w : World) (hnn : its.length = nn) (hnn2 : nn ≤ 140737488355328) (hcap : nn ≤ cap) (hg : ∀ (i : Nat) it, its[i]? = some it → w.cell? ⟨g, i, none⟩ = some (itemR it))
    (hc : ∀ it ∈ its, Cells w it.1 (rulesV it.2.2)) (hn0 : ∀ it ∈ its, it.1 = none → it.2.1 = 0) (hlen : (catR its).length ≤ 1000) :
    Calls Tryz.prog 14 #[.slice (some ⟨g, 0, none⟩) nn cap] w fun e w' => ∃ v, e = .returned v ∧ w'.ownsRow w.heap.size 50 8 v (catR its).length (rulesV (catR its)) ∧ Ext w w' := by
  have HNN := hid hnn
  have HG := hid hg
  have HC := hid hc
  have HN0 := hid hn0
  have HL := hid hlen
  obtain ⟨i0, hi, hz, hs, hb1⟩ := info_parts info_rule
  clear hg hc hn0 hlen hnn
  go_enter Tryz.func14, Tryz.ntmps14
  go_wp2
  go_loopw [3, 11] (fun s i wr => ∃ k : Nat, k ≤ nn ∧ s = .int .i64 ((catR (its.take k)).length : Nat) ∧ i = .int .i64 k ∧ wr = w)
    (fun _ i _ => nn - (intOf i).toNat)
  case atStart => exact ⟨0, by omega, by simp [catR], rfl, rfl⟩
  case round =>
    obtain ⟨k, hk, rfl, rfl, hwr⟩ := hrel
    subst wr
    by_cases hlt : k < nn
    · obtain ⟨it, hit⟩ : ∃ it, its[k]? = some it := ⟨its[k]'(by rw [HNN.out]; exact hlt), by simp⟩
      have c1 := HG.out k it hit
      unfold itemR at c1
      have hcs := catR_succ hit
      have hcl := catR_le its (k + 1)
      rw [hcs] at hcl
      have hcl2 := HL.out
      rw [List.length_append] at hcl
      obtain ⟨m, hm⟩ : ∃ m, (catR (its.take k)).length = m := ⟨_, rfl⟩
      obtain ⟨q, hq⟩ : ∃ q, it.2.2.length = q := ⟨_, rfl⟩
      have hsum : (catR (its.take (k + 1))).length = m + q := by rw [hcs, List.length_append, hm, hq]
      rw [hm, hq] at hcl
      rw [hq] at c1
      rw [hm]
      have h3 : IntKind.i64.wrap ((m : Int) + (q : Int)) = (m : Int) + (q : Int) := IntWalk.i64_in _ (by omega)
      have h4 : decide ((m : Int) + (q : Int) < 0) = false := decide_eq_false (by omega)
      have HS := hid hsum
      clear hsum hcs hcl hcl2 hm hq hit
      go_wp2
      go_roundw
      case rel => exact ⟨k + 1, by omega, by rw [HS.out]; go_num, by go_num, by simp⟩
      case measure => simp [intOf]; omega
    · have hkn : k = nn := by omega
      subst k
      have htk : its.take nn = its := List.take_of_length_le (by rw [HNN.out]; omega)
      rw [htk]
      have hl := HL.out
      obtain ⟨N, hN⟩ : ∃ N, (catR its).length = N := ⟨_, rfl⟩
      have HNL := hid hN
      rw [hN] at hl ⊢
      clear htk hN
      go_wp2_with fail
      refine (growR_c N _ hl).mono ?_
      rintro e w1 ⟨v, rfl, own, e1⟩
      go_wp2
      go_loopw [6, 27] (fun v i wr => ∃ k : Nat, k ≤ nn ∧ i = .int .i64 k ∧ wr.ownsRow w.heap.size 50 8 v (catR (its.take k)).length (rulesV (catR (its.take k))) ∧ Ext w wr)
        (fun _ i _ => nn - (intOf i).toNat)
      case atStart => exact ⟨0, by omega, rfl, by simpa [catR, rulesV] using own, e1⟩
      case round =>
        obtain ⟨k, hk, rfl, own2, e2⟩ := hrel
        by_cases hlt : k < nn
        · obtain ⟨it, hit⟩ : ∃ it, its[k]? = some it := ⟨its[k]'(by rw [HNN.out]; exact hlt), by simp⟩
          have c1 := HG.out k it hit
          have hb := block_lt_of_cell c1
          rw [← e2.cell (p := ⟨g, k, none⟩) hb] at c1
          have hcs := catR_succ hit
          have hcl := catR_le its (k + 1)
          rw [hcs, HNL.out, List.length_append] at hcl
          have hci := (HC.out it (List.mem_of_getElem? hit)).ext e2
          have hn0 := HN0.out it (List.mem_of_getElem? hit)
          unfold itemR at c1
          obtain ⟨x, c, li⟩ := it
          obtain ⟨q, hq⟩ : ∃ q, li.length = q := ⟨_, rfl⟩
          obtain ⟨m, hm⟩ : ∃ m, (catR (its.take k)).length = m := ⟨_, rfl⟩
          simp only at c1 hcs hcl hci hn0
          rw [hq] at c1
          rw [hm, hq] at hcl
          rw [hm] at own2
          have HCS := hid hcs
          have HQ := hid hq
          have HM := hid hm
          clear hcs hq hm hit hb
          cases x with
          | none =>
            have hli : li = [] := by
              rcases hci with h | ⟨_, _, h, _⟩
              · have h2 := congrArg List.length h
                rw [rulesV_length] at h2
                have h3 : 8 * li.length = 0 := h2
                exact List.length_eq_zero_iff.1 (by omega)
              · cases h
            have hc0 : c = 0 := hn0 rfl
            have hq0 : q = 0 := by rw [← HQ.out, hli]; rfl
            subst hc0
            subst hq0
            have hcs2 := HCS.out
            rw [hli, List.append_nil] at hcs2
            have HCS2 := hid hcs2
            clear hcs2 hli HCS
            go_wp2_with (at_builtin; refine wpList_append_own_none rfl _ _ 22 rfl w.heap.size 50 i0 8 Tryz.underlying22 hi _ _ _ rfl own2 rfl ?_)
            go_wp2
            go_roundw
            case rel => exact ⟨k + 1, by omega, by go_num, by rw [HCS2.out, HM.out]; exact own2, e2⟩
            case measure => simp [intOf]; omega
          | some ad =>
            go_wp2_with (at_builtin; refine wpList_append_own _ rfl _ _ 22 rfl w.heap.size 50 i0 (.agg zeroRule.toArray) 8 120 Tryz.underlying22 hi hz hs hb1 rfl (by decide) _ _ _ rfl own2 ad q c (rulesV li) rfl ?qc1 (news_cells hci) (rulesV_one _) ?qc4 ?qc5 e2.size ?_)
            case qc1 => rw [rulesV_length, HQ.out, Nat.mul_comm]
            case qc4 => unfold maxLen; omega
            case qc5 => omega
            intro v2 w2 own3 gr _
            have e3 : Ext w w2 := e2.grown gr (fun g' h => (own2.lt g' h).1)
            rw [← rulesV_append] at own3
            have hlen3 : (catR (its.take (k + 1))).length = m + q := by rw [HCS.out, List.length_append, HM.out, HQ.out]
            have HL3 := hid hlen3
            clear own2 gr e2 c1 hci hlen3
            go_wp2
            go_roundw
            case rel => exact ⟨k + 1, by omega, by go_num, by rw [HL3.out, HCS.out]; exact own3, e3⟩
            case measure => simp [intOf]; omega
        · have hkn : k = nn := by omega
          subst k
          rw [List.take_of_length_le (by rw [HNN.out]; omega), HNL.out] at own2
          go_wp2
          go_ret
          exact ⟨_, rfl, by rw [HNL.out]; exact own2, e2⟩
end

section
open Go Go.RowKit

theorem no_deny {a : AskR} {rs : List RuleR} {k : Nat} {r : RuleR} (h : rs[k]? = some r) (hp : ∀ x ∈ rs.take k, ¬ (meetsB x a = true ∧ x.deny = true)) (hr : ¬ (meetsB r a = true ∧ r.deny = true)) : ∀ x ∈ rs.take (k + 1), ¬ (meetsB x a = true ∧ x.deny = true) := by
  intro x hx
  rw [List.take_add_one, h, List.mem_append] at hx
  rcases hx with hx | hx
  · exact hp x hx
  · simp at hx; rw [hx]; exact hr

set_option maxRecDepth 100000 in
set_option maxHeartbeats 4000000 in
theorem rdecideT_c (pa : Option Addr) (pn pc : Nat) (rs : List RuleR) (a : AskR) (T : Nat) (w : World) (hp : PolOk w pa pn pc rs) (ha : a.Ok w) (hv : ∀ r ∈ rs, ruleE r = 0) (hT : a.time = (T : Int)) (hTb : T ≤ 1099511627776) :
    Calls Tryz.prog 15 #[.agg #[.slice pa pn pc], .agg a.v.toArray] w fun e w' => e = .returned (.agg (decideD a rs).v.toArray) ∧ Ext w w' := by
  have hme := hid (fun r w' h1 h2 (h3 : ruleE r = 0) => rmeets_c r a T w' h1 h2 hT hTb (ruleE_labels h3) (ruleE_hours h3))
  have HPO := hid hp
  have hn63 : pn ≤ 140737488355328 := by have := hp.hnc; have := hp.hm; omega
  have HLEN := hid (AskR.len ha)
  have HAO := hid ha
  have HVAL := hid hv
  clear hp ha hT hTb hv
  obtain ⟨D, hD⟩ : ∃ D, decideD a rs = D := ⟨_, rfl⟩
  have HD := hid hD
  rw [hD]
  clear hD
  go_enter Tryz.func15, Tryz.ntmps15
  go_upto_region 1 with (fail)
  generalize hwA : World.alloc (World.alloc (World.alloc w _) _) _ = wA
  have bA : Blk wA w.heap.size [.slice pa pn pc] 24 := by rw [← hwA]; exact ((Blk.mk_alloc rfl rfl).alloc _).alloc _
  have gA : Blk wA (w.heap.size + 1) a.v 40 := by rw [← hwA]; exact (Blk.mk_alloc (by simp) rfl).alloc _
  have zA : Blk wA (w.heap.size + 2) zeroDec.v 52 := by rw [← hwA]; exact Blk.mk_alloc (by simp) rfl
  have eA : Ext w wA := by rw [← hwA]; exact (((Ext.refl w).alloc _).alloc _).alloc _
  have BA := hid bA
  have GA := hid gA
  have ZA := hid zA
  have EA := hid eA
  have hgA : w.heap.size + 2 < wA.heap.size := zA.lt
  clear hwA bA gA zA eA
  go_wp2_with (refine wpl_storew rfl _ (.tmp 5) _ rfl rfl rfl (Blk.mk_alloc (vs := zeroDec.v) rfl rfl) agg_dec rfl (DecR.len noneDec) (decV_one noneDec) ?_)
  intro wB bB uB
  have eB : Ext wA wB := uB.ext ((Ext.refl wA).alloc _) (Nat.le_refl _)
  have NB := hid (show Blk wB wA.heap.size noneDec.v 52 from bB)
  clear uB bB
  have BB := hid (BA.out.ext eB)
  have GB := hid (GA.out.ext eB)
  have ZB := hid (ZA.out.ext eB)
  have EB := hid (EA.out.ext eB)
  clear eB BA GA ZA EA
  have PB := hid (HPO.out.ext EB.out)
  have QB := hid (HAO.out.ext EB.out)
  have c0 := BB.out.cell' (i := 0) rfl
  have hgb : w.heap.size + 2 < wA.heap.size := hgA
  generalize wA.heap.size = g5 at *
  go_wp2
  go_loopw [14] (fun i wr => ∃ k : Nat, k ≤ pn ∧ i = .int .i64 (k : Int) ∧ (∀ x ∈ rs.take k, ¬ (meetsB x a = true ∧ x.deny = true)) ∧ Ext wB wr) (fun i _ => pn - (intOf i).toNat)
  case atStart => exact ⟨0, by omega, rfl, by simp, Ext.refl _⟩
  case round =>
    obtain ⟨k, hk, rfl, hpre, e1⟩ := hrel
    have E1 := hid e1
    have HPR := hid hpre
    clear e1 hpre
    by_cases hlt : k < pn
    · obtain ⟨r, hrk⟩ : ∃ r, rs[k]? = some r := ⟨rs[k]'(by rw [PB.out.hl]; exact hlt), by simp⟩
      obtain ⟨A, rfl, hca⟩ := (PB.out.ext E1.out).at hrk
      have HCA := hid hca
      have HOK := hid ((PB.out.ok r (List.mem_of_getElem? hrk)).ext E1.out)
      have hrv := hid (HVAL.out r (List.mem_of_getElem? hrk))
      have HRL := hid (RuleR.len r)
      have HRK := hid hrk
      clear hca hrk
      have hro := ruleV_one r
      go_wp2_with (first | (refine wpl_run rfl (exec_index (i := k) rfl rfl rfl Tryz.underlying22 size_rule hlt _) ?_) | (refine wpl_run rfl (exec_load_at rfl rfl HCA.out agg_rule HRL.out) ?_) | (refine wpl_storew rfl _ (.tmp 7) _ rfl rfl rfl (Blk.mk_alloc (vs := zeroRule) rfl rfl) agg_rule rfl HRL.out hro ?_))
      intro wC bC uC
      have eC : Ext wr wC := uC.ext ((Ext.refl wr).alloc _) (Nat.le_refl _)
      have BC := hid bC
      have EC := hid (E1.out.ext eC)
      have HOC := hid (HOK.out.ext eC)
      have GC := hid (GB.out.ext EC.out)
      have QC := hid (QB.out.ext EC.out)
      clear bC uC eC HOK
      generalize wr.heap.size = gr at *
      go_wp2_with (first | (refine wpl_loadw rfl 50 (.tmp 7) rfl rfl BC.out agg_rule HRL.out ?_) | (refine wpl_loadw rfl 40 (.tmp 3) rfl rfl GC.out agg_ask HLEN.out ?_))
      refine (hme.out r wC HOC.out QC.out hrv.out).mono ?_
      rintro e wD ⟨rfl, eD⟩
      have ED := hid (EC.out.ext eD)
      have BD := hid (BC.out.ext eD)
      clear eD BC EC HOC GC QC
      cases hm : meetsB r a with
      | false =>
        have HN := hid (no_deny HRK.out HPR.out (fun h => by rw [hm] at h; cases h.1))
        clear hm HPR HRK
        go_wp2
        go_roundw
        case rel => exact ⟨k + 1, by omega, by go_num, HN.out, ED.out⟩
        case measure => simp [intOf]; omega
      | true =>
      have c9 := BD.out.cell' (i := 0) rfl
      cases hd : r.deny with
      | true =>
        have hN := decF_first rs 0 k r none HRK.out HPR.out hm hd
        rw [Nat.zero_add] at hN
        have HN := hid (hN.symm.trans HD.out)
        have ZD := hid (ZB.out.ext ED.out)
        rw [hd] at c9
        clear hm HPR HRK hN
        go_wp2_with (refine wpl_storew rfl _ (.tmp 4) _ rfl rfl rfl ZD.out agg_dec rfl (DecR.len (denyDec k)) (decV_one (denyDec k)) ?_)
        intro wF bF uF
        have EF := hid (uF.ext (EB.out.ext ED.out) (by omega))
        go_wp2_with fail
        exact ret_row rfl rfl bF agg_dec rfl rfl ⟨by rw [← HN.out]; rfl, EF.out⟩
      | false =>
        have HN := hid (no_deny HRK.out HPR.out (fun h => by rw [hd] at h; cases h.2))
        rw [hd] at c9
        clear hm HPR HRK
        go_wp2
        go_roundw
        case rel => exact ⟨k + 1, by omega, by go_num, HN.out, ED.out⟩
        case measure => simp [intOf]; omega
    · obtain rfl : k = pn := by omega
      have hall := HPR.out
      rw [List.take_of_length_le (by rw [PB.out.hl]; exact Nat.le_refl _)] at hall
      have HALL := hid hall
      have c0' := (BB.out.ext E1.out).cell' (i := 0) rfl
      have NE := hid (NB.out.ext E1.out)
      have GE := hid (GB.out.ext E1.out)
      have ZE := hid (ZB.out.ext E1.out)
      have EE := hid (EB.out.ext E1.out)
      clear hall HPR c0 BB PB QB GB ZB NB
      have hpn : rs.length = k := HPO.out.hl
      generalize hkk : k = pn at *
      clear hkk hk hlt
      have HPN := hid hpn
      clear hpn
      go_wp2
      go_loopw [31] (fun i wr => ∃ (k : Nat) (best : Option (Nat × RuleR)), k ≤ pn ∧ i = .int .i64 (k : Int) ∧ decF a (rs.drop k) k best = D ∧ Blk wr g5 (bestDec best).v 52 ∧ Blk wr (w.heap.size + 1) a.v 40 ∧ Blk wr (w.heap.size + 2) zeroDec.v 52 ∧ Ext w wr) (fun i _ => pn - (intOf i).toNat)
      case atStart => exact ⟨0, none, by omega, rfl, by rw [List.drop_zero]; exact HD.out, NE.out, GE.out, ZE.out, EE.out⟩
      case round =>
        obtain ⟨k, best, hk, rfl, hdec, hnb, hgb2, hzb, e2⟩ := hrel
        have E2 := hid e2
        have HDC := hid hdec
        have NB := hid hnb
        have GB := hid hgb2
        have ZB := hid hzb
        clear e2 hdec hnb hgb2 hzb NE GE ZE EE E1 EB c0'
        by_cases hlt : k < pn
        · obtain ⟨r, hrk⟩ : ∃ r, rs[k]? = some r := ⟨rs[k]'(by rw [HPN.out]; exact hlt), by simp⟩
          obtain ⟨A, rfl, hca⟩ := (HPO.out.ext E2.out).at hrk
          have HCA := hid hca
          have HOK := hid ((HPO.out.ok r (List.mem_of_getElem? hrk)).ext E2.out)
          have hrv := hid (HVAL.out r (List.mem_of_getElem? hrk))
          have hnd := hid (HALL.out r (List.mem_of_getElem? hrk))
          have HRL := hid (RuleR.len r)
          have HRK := hid hrk
          clear hca hrk
          have hro := ruleV_one r
          go_wp2_with (first | (refine wpl_run rfl (exec_index (i := k) rfl rfl rfl Tryz.underlying22 size_rule hlt _) ?_) | (refine wpl_run rfl (exec_load_at rfl rfl HCA.out agg_rule HRL.out) ?_) | (refine wpl_storew rfl _ (.tmp 9) _ rfl rfl rfl (Blk.mk_alloc (vs := zeroRule) rfl rfl) agg_rule rfl HRL.out hro ?_))
          intro wC bC uC
          have eC : Ext wr wC := uC.ext ((Ext.refl wr).alloc _) (Nat.le_refl _)
          have BC := hid bC
          have EC := hid (E2.out.ext eC)
          have HOC := hid (HOK.out.ext eC)
          have NC := hid (NB.out.ext eC)
          have GC := hid (GB.out.ext eC)
          have ZC := hid (ZB.out.ext eC)
          have QC := hid (HAO.out.ext EC.out)
          clear bC uC eC HOK NB GB ZB E2
          generalize wr.heap.size = gr at *
          go_wp2_with (first | (refine wpl_loadw rfl 50 (.tmp 9) rfl rfl BC.out agg_rule HRL.out ?_) | (refine wpl_loadw rfl 40 (.tmp 3) rfl rfl GC.out agg_ask HLEN.out ?_))
          refine (hme.out r wC HOC.out QC.out hrv.out).mono ?_
          rintro e wD ⟨rfl, eD⟩
          have ED := hid (EC.out.ext eD)
          have BD := hid (BC.out.ext eD)
          have ND := hid (NC.out.ext eD)
          have GD := hid (GC.out.ext eD)
          have ZD := hid (ZC.out.ext eD)
          clear eD BC EC HOC NC GC ZC QC
          cases hm : meetsB r a with
          | false =>
            have HN := hid ((decF_no HRK.out hm).symm.trans HDC.out)
            clear hm HDC HRK
            go_wp2
            go_roundw
            case rel => exact ⟨k + 1, best, by omega, by go_num, HN.out, ND.out, GD.out, ZD.out, ED.out⟩
            case measure => simp [intOf]; omega
          | true =>
          have hd : r.deny = false := by
            cases h : r.deny with
            | false => rfl
            | true => exact absurd ⟨hm, h⟩ hnd.out
          have hN := (decF_yes HRK.out hm hd).symm.trans HDC.out
          have c6 := BD.out.cell' (i := 6) rfl
          have c7 := BD.out.cell' (i := 7) rfl
          have n1 := ND.out.cell' (i := 1) rfl
          have n2 := ND.out.cell' (i := 2) rfl
          have hg5 : w.heap.size ≤ g5 := by omega
          clear hm hd hnd HDC HRK
          have hstep : ∀ (bst : Option (Nat × RuleR)), betterB r best = true → (if betterB r best then some (k, r) else best) = some (k, r) := fun _ h => by rw [h]; rfl
          cases best with
          | none =>
            have HN := hid (show decF a (rs.drop (k + 1)) (k + 1) (some (k, r)) = D from hN)
            have m1 : (bestDec none).ru = -1 := rfl
            have m2 : decide ((bestDec none).ru < 0) = true := by rw [m1]; decide
            rw [m1] at n1
            clear hN hstep m1 m2
            go_wp2_with (refine wpl_storew rfl _ (.tmp 5) _ rfl rfl rfl ND.out agg_dec (DecR.len _) (DecR.len (bestDec (some (k, r)))) (decV_one (bestDec (some (k, r)))) ?_)
            intro wF bF uF
            have EF := hid (uF.ext ED.out hg5)
            have NF := hid bF
            have GF := hid (GD.out.upd uF (by omega))
            have ZF := hid (ZD.out.upd uF (by omega))
            clear bF uF ED ND GD ZD BD
            go_wp2_with fail
            go_roundw
            case rel => exact ⟨k + 1, some (k, r), by omega, by go_num, HN.out, NF.out, GF.out, ZF.out, EF.out⟩
            case measure => simp [intOf]; omega
          | some bq =>
            obtain ⟨b, q⟩ := bq
            have m1 : (bestDec (some (b, q))).ru = (b : Int) := rfl
            have m2 : (bestDec (some (b, q))).nd = q.nd := rfl
            rw [m1] at n1
            rw [m2] at n2
            have m3 : decide (((b : Nat) : Int) < 0) = false := decide_eq_false (by omega)
            by_cases hbt : r.nd < q.nd
            · have q1 : decide (r.nd < q.nd) = true := decide_eq_true hbt
              rw [show betterB r (some (b, q)) = true from q1, if_pos rfl] at hN
              have HN := hid hN
              clear hN hstep m1 m2
              go_wp2_with (refine wpl_storew rfl _ (.tmp 5) _ rfl rfl rfl ND.out agg_dec (DecR.len _) (DecR.len (bestDec (some (k, r)))) (decV_one (bestDec (some (k, r)))) ?_)
              intro wF bF uF
              have EF := hid (uF.ext ED.out hg5)
              have NF := hid bF
              have GF := hid (GD.out.upd uF (by omega))
              have ZF := hid (ZD.out.upd uF (by omega))
              clear bF uF ED ND GD ZD BD
              go_wp2_with fail
              go_roundw
              case rel => exact ⟨k + 1, some (k, r), by omega, by go_num, HN.out, NF.out, GF.out, ZF.out, EF.out⟩
              case measure => simp [intOf]; omega
            · have q1 : decide (r.nd < q.nd) = false := decide_eq_false hbt
              rw [show betterB r (some (b, q)) = false from q1] at hN
              simp only [Bool.false_eq_true, if_false] at hN
              have HN := hid hN
              clear hN hstep m1 m2
              go_wp2
              go_roundw
              case rel => exact ⟨k + 1, some (b, q), by omega, by go_num, HN.out, ND.out, GD.out, ZD.out, ED.out⟩
              case measure => simp [intOf]; omega
        · obtain rfl : k = pn := by omega
          have HN := hid ((decF_end (by rw [HPN.out]; exact Nat.le_refl _)).symm.trans HDC.out)
          have HBL := hid (DecR.len (bestDec best))
          clear HDC
          generalize bestDec best = bd at *
          go_wp2_with (first | (refine wpl_loadw rfl 52 (.tmp 5) rfl rfl NB.out agg_dec HBL.out ?_) | (refine wpl_storew rfl _ (.tmp 4) _ rfl rfl rfl ZB.out agg_dec rfl HBL.out (decV_one bd) ?_))
          intro wF bF uF
          have EF := hid (uF.ext E2.out (by omega))
          go_wp2_with fail
          exact ret_row rfl rfl bF agg_dec HBL.out rfl ⟨by rw [← HN.out], EF.out⟩
theorem rdecide_c (pa : Option Addr) (pn pc : Nat) (rs : List RuleR) (a : AskR) (w : World) (hp : PolOk w pa pn pc rs) (ha : a.Ok w) (hv : ∀ r ∈ rs, ruleE r = 0) (h0 : askE a = 0) :
    Calls Tryz.prog 15 #[.agg #[.slice pa pn pc], .agg a.v.toArray] w fun e w' => e = .returned (.agg (decideD a rs).v.toArray) ∧ Ext w w' := by
  obtain ⟨T, hT, hTb⟩ := askE_time h0
  exact rdecideT_c pa pn pc rs a T w hp ha hv hT hTb
end
end Go.Proofs.YthfddfgncolnbaaGreat
