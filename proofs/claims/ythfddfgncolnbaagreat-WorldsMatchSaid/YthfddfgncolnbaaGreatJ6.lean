/- Contracts and laws that the claim's row leans on (11 texts, joined): keyref1.World; conditions: the policy's memory, its check says OK. slices.Equal of equal rows of strings; keylaw1.sameAsk of equal asks; slices.EqualFunc of rows of equal asks; conditions: the asks' memory. keylaw1.WorldsMatch answers true; conditions: the policy's memory. Readings of arguments are opened; no condition. Readings of slices of octets are opened; no condition. Readings of slices of rows of 32 octets, and of a struct of two ints and such a slice, are opened; no condition. Readings of rows of strings and of parts of structs, with their sizes (taken out of O9); no condition. Readings of rules and asks are opened; no condition. Readings of asks, of lists of rules, and of both as arguments, are opened; no condition. Approvals as values, what is found of them in order, and the members counted; no condition. Readings of policies and approvals are opened; no condition. -/
import Derived.Test.YthfddfgncolnbaaGreatJ5
import Derived.Deep.DeepCutAuto
import Derived.ProofKit
import Derived.OpenShut
import Derived.ChangeSlices
import Derived.WideShapes
import Derived.SizedLaws
import Derived.Deep.Strs
import Derived.WideKeyArr
namespace Go.Proofs.YthfddfgncolnbaaGreat
section
open Go Go.RowKit Go.Maps Go.MapKept Go.WideShapes

theorem bs_map (l : List ByteArray) : (l.map bs).map sv = l.map encStr := by
  rw [List.map_map]
  exact List.map_congr_left fun s _ => bs_str s
theorem sv_oneW (l : List (List UInt8)) : ∀ v ∈ l.map sv, v.oneCell' = true := by
  intro v hv
  obtain ⟨x, _, rfl⟩ := List.mem_map.1 hv
  rfl
theorem iv_oneW (l : List Int) : ∀ v ∈ l.map iv, v.oneCell' = true := by
  intro v hv
  obtain ⟨x, _, rfl⟩ := List.mem_map.1 hv
  rfl
theorem filter_take {α : Type} {l : List α} {j : Nat} {x : α} (p : α → Bool) (h : l[j]? = some x) : (l.take (j + 1)).filter p = (l.take j).filter p ++ (if p x = true then [x] else []) := by
  rw [List.take_add_one, h, List.filter_append]
  congr 1
  simp only [Option.toList_some, List.filter_cons, List.filter_nil]
theorem flat_takeW {α β : Type} {l : List α} {j : Nat} {x : α} (f : α → List β) (h : l[j]? = some x) : (l.take (j + 1)).flatMap f = (l.take j).flatMap f ++ f x := by
  rw [List.take_add_one, h, List.flatMap_append]
  simp

set_option maxRecDepth 100000 in
set_option maxHeartbeats 8000000 in
theorem rWorld_c (pa : Option Addr) (pn pc : Nat) (rs : List RuleR) (w : World) (hp : PolOk w pa pn pc rs) (hE : polE rs pn = 0) :
    Calls Tryz.prog 9 #[.agg #[.slice pa pn pc]] w fun e w' => (¬ szW rs ≤ 100000 ∧ e = .returned (.tuple #[.slice none 0 0, .bool false]) ∧ Ext w w') ∨
      (szW rs ≤ 100000 ∧ ∃ v xs, e = .returned (.tuple #[v, .bool true]) ∧ AsksI w' w.heap.size v xs ∧ xs.map AskR.p = worldP rs ∧ Ext w w') := by
  obtain ⟨h100, hz⟩ := polE_zero hE
  have hrl : rs.length ≤ 100 := by rw [hp.hl]; exact h100
  have HPO := hid hp
  have HZ := hid hz
  clear hp hE hz
  go_enter Tryz.func9, Tryz.ntmps9
  go_upto_region 3 with (fail)
  generalize hwA : World.alloc (World.alloc w _) _ = wA
  have bA : Blk wA w.heap.size [.slice pa pn pc] 24 := by rw [← hwA]; exact (Blk.mk_alloc rfl rfl).alloc _
  have iA : Blk wA (w.heap.size + 1) [.int .i64 0] 3 := by rw [← hwA]; exact blk_two _ _ _ _
  have eA : Ext w wA := by rw [← hwA]; exact ((Ext.refl w).alloc _).alloc _
  have IA : Hid (RInvW wA w.heap.size (.slice none 0 0) [] (.slice none 0 0) [] (.slice (some ⟨w.heap.size + 1, 0, none⟩) 1 1) [0]) := hid ⟨⟨rfl, .inl ⟨rfl, rfl⟩⟩, ⟨rfl, .inl ⟨rfl, rfl⟩⟩, own_mkS (rest := []) (by simpa using iA) (by simp) (by simp) (by omega) (Nat.le_refl _) (by decide), Apart.nil 0⟩
  have BA := hid bA
  have EA := hid eA
  have HTS := hid elem_str
  have HTI := hid elem_int
  clear hwA bA iA eA
  have hwA := EA.out.size
  go_wp2_with (refine wpl_appendN (m := 2) (c := 2) (news := [[], [120]].map sv) HTS.out rfl _ _ rfl w.heap.size rfl rfl (IA.out.ext ((Ext.refl wA).alloc _)).r5 rfl (Cells.of_blk0 (Blk.mk_alloc (T := 9) rfl rfl)) (sv_oneW _) (by simp) (by simp) (by rw [size_allocW]; omega) ?_)
  intro v5 wB ho hg hb
  have IB := hid ((IA.out.ext ((Ext.refl wA).alloc _)).push5 (news := [[], [120]]) rfl ho hg (by rw [size_allocW]; exact hb))
  have EB := hid ((IA.out.ext ((Ext.refl wA).alloc _)).ext5 (EA.out.alloc _) (Nat.le_refl _) hg)
  have BB := hid ((BA.out.alloc _).besides ((IA.out.ext ((Ext.refl wA).alloc _)).r5) hg (by decide))
  rw [show ([] : List (List UInt8)) ++ [[], [120]] = labW refLab (rs.take 0) by simp [labW]] at IB
  clear ho hg hb IA EA BA hwA
  have c0 := BB.out.cell' (i := 0) rfl
  go_wp2
  go_loopw [4, 5, 6, 37] (fun v4 v5 v6 i wr => ∃ (k : Nat) (l4 l5 : List (List UInt8)) (l6 : List Int), k ≤ pn ∧ i = .int .i64 (k : Int) ∧ RInvW wr w.heap.size v4 l4 v5 l5 v6 l6 ∧ l4 = rolesW (rs.take k) ∧ l5 = labW refLab (rs.take k) ∧ l6 = houW (rs.take k) ∧ l4.length ≤ 17 * k ∧ l5.length ≤ 2 + 32 * k ∧ l6.length ≤ 1 + 2 * k ∧ Ext w wr) (fun _ _ _ i _ => pn - (intOf i).toNat)
  case atStart => exact ⟨0, [], _, _, by omega, rfl, IB.out, by simp [rolesW], rfl, by simp [houW], by simp, by simp [labW], by simp, EB.out⟩
  case round =>
    obtain ⟨k, l4, l5, l6, hk, rfl, hinv, h4, h5, h6, n4, n5, n6, e1⟩ := hrel
    have E1 := hid e1
    have INV := hid hinv
    have H4 := hid h4
    have H5 := hid h5
    have H6 := hid h6
    clear e1 hinv h4 h5 h6 IB EB BB
    by_cases hlt : k < pn
    · obtain ⟨r, hrk⟩ : ∃ r, rs[k]? = some r := ⟨rs[k]'(by rw [HPO.out.hl]; exact hlt), by simp⟩
      obtain ⟨A, rfl, hca⟩ := (HPO.out.ext E1.out).at hrk
      have HCA := hid hca
      have hrz := HZ.out r (List.mem_of_getElem? hrk)
      have HOK := hid (HPO.out.ok r (List.mem_of_getElem? hrk))
      obtain ⟨hr16, han16, hl16⟩ := ruleE_k1 hrz
      have HRZ := hid hrz
      have HRL := hid (RuleR.len r)
      have HRK := hid hrk
      clear hca hrk hrz
      have hro := ruleV_one r
      have HAG := hid agg_rule
      go_wp2_with (first | (refine wpl_run rfl (exec_index (i := k) rfl rfl rfl Tryz.underlying22 size_rule hlt _) ?_) | (refine wpl_run rfl (exec_load_at rfl rfl HCA.out HAG.out HRL.out) ?_) | (refine wpl_storew rfl _ (.tmp 8) _ rfl rfl rfl (Blk.mk_alloc (vs := zeroRule) rfl rfl) HAG.out rfl HRL.out hro ?_))
      intro wB bB uB
      have eB : Ext wr wB := uB.ext ((Ext.refl wr).alloc _) (Nat.le_refl _)
      have BB := hid bB
      have EB := hid (E1.out.ext eB)
      have INB := hid (INV.out.ext eB)
      clear bB uB eB HCA INV E1
      generalize wr.heap.size = gr at *
      have c1 := BB.out.cell' (i := 1) rfl
      have hrcell : Cells wB r.ra ((r.roles.map bs).map sv) := by rw [bs_map]; exact (HOK.out.ext EB.out).rcell
      have HRC := hid hrcell
      have hrlen : ((r.roles.map bs).map sv).length = r.rn * 1 := by rw [List.length_map, List.length_map, HOK.out.rl, Nat.mul_one]
      have hwB := EB.out.size
      clear hrcell
      go_wp2_with (refine wpl_appendN (m := r.rn) (c := r.rc) (news := (r.roles.map bs).map sv) HTS.out rfl _ _ rfl w.heap.size rfl rfl INB.out.r4 hrlen HRC.out (sv_oneW _) (by omega) (by omega) hwB ?_)
      intro v4 wC ho hg hb
      have INC := hid (INB.out.push4 (m := r.rn) (news := r.roles.map bs) (by rw [List.length_map]; exact HOK.out.rl) (by rw [List.map_map]; exact ho) hg hb)
      have EC := hid (INB.out.ext4 EB.out (Nat.le_refl _) hg)
      have BC := hid (BB.out.besides INB.out.r4 hg (by decide))
      clear ho hg hb INB EB BB HRC c1
      have c7 := BC.out.cell' (i := 7) rfl
      obtain ⟨M4, hM4⟩ : ∃ M4, l4 ++ r.roles.map bs = M4 := ⟨_, rfl⟩
      have HM4 := hid hM4
      rw [hM4] at INC
      clear hM4
      go_upto_if 47 with (fail)
      obtain ⟨L4, hL4⟩ : ∃ x, rolesW (rs.take (k + 1)) = x := ⟨_, rfl⟩
      have HL4 := hid hL4
      have hL4e : L4 = M4 ++ (if emptyB r.ow then [] else [bs r.ow]) := by
        rw [← hL4, rolesW_succ HRK.out, ← HM4.out, H4.out]
        unfold roleWords
        simp
      have HL4E := hid hL4e
      have hl4n : M4.length ≤ 17 * k + 16 := by rw [← HM4.out, List.length_append, List.length_map, HOK.out.rl]; omega
      clear hL4 hL4e
      go_cut [4] (fun v4 wx => RInvW wx w.heap.size v4 L4 u5 l5 u6 l6 ∧ L4.length ≤ 17 * (k + 1) ∧ Blk wx gr r.v 50 ∧ Ext w wx)
      case first =>
        cases hem : emptyB r.ow with
        | true =>
          have hLe : L4 = M4 := by rw [HL4E.out, hem]; simp
          have HLe := hid hLe
          unfold emptyB at hem
          rw [hem]
          clear hLe
          go_wp2_with fail
          go_meet
          rw [HLe.out]
          exact ⟨INC.out, by omega, BC.out, EC.out⟩
        | false =>
          have hLe : L4 = M4 ++ [bs r.ow] := by rw [HL4E.out, hem]; simp
          have HLe := hid hLe
          unfold emptyB at hem
          rw [hem]
          have hwC := EC.out.size
          clear hLe
          go_wp2_with (refine wpl_appendN (m := 1) (c := 1) (news := [bs r.ow].map sv) HTS.out rfl _ _ rfl w.heap.size rfl rfl (INC.out.ext ((Ext.refl wC).alloc _)).r4 rfl (Cells.of_blk0 (Blk.mk_alloc (T := 9) rfl rfl)) (sv_oneW _) (by omega) (by omega) (by rw [size_allocW]; omega) ?_)
          intro v4' wD ho hg hb
          have IND := hid ((INC.out.ext ((Ext.refl wC).alloc _)).push4 (news := [bs r.ow]) rfl ho hg (by rw [size_allocW]; exact hb))
          have ED := hid ((INC.out.ext ((Ext.refl wC).alloc _)).ext4 (EC.out.alloc _) (Nat.le_refl _) hg)
          have BD := hid ((BC.out.alloc _).besides ((INC.out.ext ((Ext.refl wC).alloc _)).r4) hg (by decide))
          clear ho hg hb INC EC BC
          go_wp2_with fail
          go_meet
          rw [HLe.out]
          exact ⟨IND.out, by rw [List.length_append, List.length_singleton]; omega, BD.out, ED.out⟩
      case rest =>
      obtain ⟨hinD, hn4D, hbD, heD⟩ := hcut
      have IND := hid hinD
      have BD := hid hbD
      have ED := hid heD
      have c3 := BD.out.cell' (i := 3) rfl
      clear hinD hbD heD INC BC EC c7 HL4E
      have HPR := hid (ruleE_labels HRZ.out)
      clear han16 hrlen hwB HM4 hl4n
      go_wp2
      go_loopw [5, 56] (fun v5 i wx => ∃ (j : Nat) (l5' : List (List UInt8)), j ≤ r.ln ∧ i = .int .i64 (j : Int) ∧ RInvW wx w.heap.size u4 L4 v5 l5' u6 l6 ∧ l5' = l5 ++ (r.labels.take j).flatMap (fun s => refLab (bs s)) ∧ l5'.length ≤ 2 + 32 * k + 2 * j ∧ Blk wx gr r.v 50 ∧ Ext w wx) (fun _ i _ => r.ln - (intOf i).toNat)
      case atStart => exact ⟨0, l5, by omega, rfl, IND.out, by simp, by omega, BD.out, ED.out⟩
      case round =>
        obtain ⟨j, l5', hj, rfl, hinv, hl5, hn5, hbb, e2⟩ := hrel
        have INV := hid hinv
        have HL5 := hid hl5
        have BB := hid hbb
        have E2 := hid e2
        clear hinv hl5 hbb e2 IND BD ED
        by_cases hjt : j < r.ln
        · have OK2 := hid (HOK.out.ext E2.out)
          obtain ⟨s, hsj⟩ : ∃ s, r.labels[j]? = some s := ⟨r.labels[j]'(by rw [OK2.out.ll]; exact hjt), by simp⟩
          obtain ⟨A2, hA2, hcs⟩ := strs_at OK2.out.lcell hsj
          rw [Nat.mul_one] at hcs
          have hsz := OK2.out.ls s (List.mem_of_getElem? hsj)
          have hps := HPR.out s (List.mem_of_getElem? hsj)
          obtain ⟨H, hH⟩ : ∃ H, headL (bs s) = H := ⟨_, rfl⟩
          have hHl : H.length ≤ 32 := by rw [← hH]; exact pat_len hps
          have HCUT : Hid (∀ W, Calls Tryz.prog 27 #[.string s, .string ⟨#[42]⟩] W fun e W' => e = .returned (.tuple #[.string (strOf H), .bool (starL (bs s))]) ∧ W' = W) := hid (fun W => by
            rw [← hH]
            exact cutSuffix_c s ⟨#[42]⟩ W (by omega))
          have HTK : Hid ((r.labels.take (j + 1)).flatMap (fun s => refLab (bs s)) = (r.labels.take j).flatMap (fun s => refLab (bs s)) ++ refLab (bs s)) := hid (flat_takeW _ hsj)
          have HRF : Hid (refLab (bs s) = if starL (bs s) then [H, H ++ [120]].filter isNameL else [bs s]) := hid (by unfold refLab; rw [hH])
          have hcl : H.length + ([120] : List UInt8).length ≤ 9223372036854775807 := by simp; omega
          have hw2 := E2.out.size
          rw [hA2]
          clear hsj hps hH OK2
          cases hst : starL (bs s) with
          | false =>
            rw [hst] at HCUT HRF
            go_wp2_with fail
            refine (HCUT.out _).mono ?_
            rintro e w1 ⟨rfl, rfl⟩
            go_wp2_with (refine wpl_appendN (m := 1) (c := 1) (news := [bs s].map sv) HTS.out rfl _ _ rfl w.heap.size rfl rfl (INV.out.ext ((Ext.refl _).alloc _)).r5 rfl (Cells.of_blk0 (Blk.mk_alloc (T := 9) rfl rfl)) (sv_oneW _) (by omega) (by omega) (by rw [size_allocW]; omega) ?_)
            intro v5' wD ho hg hb
            have IND := hid ((INV.out.ext ((Ext.refl _).alloc _)).push5 (news := [bs s]) rfl ho hg (by rw [size_allocW]; exact hb))
            have ED := hid ((INV.out.ext ((Ext.refl _).alloc _)).ext5 (E2.out.alloc _) (Nat.le_refl _) hg)
            have BD := hid ((BB.out.alloc _).besides ((INV.out.ext ((Ext.refl _).alloc _)).r5) hg (by decide))
            have HL5' : Hid (l5' ++ [bs s] = l5 ++ (r.labels.take (j + 1)).flatMap (fun s => refLab (bs s))) := hid (by rw [HTK.out, HRF.out, HL5.out]; simp)
            have hn5' : (l5' ++ [bs s]).length ≤ 2 + 32 * k + 2 * (j + 1) := by rw [List.length_append, List.length_singleton]; omega
            clear ho hg hb INV E2 BB HTK HRF HL5 HCUT hcs
            go_wp2
            go_roundw
            case rel => exact ⟨j + 1, _, by omega, by go_num, IND.out, HL5'.out, hn5', BD.out, ED.out⟩
            case measure => simp [intOf]; omega
          | true =>
            rw [hst] at HCUT HRF
            obtain ⟨X, hX⟩ : ∃ X, H ++ [120] = X := ⟨_, rfl⟩
            have hXl : X.length ≤ 33 := by rw [← hX, List.length_append, List.length_singleton]; omega
            rw [hX, if_pos rfl] at HRF
            have HN : Hid (∀ x : List UInt8, x.length ≤ 33 → ∀ W, Calls Tryz.prog 28 #[.string (strOf x)] W fun e W' => e = .returned (.bool (isNameL x)) ∧ Ext W W') := hid (fun x hx W => by
              have := risName_c (strOf x) W (by rw [sizeOf_str]; omega)
              rwa [show (strOf x).data.toList = x by unfold strOf; simp] at this)
            go_wp2_with fail
            refine (HCUT.out _).mono ?_
            rintro e w1 ⟨rfl, rfl⟩
            go_upto_region 16 with (fail)
            go_wp2_with (first | (refine wpl_run rfl (exec_catR hX rfl rfl rfl hcl _) ?_))
            generalize hwL : World.alloc w1 _ = wL
            have eL : Ext w1 wL := by rw [← hwL]; exact (Ext.refl w1).alloc _
            have bL : Blk wL w1.heap.size ([H, X].map sv) 9 := by rw [← hwL]; exact Blk.mk_alloc rfl rfl
            obtain ⟨gl, hgl⟩ : ∃ gl, w1.heap.size = gl := ⟨_, rfl⟩
            rw [hgl] at bL
            have LIT : Hid (wL.ownsRow 0 9 1 (.slice (some ⟨gl, 0, none⟩) 2 2) 2 ([H, X].map sv)) := hid (own_mkS (rest := []) (by simpa using bL) (by simp) (by simp) (Nat.zero_le _) (Nat.le_refl _) (by decide))
            have AP5 : Hid (Apart u5 (.slice (some ⟨gl, 0, none⟩) 2 2)) := hid (fun g h1 h2 => by
              have h3 := (INV.out.r5.lt g h1).2
              simp only [Value.ownBlock, Option.some.injEq] at h2
              omega)
            have INL := hid (INV.out.ext eL)
            have BL := hid (BB.out.ext eL)
            have EL := hid (E2.out.ext eL)
            rw [hgl]
            clear hwL eL bL INV BB E2 hcs hX hcl hgl
            go_loopw [5, 76] (fun v5 i wx => ∃ (q : Nat) (m5 : List (List UInt8)), q ≤ 2 ∧ i = .int .i64 (q : Int) ∧ RInvW wx w.heap.size u4 L4 v5 m5 u6 l6 ∧ m5 = l5' ++ ([H, X].take q).filter isNameL ∧ m5.length ≤ 2 + 32 * k + 2 * j + q ∧ Blk wx gr r.v 50 ∧ wx.ownsRow 0 9 1 (.slice (some ⟨gl, 0, none⟩) 2 2) 2 ([H, X].map sv) ∧ Apart v5 (.slice (some ⟨gl, 0, none⟩) 2 2) ∧ Ext w wx) (fun _ i _ => 2 - (intOf i).toNat)
            case atStart => exact ⟨0, l5', by omega, rfl, INL.out, by simp, by omega, BL.out, LIT.out, AP5.out, EL.out⟩
            case round =>
              obtain ⟨q, m5, hq, rfl, hinv, hm5, hnm, hbb, hlit, hap, e3⟩ := hrel
              have INV := hid hinv
              have HM5 := hid hm5
              have BB := hid hbb
              have LIQ := hid hlit
              have AP := hid hap
              have E3 := hid e3
              clear hinv hm5 hbb hlit hap e3 INL BL LIT AP5 EL
              by_cases hqt : q < 2
              · obtain ⟨x, hxq⟩ : ∃ x, [H, X][q]? = some x := ⟨[H, X][q]'hqt, by simp⟩
                have hxl : x.length ≤ 33 := by
                  rcases (show q = 0 ∨ q = 1 by omega) with rfl | rfl
                  · simp at hxq; subst hxq; omega
                  · simp at hxq; subst hxq; omega
                have hcx : wr.cell? ⟨gl, q, none⟩ = some (sv x) := by
                  rw [LIQ.out.cellAt q (by omega), List.getElem?_map, hxq]
                  rfl
                have hq0 : (⟨gl, 0, none⟩ : Addr).add q = ⟨gl, q, none⟩ := by rw [addr_add, Nat.zero_add]
                have HFT := hid (filter_take isNameL hxq)
                have hw3 := E3.out.size
                clear hxq
                go_wp2_with fail
                refine (HN.out x hxl _).mono ?_
                rintro e w4 ⟨rfl, e4⟩
                have INV4 := hid (INV.out.ext e4)
                have BB4 := hid (BB.out.ext e4)
                have LIQ4 := hid (own_extW LIQ.out e4)
                have E4 := hid (E3.out.ext e4)
                have hw4 := E4.out.size
                clear INV BB LIQ E3 e4 hcx hq0 hw3
                cases hx : isNameL x with
                | false =>
                  have HM5' : Hid (m5 = l5' ++ ([H, X].take (q + 1)).filter isNameL) := hid (by rw [HFT.out, HM5.out, hx]; simp)
                  clear HM5 HFT hx
                  go_wp2
                  go_roundw
                  case rel => exact ⟨q + 1, m5, by omega, by go_num, INV4.out, HM5'.out, by omega, BB4.out, LIQ4.out, AP.out, E4.out⟩
                  case measure => simp [intOf]; omega
                | true =>
                  have HM5' : Hid (m5 ++ [x] = l5' ++ ([H, X].take (q + 1)).filter isNameL) := hid (by rw [HFT.out, HM5.out, hx]; simp)
                  have hnm' : (m5 ++ [x]).length ≤ 2 + 32 * k + 2 * j + (q + 1) := by rw [List.length_append, List.length_singleton]; omega
                  clear HM5 HFT hx
                  go_wp2_with (refine wpl_appendN (m := 1) (c := 1) (news := [x].map sv) HTS.out rfl _ _ rfl w.heap.size rfl rfl (INV4.out.ext ((Ext.refl _).alloc _)).r5 rfl (Cells.of_blk0 (Blk.mk_alloc (T := 9) rfl rfl)) (sv_oneW _) (by omega) (by omega) (by rw [size_allocW]; omega) ?_)
                  intro v5' wD ho hg hb
                  have IND := hid ((INV4.out.ext ((Ext.refl _).alloc _)).push5 (news := [x]) rfl ho hg (by rw [size_allocW]; exact hb))
                  have ED := hid ((INV4.out.ext ((Ext.refl _).alloc _)).ext5 (E4.out.alloc _) (Nat.le_refl _) hg)
                  have BD := hid ((BB4.out.alloc _).besides ((INV4.out.ext ((Ext.refl _).alloc _)).r5) hg (by decide))
                  have APD := hid (Apart.append AP.out (LIQ4.out.alloc (.cells #[sv x] 9)) (by rw [size_allocW]; exact hb))
                  have LID := hid (Apart.keep AP.out (LIQ4.out.alloc _) hg)
                  clear ho hg hb INV4 E4 BB4 AP LIQ4
                  go_wp2
                  go_roundw
                  case rel => exact ⟨q + 1, _, by omega, by go_num, IND.out, HM5'.out, hnm', BD.out, LID.out, APD.out, ED.out⟩
                  case measure => simp [intOf]; omega
              · obtain rfl : q = 2 := by omega
                have HL5' : Hid (m5 = l5 ++ (r.labels.take (j + 1)).flatMap (fun s => refLab (bs s))) := hid (by
                  rw [HTK.out, HRF.out, HM5.out, HL5.out, List.append_assoc]
                  rfl)
                clear HM5 HTK HRF HL5 HN HCUT LIQ AP
                go_wp2
                go_roundw
                case rel => exact ⟨j + 1, _, by omega, by go_num, INV.out, HL5'.out, by omega, BB.out, E3.out⟩
                case measure => simp [intOf]; omega
        · obtain rfl : j = r.ln := by omega
          obtain ⟨L5, hL5⟩ : ∃ x, labW refLab (rs.take (k + 1)) = x := ⟨_, rfl⟩
          have hle : l5' = L5 := by
            rw [← hL5, labW_succ HRK.out, ← H5.out, HL5.out, List.take_of_length_le (by rw [HOK.out.ll]; exact Nat.le_refl _)]
            rfl
          subst hle
          have HL5' := hid hL5
          have hn5' : l5'.length ≤ 2 + 32 * (k + 1) := by omega
          have c4 := BB.out.cell' (i := 4) rfl
          have c5 := BB.out.cell' (i := 5) rfl
          clear hL5 HL5
          go_wp2
          generalize hwL : World.alloc wr _ = wL
          have eL : Ext wr wL := by rw [← hwL]; exact (Ext.refl wr).alloc _
          have bL : Blk wL wr.heap.size ([r.fr, r.tt].map iv) 3 := by rw [← hwL]; exact Blk.mk_alloc rfl rfl
          obtain ⟨gl, hgl⟩ : ∃ gl, wr.heap.size = gl := ⟨_, rfl⟩
          rw [hgl] at bL
          have LIT : Hid (wL.ownsRow 0 3 1 (.slice (some ⟨gl, 0, none⟩) 2 2) 2 ([r.fr, r.tt].map iv)) := hid (own_mkS (rest := []) (by simpa using bL) (by simp) (by simp) (Nat.zero_le _) (Nat.le_refl _) (by decide))
          have AP6 : Hid (Apart u6 (.slice (some ⟨gl, 0, none⟩) 2 2)) := hid (fun g h1 h2 => by
            have h3 := (INV.out.r6.lt g h1).2
            simp only [Value.ownBlock, Option.some.injEq] at h2
            omega)
          have INL := hid (INV.out.ext eL)
          have EL := hid (E2.out.ext eL)
          rw [hgl]
          clear hwL eL bL INV BB E2 hgl c4 c5
          go_loopw [6, 94] (fun v6 i wx => ∃ (q : Nat) (m6 : List Int), q ≤ 2 ∧ i = .int .i64 (q : Int) ∧ RInvW wx w.heap.size u4 L4 u5 l5' v6 m6 ∧ m6 = l6 ++ ([r.fr, r.tt].take q).filter (fun h => decide (h < 24)) ∧ m6.length ≤ 1 + 2 * k + q ∧ wx.ownsRow 0 3 1 (.slice (some ⟨gl, 0, none⟩) 2 2) 2 ([r.fr, r.tt].map iv) ∧ Apart v6 (.slice (some ⟨gl, 0, none⟩) 2 2) ∧ Ext w wx) (fun _ i _ => 2 - (intOf i).toNat)
          case atStart => exact ⟨0, l6, by omega, rfl, INL.out, by simp, by omega, LIT.out, AP6.out, EL.out⟩
          case round =>
            obtain ⟨q, m6, hq, rfl, hinv, hm6, hnm, hlit, hap, e3⟩ := hrel
            have INV := hid hinv
            have HM6 := hid hm6
            have LIQ := hid hlit
            have AP := hid hap
            have E3 := hid e3
            clear hinv hm6 hlit hap e3 INL LIT AP6 EL
            by_cases hqt : q < 2
            · obtain ⟨z, hzq⟩ : ∃ z, [r.fr, r.tt][q]? = some z := ⟨[r.fr, r.tt][q]'hqt, by simp⟩
              have hcx : wr.cell? ⟨gl, q, none⟩ = some (.int .i64 z) := by
                rw [LIQ.out.cellAt q (by omega), List.getElem?_map, hzq]
                rfl
              have hq0 : (⟨gl, 0, none⟩ : Addr).add q = ⟨gl, q, none⟩ := by rw [addr_add, Nat.zero_add]
              have HFT := hid (filter_take (fun h => decide (h < 24)) hzq)
              have hw3 := E3.out.size
              clear hzq
              by_cases hz : z < 24
              · have dz : decide (z < 24) = true := decide_eq_true hz
                have HM6' : Hid (m6 ++ [z] = l6 ++ ([r.fr, r.tt].take (q + 1)).filter (fun h => decide (h < 24))) := hid (by rw [HFT.out, HM6.out, dz]; simp)
                have hnm' : (m6 ++ [z]).length ≤ 1 + 2 * k + (q + 1) := by rw [List.length_append, List.length_singleton]; omega
                clear HM6 HFT
                go_wp2_with (refine wpl_appendN (m := 1) (c := 1) (news := [z].map iv) HTI.out rfl _ _ rfl w.heap.size rfl rfl (INV.out.ext ((Ext.refl _).alloc _)).r6 rfl (Cells.of_blk0 (Blk.mk_alloc (T := 3) rfl rfl)) (iv_oneW _) (by omega) (by omega) (by rw [size_allocW]; omega) ?_)
                intro v6' wD ho hg hb
                have IND := hid ((INV.out.ext ((Ext.refl _).alloc _)).push6 (zs := [z]) rfl ho hg)
                have ED := hid ((INV.out.ext ((Ext.refl _).alloc _)).ext6 (E3.out.alloc _) (Nat.le_refl _) hg)
                have APD := hid (Apart.append AP.out (LIQ.out.alloc (.cells #[iv z] 3)) (by rw [size_allocW]; exact hb))
                have LID := hid (Apart.keep AP.out (LIQ.out.alloc _) hg)
                clear ho hg hb INV E3 AP LIQ hcx hq0 dz
                go_wp2
                go_roundw
                case rel => exact ⟨q + 1, _, by omega, by go_num, IND.out, HM6'.out, hnm', LID.out, APD.out, ED.out⟩
                case measure => simp [intOf]; omega
              · have dz : decide (z < 24) = false := decide_eq_false hz
                have HM6' : Hid (m6 = l6 ++ ([r.fr, r.tt].take (q + 1)).filter (fun h => decide (h < 24))) := hid (by rw [HFT.out, HM6.out, dz]; simp)
                clear HM6 HFT
                go_wp2
                go_roundw
                case rel => exact ⟨q + 1, m6, by omega, by go_num, INV.out, HM6'.out, by omega, LIQ.out, AP.out, E3.out⟩
                case measure => simp [intOf]; omega
            · obtain rfl : q = 2 := by omega
              have HM6' : Hid (m6 = houW (rs.take (k + 1))) := hid (by
                rw [houW_succ HRK.out, HM6.out, H6.out]
                rfl)
              have H4' : Hid (L4 = rolesW (rs.take (k + 1))) := hid HL4.out.symm
              have H5' : Hid (l5' = labW refLab (rs.take (k + 1))) := hid HL5'.out.symm
              clear HM6 HL4 HL5' LIQ AP H4 H5 H6
              go_wp2
              go_roundw
              case rel => exact ⟨k + 1, L4, l5', m6, by omega, by go_num, INV.out, H4'.out, H5'.out, HM6'.out, by omega, by omega, by omega, E3.out⟩
              case measure => simp [intOf]; omega
    · obtain rfl : k = pn := by omega
      have H4' : Hid (l4 = rolesW rs) := hid (by rw [H4.out, List.take_of_length_le (by rw [HPO.out.hl]; exact Nat.le_refl _)])
      have H5' : Hid (l5 = labW refLab rs) := hid (by rw [H5.out, List.take_of_length_le (by rw [HPO.out.hl]; exact Nat.le_refl _)])
      have H6' : Hid (l6 = houW rs) := hid (by rw [H6.out, List.take_of_length_le (by rw [HPO.out.hl]; exact Nat.le_refl _)])
      have HSM := hid (labsOf_small HZ.out)
      have HSM4 : Hid (∀ x ∈ l4, x.length ≤ 140737488355328) := hid (by
        intro x hx
        rw [H4'.out] at hx
        unfold rolesW roleWords at hx
        simp only [List.mem_flatMap, List.mem_append, List.mem_map] at hx
        obtain ⟨r, hr, hx⟩ := hx
        have hok := HPO.out.ok r hr
        rcases hx with ⟨s, hs, rfl⟩ | hx
        · rw [bs_len]; exact hok.rs s hs
        · split at hx
          · cases hx
          · rw [List.mem_singleton] at hx
            subst hx
            rw [bs_len]; exact hok.os)
      have HH24 := hid (hoursW_in (rs := rs) (fun r hr => ruleE_24 (HZ.out r hr)))
      clear H4 H5 H6 c0 HPO HZ
      go_wp2_with fail
      refine (sortStr_c INV.out.r4 (by omega)).mono ?_
      rintro e w1 ⟨rfl, ho, hg⟩
      have E2 := hid (INV.out.ext4 E1.out (Nat.le_refl _) hg)
      have INV2 := hid (INV.out.set4 (sortL_len l4) ho hg rfl)
      clear ho hg INV E1
      go_wp2_with fail
      refine (compStr_c INV2.out.r4 (by rw [sortL_len]; omega)).mono ?_
      rintro e w2 ⟨v4, rfl, ho, hg, hb⟩
      have hc4 : Lib.compact (sortL l4) = canL l4 := by rw [comp_dd]; rfl
      rw [hc4] at ho
      have E3 := hid (INV2.out.ext4 E2.out (Nat.le_refl _) hg)
      have INV3 := hid (INV2.out.set4 rfl ho hg hb)
      clear ho hg hb INV2 E2 hc4
      go_wp2_with fail
      refine (sortStr_c INV3.out.r5 (by omega)).mono ?_
      rintro e w3 ⟨rfl, ho, hg⟩
      have E4 := hid (INV3.out.ext5 E3.out (Nat.le_refl _) hg)
      have INV4 := hid (INV3.out.set5 (sortL_len l5) ho hg rfl)
      clear ho hg INV3 E3
      go_wp2_with fail
      refine (compStr_c INV4.out.r5 (by rw [sortL_len]; omega)).mono ?_
      rintro e w4 ⟨v5, rfl, ho, hg, hb⟩
      have hc5 : Lib.compact (sortL l5) = canL l5 := by rw [comp_dd]; rfl
      rw [hc5] at ho
      have E5 := hid (INV4.out.ext5 E4.out (Nat.le_refl _) hg)
      have INV5 := hid (INV4.out.set5 rfl ho hg hb)
      clear ho hg hb INV4 E4 hc5
      go_wp2_with fail
      refine (sortInt_c INV5.out.r6 (by omega)).mono ?_
      rintro e w5 ⟨rfl, ho, hg⟩
      have E6 := hid (INV5.out.ext6 E5.out (Nat.le_refl _) hg)
      have INV6 := hid (INV5.out.set6 (sortI_len l6) ho hg)
      clear ho hg INV5 E5
      go_wp2_with fail
      refine (compInt_c INV6.out.r6 (by rw [sortI_len]; omega)).mono ?_
      rintro e w6 ⟨v6, rfl, ho, hg, hb⟩
      have hc6 : Lib.compact (sortI l6) = canI l6 := by rw [comp_dd]; rfl
      rw [hc6] at ho
      have E7 := hid (INV6.out.ext6 E6.out (Nat.le_refl _) hg)
      have INV7 := hid (INV6.out.set6 rfl ho hg)
      clear ho hg hb INV6 E6 hc6
      have hn4 : (canL l4).length ≤ 1700 := Nat.le_trans (canL_len l4) (by omega)
      have hn5 : (canL l5).length ≤ 3300 := Nat.le_trans (canL_len l5) (by omega)
      have hn6 : (canI l6).length ≤ 300 := Nat.le_trans (canI_len l6) (by omega)
      have HSM4' : Hid (∀ x ∈ canL l4, x.length ≤ 140737488355328) := hid (fun x hx => HSM4.out x ((canL_mem l4 x).1 hx))
      obtain ⟨SS, hSS⟩ : ∃ x, setsOf rs = x := ⟨_, rfl⟩
      obtain ⟨LL, hLL⟩ : ∃ x, labsOf rs = x := ⟨_, rfl⟩
      obtain ⟨HH, hHH⟩ : ∃ x, hoursW rs = x := ⟨_, rfl⟩
      obtain ⟨ro, hro⟩ : ∃ x, canL l4 = x := ⟨_, rfl⟩
      have hLL2 : canL l5 = LL := by rw [H5'.out]; exact hLL
      have hHH2 : canI l6 = HH := by rw [H6'.out]; exact hHH
      have HSW : Hid (setsW ro = SS) := hid (by rw [← hro, H4'.out]; exact hSS)
      have hSz : szW rs = SS.length * 12 * LL.length * HH.length := by unfold szW; rw [hSS, hLL, hHH]
      have hWP : worldP rs = SS.flatMap fun s => actsW.flatMap fun a => LL.flatMap fun l => HH.map fun h => (⟨zer 16, s.map strOf, a, strOf l, zer 16, 3600 * h, zer 32⟩ : AskP) := by unfold worldP; rw [hSS, hLL, hHH]
      rw [hro, hLL2, hHH2] at INV7
      rw [hro] at hn4 HSM4'
      rw [hLL2] at hn5
      rw [hHH2] at hn6
      rw [hLL] at HSM
      rw [hHH] at HH24
      have hL0 : 0 < LL.length := by rw [← hLL]; exact labsOf_pos rs
      have hH0 : 0 < HH.length := by rw [← hHH]; exact hoursW_pos rs
      have hS15 : SS.length ≤ 1500000 := by rw [← HSW.out]; exact setsW_le ro hn4
      obtain ⟨Sz, hSz2⟩ : ∃ n, szW rs = n := ⟨_, rfl⟩
      have hSzz : SS.length * 12 * LL.length * HH.length = Sz := by rw [← hSz2, hSz]
      have HWP := hid hWP
      have HSZ := hid hSz2
      clear hSS hLL hHH hro hLL2 hHH2 hSz hWP hSz2 H4' H5' H6' HSM4 n4 n5 n6
      obtain ⟨a4, c4, rfl, hc4, hx1, hy1⟩ := own_cellsA INV7.out.r4
      obtain ⟨a5, c5, rfl, hc5, hx2, hy2⟩ := own_cellsA INV7.out.r5
      obtain ⟨a6, c6, rfl, hc6, hx3, hy3⟩ := own_cellsA INV7.out.r6
      clear hx1 hx2 hx3 hy1 hy2 hy3
      have hwB := E7.out.size
      have HT := hid elem_sets
      go_upto_region 37 with (fail)
      generalize hwC : World.alloc w6 _ = wC
      have bC : Blk wC w6.heap.size [.slice none 0 0] 36 := by rw [← hwC]; exact Blk.mk_alloc rfl rfl
      have eC : Ext w6 wC := by rw [← hwC]; exact (Ext.refl w6).alloc _
      have PC : Hid (PInvW wC w.heap.size (.slice (some ⟨w6.heap.size, 0, none⟩) 1 1) [⟨none, 0, 0, []⟩] ⟨a4, ro.length, c4, ro⟩ ⟨a5, LL.length, c5, LL⟩ (.slice a6 HH.length c6) HH) := hid
        ⟨⟨own_mkS (rest := []) (by simpa [SetR.v] using bC) (by simp) (by simp) hwB (Nat.le_refl _) (by decide), fun s hs => by rw [List.mem_singleton] at hs; subst hs; exact SetR.Own.nil _⟩,
         ⟨⟨_, own_extW INV7.out.r4 eC⟩, HSM4'.out⟩, ⟨⟨_, own_extW INV7.out.r5 eC⟩, HSM.out⟩, own_extW INV7.out.r6 eC⟩
      have EC := hid (E7.out.ext eC)
      clear hwC bC eC INV7 E7 hwB
      go_wp2
      go_loopw [17, 121] (fun v i wr => ∃ (k : Nat) (ss : List SetR), k ≤ ro.length ∧ i = .int .i64 (k : Int) ∧ PInvW wr w.heap.size v ss ⟨a4, ro.length, c4, ro⟩ ⟨a5, LL.length, c5, LL⟩ (.slice a6 HH.length c6) HH ∧ ss.map SetR.roles = [] :: (ro.take k).map (fun r => [r]) ∧ Ext w wr) (fun _ i _ => ro.length - (intOf i).toNat)
      case atStart => exact ⟨0, _, by omega, rfl, PC.out, rfl, EC.out⟩
      case round =>
        obtain ⟨k, ss, hk, rfl, hinv, hss, e1⟩ := hrel
        have E1 := hid e1
        have INV := hid hinv
        have HSS := hid hss
        clear e1 hinv hss PC EC
        by_cases hlt : k < ro.length
        · obtain ⟨x, hxk⟩ : ∃ x, ro[k]? = some x := ⟨ro[k]'hlt, by simp⟩
          obtain ⟨A2, hA2, hcs⟩ := cells_one (INV.out.o4.ok (by show ro.length ≤ _; omega)).cell (show (ro.map sv)[k]? = some (sv x) by rw [List.getElem?_map, hxk]; rfl)
          rw [Nat.mul_one] at hcs
          have hA3 : a4 = some A2 := hA2
          subst hA3
          have HXK := hid hxk
          have hsl : ss.length + 1 ≤ 140737488355328 := by have := congrArg List.length HSS.out; simp at this; omega
          have hsb : (ss.length + 1) * 24 ≤ 140737488355328 := by have := congrArg List.length HSS.out; simp at this; omega
          have hwr : w.heap.size ≤ wr.heap.size := E1.out.size
          have hwr2 : w.heap.size ≤ wr.heap.size + 1 + 1 := by omega
          clear hxk hA2
          go_wp2_with (refine wpl_appendA (m := 1) (c := 1) (news := [.slice (some ⟨wr.heap.size, 0, none⟩) 1 1]) HT.out rfl _ _ rfl w.heap.size rfl rfl (INV.out.out.ext (((Ext.refl wr).alloc _).alloc _)).row rfl (by decide) (fun h => by cases h) (Cells.of_blk0 (blk_two _ _ _ 36)) (by simp [Value.oneCell']) hsl hsb (by rw [size_allocW, size_allocW]; exact hwr2) ?_)
          intro v' w' ho' hg' _
          have INV' := hid (INV.out.made (l := [x]) rfl (fun y hy => by rw [List.mem_singleton] at hy; subst hy; exact HSM4'.out _ (List.mem_of_getElem? HXK.out)) (by show (1 : Nat) ≤ _; decide) ho' hg')
          have E' := hid ((INV.out.ext (((Ext.refl wr).alloc _).alloc _)).grow ((E1.out.alloc _).alloc _) (Nat.le_refl _) hg')
          have HSS' : Hid ((ss ++ [(⟨some ⟨wr.heap.size, 0, none⟩, 1, 1, [x]⟩ : SetR)]).map SetR.roles = [] :: (ro.take (k + 1)).map (fun r => [r])) := hid (by
            rw [List.map_append, HSS.out, List.take_add_one, HXK.out]
            simp)
          clear ho' hg' hcs HXK hsl hsb hwr hwr2 INV HSS E1
          go_wp2
          go_roundw
          case rel => exact ⟨k + 1, _, by omega, by go_num, INV'.out, HSS'.out, E'.out⟩
          case measure => simp [intOf]; omega
        · obtain rfl : k = ro.length := by omega
          have HS0 : Hid (ss.map SetR.roles = ([] :: ro.map (fun r => [r]))) := hid (by rw [HSS.out, List.take_length])
          obtain ⟨S0, hS0⟩ : ∃ S0, ([] :: ro.map (fun r => [r])) ++ pairsW ro = S0 := ⟨_, rfl⟩
          have HSI : Hid (ss.map SetR.roles ++ pairsW (ro.drop 0) = S0) := hid (by rw [HS0.out, List.drop_zero, hS0])
          have hlenS : S0.length ≤ 1500000 := by
            have := setsW_le ro hn4
            unfold setsW at this
            rw [hS0, List.length_append] at this
            omega
          have HS := hid hS0
          clear HS0 HSS hS0
          go_wp2
          go_loopw [17, 133] (fun v i wr => ∃ (k : Nat) (ss : List SetR), k ≤ ro.length ∧ i = .int .i64 (k : Int) ∧ PInvW wr w.heap.size v ss ⟨a4, ro.length, c4, ro⟩ ⟨a5, LL.length, c5, LL⟩ (.slice a6 HH.length c6) HH ∧ ss.map SetR.roles ++ pairsW (ro.drop k) = S0 ∧ Ext w wr) (fun _ i _ => ro.length - (intOf i).toNat)
          case atStart => exact ⟨0, _, by omega, rfl, INV.out, HSI.out, E1.out⟩
          case round =>
            obtain ⟨k, ss, hk, rfl, hinv, hss, e1⟩ := hrel
            have E1 := hid e1
            have INV := hid hinv
            have HSS := hid hss
            clear e1 hinv hss HSI
            by_cases hlt : k < ro.length
            · obtain ⟨x, hxk⟩ : ∃ x, ro[k]? = some x := ⟨ro[k]'hlt, by simp⟩
              have hA4 : ∃ A2, a4 = some A2 := by
                obtain ⟨A2, hA2, _⟩ := cells_one (INV.out.o4.ok (by show ro.length ≤ _; omega)).cell (show (ro.map sv)[k]? = some (sv x) by rw [List.getElem?_map, hxk]; rfl)
                exact ⟨A2, hA2⟩
              obtain ⟨A2, rfl⟩ := hA4
              have HXK := hid hxk
              have hwk : IntKind.i64.wrap ((k : Int) + 1) = ((k + 1 : Nat) : Int) := by rw [IntWalk.i64_in _ (by omega)]; omega
              have HXZ := hid (HSM4'.out x (List.mem_of_getElem? hxk))
              obtain ⟨R1, hR1⟩ : ∃ R1, pairsW (ro.drop (k + 1)) = R1 := ⟨_, rfl⟩
              have HR1 := hid hR1
              have HSI : Hid (ss.map SetR.roles ++ ((ro.drop (k + 1)).map (fun t => [x, t]) ++ R1) = S0) := hid (by
                have := HSS.out
                rw [pairsW_at hxk, hR1] at this
                exact this)
              clear hxk hR1
              go_wp2
              go_loopw [17, 21] (fun v i wr => ∃ (j : Nat) (ss : List SetR), k + 1 ≤ j ∧ j ≤ ro.length ∧ i = .int .i64 (j : Int) ∧ PInvW wr w.heap.size v ss ⟨some A2, ro.length, c4, ro⟩ ⟨a5, LL.length, c5, LL⟩ (.slice a6 HH.length c6) HH ∧ ss.map SetR.roles ++ ((ro.drop j).map (fun t => [x, t]) ++ R1) = S0 ∧ Ext w wr) (fun _ i _ => ro.length - (intOf i).toNat)
              case atStart => exact ⟨k + 1, _, by omega, by omega, by first | rfl | (simp; done), INV.out, HSI.out, E1.out⟩
              case round =>
                obtain ⟨j, ss, hkj, hj, rfl, hinv, hss, e1⟩ := hrel
                have E1 := hid e1
                have INV := hid hinv
                have HSS := hid hss
                clear e1 hinv hss HSI
                by_cases hjt : j < ro.length
                · obtain ⟨y, hyj⟩ : ∃ y, ro[j]? = some y := ⟨ro[j]'hjt, by simp⟩
                  have HYJ := hid hyj
                  have hsl : ss.length + 1 ≤ 140737488355328 := by
                    have := congrArg List.length HSS.out
                    rw [List.length_append, List.length_map] at this
                    omega
                  have hsb : (ss.length + 1) * 24 ≤ 140737488355328 := by
                    have := congrArg List.length HSS.out
                    rw [List.length_append, List.length_map] at this
                    omega
                  have hwr : w.heap.size ≤ wr.heap.size := E1.out.size
                  have hwr2 : w.heap.size ≤ wr.heap.size + 1 + 1 := by omega
                  clear hyj
                  go_upto_region 48 with (fail)
                  obtain ⟨C, hC⟩ : ∃ C : World → Prop, C = fun w' => Ext w w' ∧ SetR.Own w' ⟨some A2, ro.length, c4, ro⟩ := ⟨_, rfl⟩
                  have hC0 : ∀ w', C w' ↔ (Ext w w' ∧ SetR.Own w' ⟨some A2, ro.length, c4, ro⟩) := fun w' => by rw [hC]
                  clear hC
                  have HCC := hid hC0
                  clear hC0
                  have hCx : ∀ w w', C w → Ext w w' → C w' := fun w w' h1 h2 => (HCC.out w').2 ⟨((HCC.out w).1 h1).1.ext h2, ((HCC.out w).1 h1).2.ext h2⟩
                  have hCA : C wr := (HCC.out _).2 ⟨E1.out, INV.out.o4⟩
                  have hcx : ∀ w1, C w1 → w1.cell? (A2.add (k * 1)) = some (sv x) := fun w1 h1 => by
                    obtain ⟨A3, hA3, hc3⟩ := cells_one (((HCC.out w1).1 h1).2.ok (by show ro.length ≤ _; omega)).cell (show (ro.map sv)[k]? = some (sv x) by rw [List.getElem?_map, HXK.out]; rfl)
                    injection hA3 with hA3
                    rw [hA3]; exact hc3
                  have hcy : ∀ w1, C w1 → w1.cell? (A2.add (j * 1)) = some (sv y) := fun w1 h1 => by
                    obtain ⟨A3, hA3, hc3⟩ := cells_one (((HCC.out w1).1 h1).2.ok (by show ro.length ≤ _; omega)).cell (show (ro.map sv)[j]? = some (sv y) by rw [List.getElem?_map, HYJ.out]; rfl)
                    injection hA3 with hA3
                    rw [hA3]; exact hc3
                  refine wp_region_held_drew (S := C) (by kernel_rfl) (hCx _ _ hCA (Ext.refl _).drew) (fun hS0 => ?_)
                  refine held_take 0 (v := ?tv1) rfl (by kernel_rfl) (by kernel_rfl) (by kernel_rfl) (fun _ _ _ h => h) (.inl ⟨rfl, ?ty1⟩) hS0 ?tr1
                  case ty1 => (intro _ _; go_simp; try with_reducible rfl)
                  case tr1 =>
                  simp only [Act.put, List.setIfInBounds_toArray, List.set_cons_succ, List.set_cons_zero]
                  refine held_take 1 (v := ?tv2) rfl (by kernel_rfl) (by kernel_rfl) (by kernel_rfl) (fun _ _ _ h => h) (.inl ⟨rfl, ?ty2⟩) hS0 ?tr2
                  case ty2 => (intro _ _; go_simp; try with_reducible rfl)
                  case tr2 =>
                  simp only [Act.put, List.setIfInBounds_toArray, List.set_cons_succ, List.set_cons_zero]
                  refine held_take 2 (v := ?tv3) rfl (by kernel_rfl) (by kernel_rfl) (by kernel_rfl) (fun _ _ _ h => h) (.inl ⟨rfl, ?ty3⟩) hS0 ?tr3
                  case ty3 => (intro _ _; go_simp; try with_reducible rfl)
                  case tr3 =>
                  simp only [Act.put, List.setIfInBounds_toArray, List.set_cons_succ, List.set_cons_zero]
                  refine held_take 3 (v := _) rfl (by kernel_rfl) (by kernel_rfl) (by kernel_rfl) (fun _ _ _ h => h) (yieldsI_run rfl (fun w1 _ => exec_index (i := k) rfl rfl rfl Tryz.underlying36 size_str hlt w1)) hS0 ?_
                  simp only [Act.put, List.setIfInBounds_toArray, List.set_cons_succ, List.set_cons_zero]
                  refine held_take 4 (v := _) rfl (by kernel_rfl) (by kernel_rfl) (by kernel_rfl) (fun _ _ _ h => h) (yieldsI_run rfl (fun w1 h => exec_load_oneU rfl rfl (hcx w1 h) one_str)) hS0 ?_
                  simp only [Act.put, List.setIfInBounds_toArray, List.set_cons_succ, List.set_cons_zero]
                  refine held_take 5 (v := ?tv4) rfl (by kernel_rfl) (by kernel_rfl) (by kernel_rfl) (fun _ _ _ h => h) (.inl ⟨rfl, ?ty4⟩) hS0 ?tr4
                  case ty4 => (intro _ _; go_simp; try with_reducible rfl)
                  case tr4 =>
                  simp only [Act.put, List.setIfInBounds_toArray, List.set_cons_succ, List.set_cons_zero]
                  refine held_take 6 (v := ?tv5) rfl (by kernel_rfl) (by kernel_rfl) (by kernel_rfl) (fun _ _ _ h => h) (.inl ⟨rfl, ?ty5⟩) hS0 ?tr5
                  case ty5 => (intro _ _; go_simp; try with_reducible rfl)
                  case tr5 =>
                  simp only [Act.put, List.setIfInBounds_toArray, List.set_cons_succ, List.set_cons_zero]
                  refine held_take 7 (v := _) rfl (by kernel_rfl) (by kernel_rfl) (by kernel_rfl) (fun _ _ _ h => h) (yieldsI_run rfl (fun w1 _ => exec_index (i := j) rfl rfl rfl Tryz.underlying36 size_str hjt w1)) hS0 ?_
                  simp only [Act.put, List.setIfInBounds_toArray, List.set_cons_succ, List.set_cons_zero]
                  refine held_take 8 (v := _) rfl (by kernel_rfl) (by kernel_rfl) (by kernel_rfl) (fun _ _ _ h => h) (yieldsI_run rfl (fun w1 h => exec_load_oneU rfl rfl (hcy w1 h) one_str)) hS0 ?_
                  simp only [Act.put, List.setIfInBounds_toArray, List.set_cons_succ, List.set_cons_zero]
                  clear hcx hcy
                  have INVd := hid (INV.out.ext (Ext.refl wr).drew)
                  have Ed := hid (E1.out.ext (Ext.refl wr).drew)
                  generalize wr.drew = wd at *
                  have hwd := Ed.out.size
                  refine held_one (i := 9) (by kernel_rfl) rfl ?_
                  intro Q' hQ
                  go_wp2_with fail
                  refine hQ _ _ (hCx _ _ hS0 ((Ext.refl wd).alloc _)) ?_
                  clear hQ Q'
                  try dsimp only
                  try simp only [Act.put, List.setIfInBounds_toArray, List.set_cons_succ, List.set_cons_zero]
                  have hS1 := hCx _ _ hS0 ((Ext.refl wd).alloc (.cells #[sv x, sv y] 9))
                  refine held_one (i := 10) (by kernel_rfl) rfl ?_
                  intro Q' hQ
                  go_wp2_with fail
                  refine hQ _ _ (hCx _ _ hS1 ((Ext.refl _).alloc _)) ?_
                  clear hQ Q'
                  try dsimp only
                  try simp only [Act.put, List.setIfInBounds_toArray, List.set_cons_succ, List.set_cons_zero]
                  refine held_one (i := 11) (by kernel_rfl) rfl ?_
                  intro Q' hQ
                  go_wp2_with (refine wpl_appendA (m := 1) (c := 1) (news := [.slice (some ⟨wd.heap.size, 0, none⟩) 2 2]) HT.out rfl _ _ rfl w.heap.size rfl rfl (INVd.out.out.ext (((Ext.refl wd).alloc _).alloc _)).row rfl (by decide) (fun h => by cases h) (Cells.of_blk0 (blk_two _ _ _ 36)) (by simp [Value.oneCell']) hsl hsb (by rw [size_allocW, size_allocW]; omega) ?_)
                  intro v' w' ho' hg' _
                  have INV' := hid (INVd.out.made (l := [x, y]) rfl (fun z hz => by
                    simp only [List.mem_cons, List.not_mem_nil, or_false] at hz
                    rcases hz with rfl | rfl
                    · exact HXZ.out
                    · exact HSM4'.out _ (List.mem_of_getElem? HYJ.out)) (by show (2 : Nat) ≤ _; decide) ho' hg')
                  have E' := hid ((INVd.out.ext (((Ext.refl wd).alloc _).alloc _)).grow ((Ed.out.alloc _).alloc _) (Nat.le_refl _) hg')
                  have HSS' : Hid ((ss ++ [(⟨some ⟨wd.heap.size, 0, none⟩, 2, 2, [x, y]⟩ : SetR)]).map SetR.roles ++ ((ro.drop (j + 1)).map (fun t => [x, t]) ++ R1) = S0) := hid (by
                    have := HSS.out
                    rw [drop_cons HYJ.out] at this
                    rw [← this]
                    simp)
                  have hS3 : C w' := (HCC.out _).2 ⟨E'.out, INV'.out.o4⟩
                  clear ho' hg' hS0 hS1 INV INVd E1 Ed HSS HYJ
                  go_wp2_with fail
                  refine hQ _ _ hS3 ?_
                  clear hQ Q'
                  have hS0 := hS3
                  clear hS3
                  try dsimp only
                  try simp only [Act.put, List.setIfInBounds_toArray, List.set_cons_succ, List.set_cons_zero]
                  refine held_take 12 (v := ?tv6) rfl (by kernel_rfl) (by kernel_rfl) (by kernel_rfl) (fun _ _ _ h => h) (.inl ⟨rfl, ?ty6⟩) hS0 ?tr6
                  case ty6 => (intro _ _; go_simp; try with_reducible rfl)
                  case tr6 =>
                  simp only [Act.put, List.setIfInBounds_toArray, List.set_cons_succ, List.set_cons_zero]
                  refine wpAnyH_done (by kernel_rfl) ?_ _
                  clear hS0 hCA hCx HCC
                  have hwj : IntKind.i64.wrap ((j : Int) + 1) = ((j + 1 : Nat) : Int) := by rw [IntWalk.i64_in _ (by omega)]; omega
                  go_wp2
                  go_roundw
                  case rel => exact ⟨j + 1, _, by omega, by omega, by go_num, INV'.out, HSS'.out, E'.out⟩
                  case measure => simp [intOf]; omega
                · obtain rfl : j = ro.length := by omega
                  have HSS' : Hid (ss.map SetR.roles ++ pairsW (ro.drop (k + 1)) = S0) := hid (by
                    have := HSS.out
                    rw [List.drop_of_length_le (Nat.le_refl _)] at this
                    rw [HR1.out]
                    simpa using this)
                  clear HSS HR1
                  go_wp2
                  go_roundw
                  case rel => exact ⟨k + 1, _, by omega, by go_num, INV.out, HSS'.out, E1.out⟩
                  case measure => simp [intOf]; omega
            · obtain rfl : k = ro.length := by omega
              have HS1 : Hid (ss.map SetR.roles = S0) := hid (by have := HSS.out; rw [pairsW_end (Nat.le_refl _)] at this; simpa using this)
              have HSW2 : Hid (SS = S0 ++ (if 3 ≤ ro.length then [ro] else [])) := hid (by rw [← HSW.out]; unfold setsW; rw [HS.out])
              clear HSS HS
              go_upto_if 159 with (fail)
              go_cut [17] (fun v wx => ∃ ss, PInvW wx w.heap.size v ss ⟨a4, ro.length, c4, ro⟩ ⟨a5, LL.length, c5, LL⟩ (.slice a6 HH.length c6) HH ∧ ss.map SetR.roles = SS ∧ Ext w wx)
              case first =>
                by_cases h3 : 3 ≤ ro.length
                · have d3 : decide ((2 : Int) < (ro.length : Int)) = true := decide_eq_true (by omega)
                  have hsl : ss.length + 1 ≤ 140737488355328 := by
                    have := congrArg List.length HS1.out
                    rw [List.length_map] at this
                    omega
                  have hsb : (ss.length + 1) * 24 ≤ 140737488355328 := by
                    have := congrArg List.length HS1.out
                    rw [List.length_map] at this
                    omega
                  have hwr : w.heap.size ≤ wr.heap.size := E1.out.size
                  have hwr2 : w.heap.size ≤ wr.heap.size + 1 := by omega
                  rw [d3]
                  go_wp2_with (refine wpl_appendA (m := 1) (c := 1) (news := [.slice a4 ro.length c4]) HT.out rfl _ _ rfl w.heap.size rfl rfl (INV.out.out.ext ((Ext.refl wr).alloc _)).row rfl (by decide) (fun h => by cases h) (Cells.of_blk0 (Blk.mk_alloc (T := 36) rfl rfl)) (by simp [Value.oneCell']) hsl hsb (by rw [size_allocW]; exact hwr2) ?_)
                  intro v' w' ho' hg' _
                  have INV' := hid ((INV.out.ext ((Ext.refl wr).alloc _)).push (s := ⟨a4, ro.length, c4, ro⟩) (INV.out.o4.ext ((Ext.refl wr).alloc _)) ho' hg')
                  have E' := hid ((INV.out.ext ((Ext.refl wr).alloc _)).grow (E1.out.alloc _) (Nat.le_refl _) hg')
                  have HSF : Hid ((ss ++ [(⟨a4, ro.length, c4, ro⟩ : SetR)]).map SetR.roles = SS) := hid (by rw [HSW2.out, if_pos h3, List.map_append, HS1.out]; rfl)
                  clear ho' hg' hsl hsb hwr hwr2 INV E1
                  go_wp2
                  go_meet
                  exact ⟨_, INV'.out, HSF.out, E'.out⟩
                · have d3 : decide ((2 : Int) < (ro.length : Int)) = false := decide_eq_false (by omega)
                  have HSF : Hid (ss.map SetR.roles = SS) := hid (by rw [HSW2.out, if_neg h3, HS1.out]; simp)
                  rw [d3]
                  go_wp2
                  go_meet
                  exact ⟨_, INV.out, HSF.out, E1.out⟩
              case rest =>
              obtain ⟨ss2, hinv, hss2, e1⟩ := hcut
              have INVW := hid (hinv.winv w.heap.size)
              have HSS := hid hss2
              have EC := hid e1
              clear hinv hss2 e1 INV E1 HS1 HSW2
              obtain ⟨B2, hset⟩ := INVW.out.sets
              obtain ⟨sa, sc, hu17, hsc, hx1, hy1⟩ := own_cellsA hset.row
              subst hu17
              clear hx1 hy1 hset
              have HSMALL : Hid (∀ s ∈ ss2, s.roles.length ≤ 1700) := hid (fun s hs => sets_small hn4 _ (by rw [HSW.out, ← HSS.out]; exact List.mem_map.2 ⟨s, hs, rfl⟩))
              obtain ⟨ss, hsseq⟩ : ∃ x, ss2 = x := ⟨_, rfl⟩
              subst hsseq
              obtain ⟨nS, hnS⟩ : ∃ n, ss2.length = n := ⟨_, rfl⟩
              obtain ⟨nL, hnL⟩ : ∃ n, LL.length = n := ⟨_, rfl⟩
              obtain ⟨nH, hnH⟩ : ∃ n, HH.length = n := ⟨_, rfl⟩
              have hSl : SS.length = nS := by rw [← HSS.out, List.length_map]; exact hnS
              rw [hSl, hnL, hnH] at hSzz
              rw [hSl] at hS15
              rw [hnL] at hn5 hL0 hc5
              rw [hnH] at hn6 hH0 hc6
              rw [hnS] at hsc
              rw [hnS, hnL, hnH] at INVW
              rw [hnS, hnL, hnH]
              obtain ⟨p1, hp1⟩ : ∃ p, nS * 12 = p := ⟨_, rfl⟩
              obtain ⟨p2, hp2⟩ : ∃ p, p1 * nL = p := ⟨_, rfl⟩
              have hp3 : p2 * nH = Sz := by rw [← hSzz, ← hp2, ← hp1]
              have hb1 : p1 ≤ 18000000 := by omega
              have hb2 : p2 ≤ 18000000 * 3300 := by rw [← hp2]; exact Nat.mul_le_mul hb1 hn5
              have hb3 : Sz ≤ 18000000 * 3300 * 300 := by rw [← hp3]; exact Nat.mul_le_mul hb2 hn6
              have hw1 : IntKind.i64.wrap ((nS : Int) * 12) = (p1 : Int) := by
                rw [show ((nS : Int) * 12) = ((p1 : Nat) : Int) by rw [← hp1]; push_cast; rfl]
                exact IntWalk.i64_in _ (by omega)
              have hw2 : IntKind.i64.wrap ((p1 : Int) * (nL : Int)) = (p2 : Int) := by
                rw [show ((p1 : Int) * (nL : Int)) = ((p2 : Nat) : Int) by rw [← hp2]; push_cast; rfl]
                exact IntWalk.i64_in _ (by omega)
              have hw3 : IntKind.i64.wrap ((p2 : Int) * (nH : Int)) = (Sz : Int) := by
                rw [show ((p2 : Int) * (nH : Int)) = ((Sz : Nat) : Int) by rw [← hp3]; push_cast; rfl]
                exact IntWalk.i64_in _ (by omega)
              clear hp1 hp2 hp3 hb2 hn4 hnS HSM4' HSW
              by_cases hgt : 100000 < Sz
              · have dg : decide ((100000 : Int) < (Sz : Int)) = true := decide_eq_true (by omega)
                go_wp2
                go_ret2
                exact .inl ⟨by rw [HSZ.out]; omega, rfl, EC.out⟩
              · have dg : decide ((100000 : Int) < (Sz : Int)) = false := decide_eq_false (by omega)
                have hle : Sz ≤ 100000 := by omega
                have HTA := hid elem_ask
                obtain ⟨T, hT⟩ : ∃ T, asksA ss2 LL HH = T := ⟨_, rfl⟩
                have hTl : T.length = Sz := by rw [← hT, asksA_len, hnL, hnH, show ss2.length = nS by rw [← hSl, ← HSS.out, List.length_map]]; exact hSzz
                have hnS2 : ss2.length = nS := by rw [← hSl, ← HSS.out, List.length_map]
                have HTT := hid hT
                clear hT
                go_wp2
                go_loopw [22, 176] (fun v i wr => ∃ (k : Nat) (xs : List AskR), k ≤ nS ∧ i = .int .i64 (k : Int) ∧ WInv wr w.heap.size v xs (.slice sa nS sc) ss2 ⟨a5, nL, c5, LL⟩ (.slice a6 nH c6) HH ∧ xs ++ asksA (ss2.drop k) LL HH = T ∧ Ext w wr) (fun _ i _ => nS - (intOf i).toNat)
                case atStart => exact ⟨0, [], by omega, rfl, INVW.out, by rw [List.drop_zero]; exact HTT.out, EC.out⟩
                case round =>
                  obtain ⟨k, xs, hk, rfl, hinv, hxs, e1⟩ := hrel
                  have INV := hid hinv
                  have HXS := hid hxs
                  have E1 := hid e1
                  clear hinv hxs e1 INVW EC
                  by_cases hlt : k < nS
                  · obtain ⟨s, hsk⟩ : ∃ s, ss2[k]? = some s := ⟨ss2[k]'(by omega), by simp⟩
                    obtain ⟨B2, hsets⟩ := INV.out.sets
                    obtain ⟨a9, c9, hv9, hnc9, h09, hcs9⟩ := own_cellsA hsets.row
                    injection hv9 with hv9a hv9b hv9c
                    subst hv9a
                    obtain ⟨A2, hA2, hcs⟩ := cells_one hcs9 (show (ss2.map SetR.v)[k]? = some s.v by rw [List.getElem?_map, hsk]; rfl)
                    rw [Nat.mul_one] at hcs
                    obtain ⟨R1, hR1⟩ : ∃ x, asksA (ss2.drop (k + 1)) LL HH = x := ⟨_, rfl⟩
                    have HR1 := hid hR1
                    have HX1 : Hid (xs ++ (actsA s (actsW.drop 0) LL HH ++ R1) = T) := hid (by
                      have := HXS.out
                      rw [drop_cons hsk] at this
                      unfold asksA at this
                      rw [List.flatMap_cons] at this
                      rw [← this, ← hR1]
                      rfl)
                    subst hA2
                    clear hsets hv9b hv9c hnc9 h09 hcs9 hR1
                    go_wp2
                    go_loopw [22, 25] (fun v i wr => ∃ (j : Nat) (z : Int) (xs : List AskR), j ≤ 12 ∧ z = ((j + 1 : Nat) : Int) ∧ i = .int .i64 z ∧ WInv wr w.heap.size v xs (.slice (some A2) nS sc) ss2 ⟨a5, nL, c5, LL⟩ (.slice a6 nH c6) HH ∧ xs ++ (actsA s (actsW.drop j) LL HH ++ R1) = T ∧ Ext w wr) (fun _ i _ => 13 - (intOf i).toNat)
                    case atStart => exact ⟨0, 1, xs, by omega, rfl, rfl, INV.out, HX1.out, E1.out⟩
                    case round =>
                      obtain ⟨j, z, xs, hj, hzj, rfl, hinv, hxs, e1⟩ := hrel
                      have INV := hid hinv
                      have HXS := hid hxs
                      have E1 := hid e1
                      have HZJ := hid hzj
                      clear hinv hxs e1 HX1 hcs
                      by_cases hjt : j < 12
                      · have dj : decide (z ≤ 12) = true := decide_eq_true (by omega)
                        have hwz : IntKind.i64.wrap (z + 1) = z + 1 := by rw [hzj, show (((j + 1 : Nat) : Int) + 1) = ((j + 2 : Nat) : Int) by omega]; exact IntWalk.i64_in _ (by omega)
                        have hz0 : 0 ≤ z := by omega
                        have hz12 : z ≤ 12 := by omega
                        obtain ⟨R2, hR2⟩ : ∃ x, actsA s (actsW.drop (j + 1)) LL HH ++ R1 = x := ⟨_, rfl⟩
                        have HX2 : Hid (xs ++ (labsA s z (LL.drop 0) HH ++ R2) = T) := hid (by
                          have := HXS.out
                          rw [actsW_drop hjt, ← hzj] at this
                          unfold actsA at this
                          rw [List.flatMap_cons, List.append_assoc] at this
                          rw [← this, ← hR2, List.drop_zero]
                          rfl)
                        have HR2 := hid hR2
                        clear hR2 hzj
                        go_wp2
                        go_loopw [22, 186] (fun v i wr => ∃ (m : Nat) (xs : List AskR), m ≤ nL ∧ i = .int .i64 (m : Int) ∧ WInv wr w.heap.size v xs (.slice (some A2) nS sc) ss2 ⟨a5, nL, c5, LL⟩ (.slice a6 nH c6) HH ∧ xs ++ (labsA s z (LL.drop m) HH ++ R2) = T ∧ Ext w wr) (fun _ i _ => nL - (intOf i).toNat)
                        case atStart => exact ⟨0, xs, by omega, rfl, INV.out, HX2.out, E1.out⟩
                        case round =>
                          obtain ⟨m, xs, hm, rfl, hinv, hxs, e1⟩ := hrel
                          have INV := hid hinv
                          have HXS := hid hxs
                          have E1 := hid e1
                          clear hinv hxs e1 HX2
                          by_cases hmt : m < nL
                          · obtain ⟨l, hlm⟩ : ∃ l, LL[m]? = some l := ⟨LL[m]'(by omega), by simp⟩
                            obtain ⟨A3, hA3, hcl⟩ := cells_one (INV.out.labs.ok (by show nL ≤ _; omega)).cell (show (LL.map sv)[m]? = some (sv l) by rw [List.getElem?_map, hlm]; rfl)
                            rw [Nat.mul_one] at hcl
                            have hA4 : a5 = some A3 := hA3
                            obtain ⟨R3, hR3⟩ : ∃ x, labsA s z (LL.drop (m + 1)) HH ++ R2 = x := ⟨_, rfl⟩
                            have HX3 : Hid (xs ++ (hoursA s z l (HH.drop 0) ++ R3) = T) := hid (by
                              have := HXS.out
                              rw [drop_cons hlm] at this
                              unfold labsA at this
                              rw [List.flatMap_cons, List.append_assoc] at this
                              rw [← this, ← hR3, List.drop_zero]
                              rfl)
                            have HR3 := hid hR3
                            subst hA4
                            clear hR3 hlm hA3
                            go_wp2
                            go_loopw [22, 192] (fun v i wr => ∃ (q : Nat) (xs : List AskR), q ≤ nH ∧ i = .int .i64 (q : Int) ∧ WInv wr w.heap.size v xs (.slice (some A2) nS sc) ss2 ⟨some A3, nL, c5, LL⟩ (.slice a6 nH c6) HH ∧ xs ++ (hoursA s z l (HH.drop q) ++ R3) = T ∧ Ext w wr) (fun _ i _ => nH - (intOf i).toNat)
                            case atStart => exact ⟨0, xs, by omega, rfl, INV.out, HX3.out, E1.out⟩
                            case round =>
                              obtain ⟨q, xs, hq, rfl, hinv, hxs, e1⟩ := hrel
                              have INV := hid hinv
                              have HXS := hid hxs
                              have E1 := hid e1
                              clear hinv hxs e1 HX3 hcl
                              by_cases hqt : q < nH
                              · obtain ⟨h, hhq⟩ : ∃ h, HH[q]? = some h := ⟨HH[q]'(by omega), by simp⟩
                                obtain ⟨B2, hhours⟩ := INV.out.hours
                                obtain ⟨a9, c9, hv9, hnc9, h09, hcs9⟩ := own_cellsA hhours
                                injection hv9 with hv9a hv9b hv9c
                                obtain ⟨A5, hA5, hch⟩ := cells_one hcs9 (show (HH.map iv)[q]? = some (.int .i64 h) by rw [List.getElem?_map, hhq]; rfl)
                                rw [Nat.mul_one] at hch
                                rw [hA5] at hv9a
                                have h24 := HH24.out h (List.mem_of_getElem? hhq)
                                have hwh : IntKind.i64.wrap (3600 * h) = 3600 * h := by
                                  obtain ⟨hN, rfl⟩ := Int.eq_ofNat_of_zero_le h24.1
                                  have : (3600 : Int) * (hN : Int) = ((3600 * hN : Nat) : Int) := by push_cast; rfl
                                  rw [this]
                                  exact IntWalk.i64_in _ (by omega)
                                have HXX : Hid ((xs ++ [askW s z l h]) ++ (hoursA s z l (HH.drop (q + 1)) ++ R3) = T) := hid (by
                                  have := HXS.out
                                  rw [drop_cons hhq] at this
                                  unfold hoursA at this
                                  rw [List.map_cons] at this
                                  rw [← this]
                                  unfold hoursA
                                  simp)
                                have hxl : xs.length + 1 ≤ 140737488355328 := by have := congrArg List.length HXX.out; rw [List.length_append, List.length_append, List.length_singleton] at this; omega
                                have hxb : (xs.length + 1) * 120 ≤ 140737488355328 := by have := congrArg List.length HXX.out; rw [List.length_append, List.length_append, List.length_singleton] at this; omega
                                have hwr := E1.out.size
                                have hwr2 : w.heap.size ≤ wr.heap.size + 1 := by omega
                                have HAL := hid (askW_len s z l h)
                                have HA1 := hid (askW_one (askW s z l h))
                                obtain ⟨X, hX⟩ : ∃ X, askW s z l h = X := ⟨_, rfl⟩
                                have HX := hid hX
                                rw [hX] at HXX HAL HA1
                                subst hv9a
                                clear hhours hv9b hv9c hnc9 h09 hcs9 hhq hX
                                go_wp2_with (first | (refine wpl_run rfl (exec_ask (s := s) (act := z) (h := h) (l := l) rfl rfl rfl rfl rfl _) ?_; rw [HX.out]) | (refine wpl_buildOne HTA.out (by decide) rfl rfl rfl HAL.out ?_) | (refine wpl_appendA (m := 1) (c := 1) (news := X.v) HTA.out rfl _ _ rfl w.heap.size rfl rfl (INV.out.row.alloc _) (by rw [HAL.out]) (by decide) (fun h => by cases h) (Cells.of_blk0 (Blk.mk_alloc (T := 40) rfl rfl)) HA1.out hxl hxb (by rw [size_allocW]; exact hwr2) ?_))
                                intro v' w' ho' hg' _
                                have INV' := hid (INV.out.push ho' hg')
                                have E' := hid (INV.out.pushExt E1.out (Nat.le_refl _) hg')
                                clear ho' hg' INV E1 HXS HAL HA1 HX hwh hxl hxb hwr hwr2 hch
                                go_wp2
                                go_roundw
                                case rel => exact ⟨q + 1, _, by omega, by go_num, INV'.out, HXX.out, E'.out⟩
                                case measure => simp [intOf]; omega
                              · obtain rfl : q = nH := by omega
                                have HXX : Hid (xs ++ (labsA s z (LL.drop (m + 1)) HH ++ R2) = T) := hid (by
                                  have := HXS.out
                                  rw [List.drop_of_length_le (by omega)] at this
                                  unfold hoursA at this
                                  rw [HR3.out]
                                  simpa using this)
                                clear HXS HR3
                                go_wp2
                                go_roundw
                                case rel => exact ⟨m + 1, _, by omega, by go_num, INV.out, HXX.out, E1.out⟩
                                case measure => simp [intOf]; omega
                          · obtain rfl : m = nL := by omega
                            have HXX : Hid (xs ++ (actsA s (actsW.drop (j + 1)) LL HH ++ R1) = T) := hid (by
                              have := HXS.out
                              rw [List.drop_of_length_le (by omega)] at this
                              unfold labsA at this
                              rw [HR2.out]
                              simpa using this)
                            clear HXS HR2
                            go_wp2
                            go_roundw
                            case rel => exact ⟨j + 1, z + 1, _, by omega, by have := HZJ.out; omega, by first | rfl | (rw [hwz]; done) | simp [hwz], INV.out, HXX.out, E1.out⟩
                            case measure => simp [intOf]; omega
                      · obtain rfl : j = 12 := by omega
                        have dj : decide (z ≤ 12) = false := decide_eq_false (by omega)
                        have HXX : Hid (xs ++ asksA (ss2.drop (k + 1)) LL HH = T) := hid (by
                          have := HXS.out
                          rw [List.drop_of_length_le (by decide)] at this
                          rw [HR1.out]
                          unfold actsA at this
                          simpa using this)
                        clear HXS HR1
                        go_wp2
                        go_roundw
                        case rel => exact ⟨k + 1, _, by omega, by go_num, INV.out, HXX.out, E1.out⟩
                        case measure => simp [intOf]; omega
                  · obtain rfl : k = nS := by omega
                    have HXX : Hid (xs = asksA ss2 LL HH) := hid (by
                      have := HXS.out
                      rw [List.drop_of_length_le (by omega)] at this
                      unfold asksA at this
                      rw [HTT.out]
                      simpa [asksA] using this)
                    have HAS : Hid (AsksI wr w.heap.size u22 (asksA ss2 LL HH)) := hid (world_own2 (by rw [← HXX.out]; exact INV.out) HSMALL.out HSM.out)
                    have HWPP : Hid ((asksA ss2 LL HH).map AskR.p = worldP rs) := hid (by rw [HWP.out]; exact asksA_p HSS.out LL HH)
                    clear HXS HTT INV HXX
                    go_wp2
                    go_ret2
                    exact .inr ⟨by rw [HSZ.out]; exact hle, _, _, rfl, HAS.out, HWPP.out, E1.out⟩
end

section
open Go Go.RowKit

set_option maxRecDepth 100000 in
set_option maxHeartbeats 1000000 in
theorem eqStrs_cW (ls : List ByteArray) (a b : Option Addr) (n c d : Nat) (w : World) (hl : ls.length = n) (hn : n ≤ 140737488355328) (ha : Cells w a (ls.map encStr)) (hb : Cells w b (ls.map encStr)) :
    Calls Tryz.prog 33 #[.slice a n c, .slice b n d] w fun e w' => e = .returned (.bool true) ∧ Ext w w' := by
  have HL := hid hl
  have HA := hid ha
  have HB := hid hb
  clear hl ha hb
  go_enter Tryz.func33, Tryz.ntmps33
  go_wp2_with fail
  go_loopw [13] (fun i wr => ∃ k : Nat, k ≤ n ∧ i = .int .i64 (k : Int) ∧ Ext w wr) (fun i _ => n - (intOf i).toNat)
  case atStart => exact ⟨0, by omega, rfl, Ext.refl _⟩
  case round =>
    obtain ⟨k, hk, rfl, e1⟩ := hrel
    have E1 := hid e1
    clear e1
    by_cases hlt : k < n
    · have d1 : decide ((k : Int) < (n : Int)) = true := decide_eq_true (by omega)
      have d2 : decide (k < n) = true := decide_eq_true hlt
      have HL2 := HL.out
      obtain ⟨x, hxk⟩ : ∃ x, ls[k]? = some x := ⟨ls[k]'(by omega), List.getElem?_eq_getElem _⟩
      obtain ⟨A, rfl, hca⟩ := strs_at HA.out hxk
      obtain ⟨A2, rfl, hcb⟩ := strs_at HB.out hxk
      have CA := hid (cell_extU hca E1.out)
      have CB := hid (cell_extU hcb E1.out)
      clear hca hcb hxk HL2
      go_upto_region 6 with (fail)
      obtain ⟨C, hC⟩ : ∃ C : World → Prop, C = fun w' => Ext wr w' := ⟨_, rfl⟩
      have hC0 : ∀ w', C w' ↔ Ext wr w' := fun w' => by rw [hC]
      clear hC
      have HCC := hid hC0
      clear hC0
      have hCx : ∀ w w', C w → Ext w w' → C w' := fun w w' h1 h2 => (HCC.out w').2 (((HCC.out w).1 h1).ext h2)
      refine wp_region_held_drew (S := C) (by kernel_rfl) ((HCC.out _).2 (Ext.refl wr).drew) (fun hS0 => ?_)
      refine held_take 0 (v := ?tv211) rfl (by kernel_rfl) (by kernel_rfl) (by kernel_rfl) (fun _ _ _ h => h) (.inl ⟨rfl, ?ty211⟩) hS0 ?tr211
      case ty211 => (intro _ _; go_simp; try with_reducible rfl)
      case tr211 =>
      simp only [Act.put, List.setIfInBounds_toArray, List.set_cons_succ, List.set_cons_zero]
      refine held_take 1 (v := ?tv212) rfl (by kernel_rfl) (by kernel_rfl) (by kernel_rfl) (fun _ _ _ h => h) (.inl ⟨rfl, ?ty212⟩) hS0 ?tr212
      case ty212 => (intro _ _; go_simp; try with_reducible rfl)
      case tr212 =>
      simp only [Act.put, List.setIfInBounds_toArray, List.set_cons_succ, List.set_cons_zero]
      refine held_take 2 (v := _) rfl (by kernel_rfl) (by kernel_rfl) (by kernel_rfl) (fun _ _ _ h => h) (yieldsI_run rfl (fun w1 _ => exec_index (i := k) rfl rfl rfl Tryz.underlying36 size_str hlt w1)) hS0 ?_
      simp only [Act.put, List.setIfInBounds_toArray, List.set_cons_succ, List.set_cons_zero]
      refine held_take 3 (v := _) rfl (by kernel_rfl) (by kernel_rfl) (by kernel_rfl) (fun _ _ _ h => h) (yieldsI_run rfl (fun w1 h => exec_load_oneU rfl rfl (cell_extU CA.out ((HCC.out w1).1 h)) one_str)) hS0 ?_
      simp only [Act.put, List.setIfInBounds_toArray, List.set_cons_succ, List.set_cons_zero]
      refine held_take 4 (v := ?tv213) rfl (by kernel_rfl) (by kernel_rfl) (by kernel_rfl) (fun _ _ _ h => h) (.inl ⟨rfl, ?ty213⟩) hS0 ?tr213
      case ty213 => (intro _ _; go_simp; try with_reducible rfl)
      case tr213 =>
      simp only [Act.put, List.setIfInBounds_toArray, List.set_cons_succ, List.set_cons_zero]
      refine held_take 5 (v := ?tv214) rfl (by kernel_rfl) (by kernel_rfl) (by kernel_rfl) (fun _ _ _ h => h) (.inl ⟨rfl, ?ty214⟩) hS0 ?tr214
      case ty214 => (intro _ _; go_simp; try with_reducible rfl)
      case tr214 =>
      simp only [Act.put, List.setIfInBounds_toArray, List.set_cons_succ, List.set_cons_zero]
      refine held_take 6 (v := _) rfl (by kernel_rfl) (by kernel_rfl) (by kernel_rfl) (fun _ _ _ h => h) (yieldsI_run rfl (fun w1 _ => exec_index (i := k) rfl rfl rfl Tryz.underlying36 size_str hlt w1)) hS0 ?_
      simp only [Act.put, List.setIfInBounds_toArray, List.set_cons_succ, List.set_cons_zero]
      refine held_take 7 (v := _) rfl (by kernel_rfl) (by kernel_rfl) (by kernel_rfl) (fun _ _ _ h => h) (yieldsI_run rfl (fun w1 h => exec_load_oneU rfl rfl (cell_extU CB.out ((HCC.out w1).1 h)) one_str)) hS0 ?_
      simp only [Act.put, List.setIfInBounds_toArray, List.set_cons_succ, List.set_cons_zero]
      refine held_take 8 (v := ?tv215) rfl (by kernel_rfl) (by kernel_rfl) (by kernel_rfl) (fun _ _ _ h => h) (.inl ⟨rfl, ?ty215⟩) hS0 ?tr215
      case ty215 => (intro _ _; go_simp; try with_reducible rfl)
      case tr215 =>
      simp only [Act.put, List.setIfInBounds_toArray, List.set_cons_succ, List.set_cons_zero]
      refine wpAnyH_done (by kernel_rfl) ?_ _
      have hqx := (HCC.out _).1 hS0
      go_wp2_with fail
      go_roundw
      case rel => exact ⟨k + 1, by omega, by go_num, E1.out.ext hqx⟩
      case measure => simp [intOf]; omega
    · have d1 : decide ((k : Int) < (n : Int)) = false := decide_eq_false (by omega)
      have d2 : decide (k < n) = false := decide_eq_false hlt
      go_wp2_with fail
      go_ret
      exact ⟨rfl, E1.out⟩

theorem exec_cmpW {P : Program} {o : Oper} {a : Act} {op : BinOp} {t u : TypeId} {x y : Operand} (ho : o.op = .binOp op t x y u) {xs ys : Array Value} {b : Value} (hx : a.eval x = .agg xs) (hy : a.eval y = .agg ys)
    (hg : P.eqGuardType P.depth t = false) (hr : ∀ w, (binOp op t (.agg xs) (.agg ys)).run P w = .ok b w) (w : World) : (execOp a.eval o).run P w = .ok (.value b) w := by
  unfold execOp
  simp only [ho, hx, hy, Sem.run_bind, run_eqGuard_agg w op t x y xs ys hg, Result.andThen_ok, hr, Sem.run_pure]
theorem guard_idW : Tryz.prog.eqGuardType Tryz.prog.depth 35 = false := by kernel_rfl
theorem guard_sumW : Tryz.prog.eqGuardType Tryz.prog.depth 38 = false := by kernel_rfl
theorem agg_idW : AggT Tryz.prog 35 16 := ⟨⟨_, Tryz.underlying35, rfl⟩, by kernel_rfl⟩
theorem agg_sumW : AggT Tryz.prog 38 32 := ⟨⟨_, Tryz.underlying38, rfl⟩, by kernel_rfl⟩
theorem eq_self_arrW {t : TypeId} {n : Nat} (ht : Tryz.prog.underlying t = some (.array n 5)) (x : List UInt8) (hx : x.length = n) (w : World) : (binOp .eql t (.agg (x.map u8v).toArray) (.agg (x.map u8v).toArray)).run Tryz.prog w = .ok (.bool true) w := by
  have h := eq_arr ht x x hx hx w
  rw [beq_self_eq_true] at h; exact h
theorem AskR.actor_at {w : World} {a : AskR} (h : a.Ok w) : (a.v.drop 0).take 16 = a.actor.map u8v := by
  unfold AskR.v
  rw [List.drop_zero, List.take_append_of_le_length (by simp [h.ha]), List.take_of_length_le (by simp [h.ha])]
theorem AskR.key_at {w : World} {a : AskR} (h : a.Ok w) : (a.v.drop 19).take 16 = a.key.map u8v := by
  have e : a.v = (a.actor.map u8v ++ [.slice a.sa a.sn a.sc, .int .i64 a.act, .string a.label]) ++ (a.key.map u8v ++ (.int .i64 a.time :: a.detail.map u8v)) := by unfold AskR.v; simp
  rw [e, List.drop_append_of_le_length (by simp [h.ha]), List.drop_of_length_le (by simp [h.ha]), List.nil_append, List.take_append_of_le_length (by simp [h.hk]), List.take_of_length_le (by simp [h.hk])]
theorem AskR.detail_at {w : World} {a : AskR} (h : a.Ok w) : (a.v.drop 36).take 32 = a.detail.map u8v := by
  have e : a.v = (a.actor.map u8v ++ [.slice a.sa a.sn a.sc, .int .i64 a.act, .string a.label] ++ a.key.map u8v ++ [.int .i64 a.time]) ++ a.detail.map u8v := by unfold AskR.v; simp
  rw [e, List.drop_append_of_le_length (by simp [h.ha, h.hk]), List.drop_of_length_le (by simp [h.ha, h.hk]), List.nil_append, List.take_of_length_le (by simp [h.hd])]

set_option maxRecDepth 100000 in
set_option maxHeartbeats 4000000 in
theorem sameAsk_c (x y : AskR) (w : World) (hx : x.Ok w) (hy : y.Ok w) (hp : x.p = y.p) :
    Calls Tryz.prog 11 #[.agg x.v.toArray, .agg y.v.toArray] w fun e w' => e = .returned (.bool true) ∧ Ext w w' := by
  have p0 : y.actor = x.actor := (congrArg AskP.actor hp).symm
  have p1 : y.roles = x.roles := (congrArg AskP.roles hp).symm
  have p2 : y.act = x.act := (congrArg AskP.act hp).symm
  have p3 : y.label = x.label := (congrArg AskP.label hp).symm
  have p4 : y.key = x.key := (congrArg AskP.key hp).symm
  have p5 : y.time = x.time := (congrArg AskP.time hp).symm
  have p6 : y.detail = x.detail := (congrArg AskP.detail hp).symm
  have HX := hid hx
  have HY := hid hy
  clear hx hy hp
  have s0 : (x.act == x.act) = true := beq_self_eq_true _
  have s1 : (x.time == x.time) = true := beq_self_eq_true _
  have s3 : (x.label.toList == x.label.toList) = true := beq_self_eq_true _
  go_enter Tryz.func11, Tryz.ntmps11
  go_upto_region 1 with (fail)
  generalize hwA : World.alloc (World.alloc w _) _ = wA
  have xA : Blk wA w.heap.size x.v 40 := by rw [← hwA]; exact (Blk.mk_alloc rfl rfl).alloc _
  have yA : Blk wA (w.heap.size + 1) y.v 40 := by rw [← hwA]; exact Blk.mk_alloc (size_allocW _ _).symm rfl
  have eA : Ext w wA := by rw [← hwA]; exact ((Ext.refl w).alloc _).alloc _
  have EA := hid eA
  have HXA := hid (HX.out.ext eA)
  have HYA := hid (HY.out.ext eA)
  have XA := hid xA
  have YA := hid yA
  clear hwA xA yA eA
  have x16 := XA.out.cell' (AskR.at16 HX.out)
  have x17 := XA.out.cell' (AskR.at17 HX.out)
  have x18 := XA.out.cell' (AskR.at18 HX.out)
  have x35 := XA.out.cell' (AskR.at35 HX.out)
  have y16 := YA.out.cell' (AskR.at16 HY.out)
  have y17 := YA.out.cell' (AskR.at17 HY.out)
  have y18 := YA.out.cell' (AskR.at18 HY.out)
  have y35 := YA.out.cell' (AskR.at35 HY.out)
  rw [p2] at y17
  rw [p3] at y18
  rw [p5] at y35
  have cat3 : ∀ (e : AskR) (g : Nat), e.Ok w → Blk wA g e.v 40 → CellsAt wA ⟨g, 0, none⟩ (e.actor.map u8v) ∧ CellsAt wA ⟨g, 19, none⟩ (e.key.map u8v) ∧ CellsAt wA ⟨g, 36, none⟩ (e.detail.map u8v) := by
    intro e g he hb
    have h1 := Cells.of_blk hb 0 16
    have h2 := Cells.of_blk hb 19 16
    have h3 := Cells.of_blk hb 36 32
    rw [AskR.actor_at he] at h1
    rw [AskR.key_at he] at h2
    rw [AskR.detail_at he] at h3
    exact ⟨CellsAt.of h1, CellsAt.of h2, CellsAt.of h3⟩
  have X3 := hid (cat3 x _ HX.out XA.out)
  have y3 := cat3 y _ HY.out YA.out
  rw [p0, p4, p6] at y3
  have Y3 := hid y3
  have L1 := hid (show (x.actor.map u8v).length = 16 by rw [List.length_map, HX.out.ha])
  have L2 := hid (show (x.key.map u8v).length = 16 by rw [List.length_map, HX.out.hk])
  have L3 := hid (show (x.detail.map u8v).length = 32 by rw [List.length_map, HX.out.hd])
  have Q1 := hid (eq_self_arrW Tryz.underlying35 x.actor HX.out.ha)
  have Q2 := hid (eq_self_arrW Tryz.underlying35 x.key HX.out.hk)
  have Q3 := hid (eq_self_arrW Tryz.underlying38 x.detail HX.out.hd)
  have CBX := hid HXA.out.scell
  have cby := HYA.out.scell
  have hyb := HYA.out.sl
  rw [p1] at cby hyb
  have CBY := hid cby
  have hsl := HX.out.sl
  have hsn : y.sn = x.sn := by rw [← hyb]; exact hsl
  rw [hsn] at y16
  have HSL := hid hsl
  have hsm := HX.out.sm
  clear y3 cat3 cby hyb p0 p1 p2 p3 p4 p5 p6 hsl
  go_wp2_with (first | (refine wpg_run rfl (exec_load_at rfl rfl X3.out.1 agg_idW L1.out) ?_) | (refine wpg_run rfl (exec_load_at rfl rfl Y3.out.1 agg_idW L1.out) ?_) | (refine wpg_run rfl (exec_load_at rfl rfl X3.out.2.1 agg_idW L2.out) ?_) | (refine wpg_run rfl (exec_load_at rfl rfl Y3.out.2.1 agg_idW L2.out) ?_) | (refine wpg_run rfl (exec_load_at rfl rfl X3.out.2.2 agg_sumW L3.out) ?_) | (refine wpg_run rfl (exec_load_at rfl rfl Y3.out.2.2 agg_sumW L3.out) ?_) | (refine wpg_run rfl (exec_cmpW rfl rfl rfl guard_idW Q1.out _) ?_) | (refine wpg_run rfl (exec_cmpW rfl rfl rfl guard_idW Q2.out _) ?_) | (refine wpg_run rfl (exec_cmpW rfl rfl rfl guard_sumW Q3.out _) ?_))
  refine (eqStrs_cW x.roles x.sa y.sa x.sn x.sc y.sc wA HSL.out hsm CBX.out CBY.out).mono ?_
  rintro e wB ⟨rfl, eB⟩
  have XB := hid (XA.out.ext eB)
  have YB := hid (YA.out.ext eB)
  have x17 := XB.out.cell' (AskR.at17 HX.out)
  have x18 := XB.out.cell' (AskR.at18 HX.out)
  have x35 := XB.out.cell' (AskR.at35 HX.out)
  have y17' : wB.cell? ⟨w.heap.size + 1, 17, none⟩ = some (.int .i64 x.act) := cell_extU y17 eB
  have y18' : wB.cell? ⟨w.heap.size + 1, 18, none⟩ = some (.string x.label) := cell_extU y18 eB
  have y35' : wB.cell? ⟨w.heap.size + 1, 35, none⟩ = some (.int .i64 x.time) := cell_extU y35 eB
  have X3' := hid (show CellsAt wB _ _ ∧ CellsAt wB _ _ from ⟨X3.out.2.1.ext eB, X3.out.2.2.ext eB⟩)
  have Y3' := hid (show CellsAt wB _ _ ∧ CellsAt wB _ _ from ⟨Y3.out.2.1.ext eB, Y3.out.2.2.ext eB⟩)
  have EB := hid (EA.out.ext eB)
  clear X3 Y3 XA YA EA eB CBX CBY
  go_wp2_with (first | (refine wpg_run rfl (exec_load_at rfl rfl X3'.out.1 agg_idW L2.out) ?_) | (refine wpg_run rfl (exec_load_at rfl rfl Y3'.out.1 agg_idW L2.out) ?_) | (refine wpg_run rfl (exec_load_at rfl rfl X3'.out.2 agg_sumW L3.out) ?_) | (refine wpg_run rfl (exec_load_at rfl rfl Y3'.out.2 agg_sumW L3.out) ?_) | (refine wpg_run rfl (exec_cmpW rfl rfl rfl guard_idW Q2.out _) ?_) | (refine wpg_run rfl (exec_cmpW rfl rfl rfl guard_sumW Q3.out _) ?_))
  go_ret
  exact ⟨rfl, EB.out⟩

/-- a row of asks, as a slice -/
structure AsksOk (w : World) (a : Option Addr) (n c : Nat) (xs : List AskR) : Prop where
  hl : xs.length = n
  hnc : n ≤ c
  cell : Cells w a (asksV xs)
  ok : ∀ x ∈ xs, x.Ok w
theorem AsksOk.ext {w w' : World} {a : Option Addr} {n c : Nat} {xs : List AskR} (h : AsksOk w a n c xs) (e : Ext w w') : AsksOk w' a n c xs := ⟨h.hl, h.hnc, h.cell.ext e, fun x hx => (h.ok x hx).ext e⟩
theorem AsksI.slice {w : World} {B : Nat} {v : Value} {xs : List AskR} (h : AsksI w B v xs) : ∃ a c, v = .slice a xs.length c ∧ AsksOk w a xs.length c xs := by
  obtain ⟨a, c, rfl, hnc, _, hc⟩ := own_cellsA h.row
  exact ⟨a, c, rfl, rfl, hnc, hc, fun x hx => (h.own x hx).ok⟩
theorem asksV_len2 {w : World} : ∀ {xs : List AskR}, (∀ x ∈ xs, x.Ok w) → (asksV xs).length = 68 * xs.length
  | [], _ => rfl
  | x :: xs, h => by
    have h1 := asksV_len2 (xs := xs) (fun y hy => h y (by simp [hy]))
    have h2 := AskR.len (h x (by simp))
    unfold asksV at h1 ⊢
    rw [List.flatMap_cons, List.length_append, h1, h2, List.length_cons]
    omega
theorem AsksOk.at {w : World} {a : Option Addr} {n c : Nat} {xs : List AskR} (h : AsksOk w a n c xs) {k : Nat} {x : AskR} (hk : xs[k]? = some x) : ∃ A, a = some A ∧ CellsAt w (A.add (k * 68)) x.v := by
  obtain ⟨hkl, hx⟩ := List.getElem?_eq_some_iff.1 hk
  have hl := asksV_len2 h.ok
  obtain ⟨b, o, rfl, hc⟩ := h.cell.some_of (by omega)
  have hsplit : asksV xs = asksV (xs.take k) ++ (x.v ++ asksV (xs.drop (k + 1))) := by
    have e : xs = xs.take k ++ (x :: xs.drop (k + 1)) := by rw [← hx, ← List.drop_eq_getElem_cons hkl, List.take_append_drop]
    conv => lhs; rw [e]
    unfold asksV
    rw [List.flatMap_append, List.flatMap_cons]
  have hlt : (asksV (xs.take k)).length = k * 68 := by
    rw [asksV_len2 (fun y hy => h.ok y (List.mem_of_mem_take hy)), List.length_take, Nat.min_eq_left (by omega)]; omega
  have hxl := AskR.len (h.ok x (List.mem_of_getElem? hk))
  refine ⟨_, rfl, fun j u hu => ?_⟩
  rw [addr_add, addr_add, Nat.add_assoc]
  refine hc _ _ ?_
  have hj := (List.getElem?_eq_some_iff.1 hu).1
  rw [hsplit, List.getElem?_append_right (by omega), hlt, show k * 68 + j - k * 68 = j by omega, List.getElem?_append_left (by omega)]
  exact hu

set_option maxRecDepth 100000 in
set_option maxHeartbeats 2000000 in
theorem eqAsks_c (xs ys : List AskR) (a b : Option Addr) (n c d : Nat) (w : World) (hx : AsksOk w a n c xs) (hy : AsksOk w b n d ys) (hn : n ≤ 140737488355328) (hp : xs.map AskR.p = ys.map AskR.p) :
    Calls Tryz.prog 10 #[.slice a n c, .slice b n d, .func (.func 11) #[] #[]] w fun e w' => e = .returned (.bool true) ∧ Ext w w' := by
  have HX := hid hx
  have HY := hid hy
  have HP := hid hp
  have HAG := hid agg_ask
  clear hx hy hp
  go_enter Tryz.func10, Tryz.ntmps10
  go_wp2
  go_loopw [17] (fun i wr => ∃ k : Nat, k ≤ n ∧ i = .int .i64 (k : Int) ∧ Ext w wr) (fun i _ => n - (intOf i).toNat)
  case atStart => exact ⟨0, by omega, rfl, Ext.refl _⟩
  case round =>
    obtain ⟨k, hk, rfl, e1⟩ := hrel
    have E1 := hid e1
    clear e1
    by_cases hlt : k < n
    · obtain ⟨x, hxk⟩ : ∃ x, xs[k]? = some x := ⟨xs[k]'(by rw [HX.out.hl]; exact hlt), by simp⟩
      obtain ⟨y, hyk⟩ : ∃ y, ys[k]? = some y := ⟨ys[k]'(by rw [HY.out.hl]; exact hlt), by simp⟩
      have hxy : x.p = y.p := by
        have := congrArg (fun l => l[k]?) HP.out
        simp only [List.getElem?_map, hxk, hyk, Option.map_some] at this
        injection this
      obtain ⟨A, rfl, hca⟩ := (HX.out.ext E1.out).at hxk
      obtain ⟨A2, rfl, hcb⟩ := (HY.out.ext E1.out).at hyk
      have HCA := hid hca
      have HCB := hid hcb
      have HXO := hid ((HX.out.ext E1.out).ok x (List.mem_of_getElem? hxk))
      have HYO := hid ((HY.out.ext E1.out).ok y (List.mem_of_getElem? hyk))
      have HXL := hid (AskR.len HXO.out)
      have HYL := hid (AskR.len HYO.out)
      have HXY := hid hxy
      have o1 := askW_one x
      have o2 := askW_one y
      clear hca hcb hxk hyk hxy
      go_wp2_with (first | (refine wpl_run rfl (exec_index (i := k) rfl rfl rfl Tryz.underlying26 size_ask hlt _) ?_) | (refine wpl_run rfl (exec_load_at rfl rfl HCA.out HAG.out HXL.out) ?_) | (refine wpl_storew rfl _ (.tmp 8) _ rfl rfl rfl (Blk.mk_alloc (vs := zeroAskV) rfl rfl) HAG.out rfl HXL.out o1 ?_))
      intro wB bB uB
      have eB : Ext wr wB := uB.ext ((Ext.refl wr).alloc _) (Nat.le_refl _)
      have BB := hid bB
      have EB := hid (E1.out.ext eB)
      have HCB2 := hid (HCB.out.ext eB)
      have E12 := hid eB
      have hgl := bB.lt
      clear bB uB eB HCA HCB E1
      generalize wr.heap.size = gr at *
      go_wp2_with (first | (refine wpl_run rfl (exec_index (i := k) rfl rfl rfl Tryz.underlying26 size_ask hlt _) ?_) | (refine wpl_run rfl (exec_load_at rfl rfl HCB2.out HAG.out HYL.out) ?_) | (refine wpl_storew rfl _ (.tmp 9) _ rfl rfl rfl (Blk.mk_alloc (vs := zeroAskV) rfl rfl) HAG.out rfl HYL.out o2 ?_))
      intro wC bC uC
      have eC : Ext wB wC := uC.ext ((Ext.refl wB).alloc _) (Nat.le_refl _)
      have CC := hid bC
      have BC := hid (BB.out.ext eC)
      have EC := hid (EB.out.ext eC)
      have HXC := hid ((HXO.out.ext E12.out).ext eC)
      have HYC := hid ((HYO.out.ext E12.out).ext eC)
      clear bC uC eC HCB2 EB BB E12 HXO HYO
      generalize wB.heap.size = gc at *
      go_wp2_with (first | (refine wpl_loadw rfl 40 (.tmp 8) rfl rfl BC.out HAG.out HXL.out ?_) | (refine wpl_loadw rfl 40 (.tmp 9) rfl rfl CC.out HAG.out HYL.out ?_))
      refine (sameAsk_c x y wC HXC.out HYC.out HXY.out).mono ?_
      rintro e wD ⟨rfl, eD⟩
      have ED := hid (EC.out.ext eD)
      clear eD EC BC CC HXC HYC
      go_wp2
      go_roundw
      case rel => exact ⟨k + 1, by omega, by go_num, ED.out⟩
      case measure => simp [intOf]; omega
    · obtain rfl : k = n := by omega
      go_wp2
      go_ret
      exact ⟨rfl, E1.out⟩
end

section
open Go Go.RowKit

set_option maxRecDepth 100000 in
set_option maxHeartbeats 2000000 in
theorem worldsMatch_c (pa : Option Addr) (pn pc : Nat) (rs : List RuleR) (w : World) (hp : PolOk w pa pn pc rs) :
    Calls Tryz.prog 3 #[.agg #[.slice pa pn pc]] w fun e w' => e = .returned (.bool true) ∧ Ext w w' := by
  have HPO := hid hp
  have HW := hid (fun W (h : Ext w W) => World_c pa pn pc rs W (hp.ext h))
  have HC := hid (fun W (h : Ext w W) => checkPolicy_c pa pn pc rs W (hp.ext h))
  have HR := hid (fun W (h : Ext w W) (hE : polE rs pn = 0) => rWorld_c pa pn pc rs W (hp.ext h) hE)
  have herr := hid (show errW rs pn = if polE rs pn ≠ 0 then polE rs pn else if szW rs ≤ 100000 then 0 else 5 from rfl)
  clear hp
  obtain ⟨E, hE⟩ : ∃ E, errW rs pn = E := ⟨_, rfl⟩
  obtain ⟨F, hF⟩ : ∃ F, polE rs pn = F := ⟨_, rfl⟩
  rw [hE] at HW
  have HE := hid (herr.out.symm.trans hE)
  rw [hF] at HC HE HR
  clear hE herr hF
  go_enter Tryz.func3, Tryz.ntmps3
  go_upto_region 1 with (fail)
  generalize hwA : World.alloc w _ = wA
  have bA : Blk wA w.heap.size [.slice pa pn pc] 24 := by rw [← hwA]; exact Blk.mk_alloc rfl rfl
  have eA : Ext w wA := by rw [← hwA]; exact (Ext.refl w).alloc _
  have BA := hid bA
  have EA := hid eA
  clear hwA bA eA
  go_wp2_with fail
  refine (landed_c wA).mono ?_
  rintro e w1 ⟨rfl, e1⟩
  have E1 := hid (EA.out.ext e1)
  have B1 := hid (BA.out.ext e1)
  clear e1 EA BA
  go_wp2_with (first | (refine wpl_loadw rfl 24 _ rfl rfl B1.out agg_polW rfl ?_))
  refine (HW.out w1 E1.out).mono ?_
  rintro e w2 ⟨v, xs, rfl, hnz, hz, e2⟩
  have E2 := hid (E1.out.ext e2)
  have B2 := hid (B1.out.ext e2)
  have HNZ := hid hnz
  have HZZ := hid hz
  clear e2 E1 B1 HW hnz hz
  go_wp2_with (first | (refine wpl_loadw rfl 24 _ rfl rfl B2.out agg_polW rfl ?_))
  refine (HC.out w2 E2.out).mono ?_
  rintro e w3 ⟨rfl, e3⟩
  have E3 := hid (E2.out.ext e3)
  have B3 := hid (B2.out.ext e3)
  have E23 := hid e3
  clear e3 E2 B2 HC
  by_cases h0 : F = 0
  · subst h0
    have hE := HE.out
    rw [if_neg (by simp)] at hE
    have HE2 := hid hE
    clear hE HE
    go_wp2_with (first | (refine wpl_loadw rfl 24 _ rfl rfl B3.out agg_polW rfl ?_))
    refine (HR.out w3 E3.out (by trivial)).mono ?_
    rintro e w4 (⟨hbig, rfl, e4⟩ | ⟨hle, v2, ys, rfl, hys, hyp, e4⟩)
    · have hE := HE2.out
      rw [if_neg hbig] at hE
      subst hE
      have hv := HNZ.out (by decide)
      subst hv
      have E4 := hid (E3.out.ext e4)
      clear HE2 hbig e4 HNZ HZZ
      go_wp2
      go_ret
      exact ⟨rfl, E4.out⟩
    · have hE := HE2.out
      rw [if_pos hle] at hE
      subst hE
      obtain ⟨hA, hP⟩ := HZZ.out rfl
      obtain ⟨a, c, rfl, hok⟩ := hA.slice
      obtain ⟨b, d, rfl, hok2⟩ := hys.slice
      have hlen : ys.length = xs.length := by
        have := congrArg List.length (hyp.trans hP.symm)
        simpa using this
      have hok3 : AsksOk w4 b xs.length d ys := by rw [← hlen]; exact hok2
      have hx63 : xs.length ≤ 140737488355328 := by
        have h1 := congrArg List.length hP
        rw [List.length_map] at h1
        have h2 : (worldP rs).length = szW rs := by
          unfold worldP szW
          have hl : actsW.length = 12 := rfl
          simp only [List.length_flatMap, List.length_map, List.map_const', List.sum_replicate_nat]
          rw [hl, Nat.mul_assoc, Nat.mul_assoc]
        omega
      have HEQ := hid (eqAsks_c xs ys a b xs.length c d w4 ((hok.ext E23.out).ext e4) hok3 hx63 (hP.trans hyp.symm))
      have E4 := hid (E3.out.ext e4)
      rw [hlen]
      clear HE2 hle e4 HNZ HZZ hA hP hok hys hyp hok2 hok3 hlen
      go_wp2_with fail
      refine HEQ.out.mono ?_
      rintro e w5 ⟨rfl, e5⟩
      have E5 := hid (E4.out.ext e5)
      clear e5 E4 HEQ
      go_wp2
      go_ret
      exact ⟨rfl, E5.out⟩
  · have hE := HE.out
    rw [if_pos h0] at hE
    subst hE
    have hv := HNZ.out h0
    subst hv
    have d0 : decide (F = 0) = false := decide_eq_false h0
    have s0 : (F == F) = true := beq_self_eq_true _
    clear HE HNZ HZZ
    go_wp2
    go_ret
    exact ⟨rfl, E3.out⟩
end

section
open Go Go.RowKit Go.ChangeShapes Go.WideShapes Go.ChangeAt

theorem u8_of {n : Int} (h : (Lit.int .u8 n).wf = true) : ∃ x : UInt8, Value.int .u8 n = u8v x := by
  have hb := bounds_u8 h
  refine ⟨UInt8.ofNat n.toNat, ?_⟩
  unfold u8v
  congr 1
  rw [UInt8.toNat_ofNat']
  omega

theorem u8s_of : ∀ (vs : List Value), (∀ (i : Nat) (v : Value), vs[i]? = some v → ∃ x : UInt8, v = u8v x) → ∃ l : List UInt8, vs = l.map u8v
  | [], _ => ⟨[], rfl⟩
  | v :: vs, h => by
    obtain ⟨x, hx⟩ := h 0 v rfl
    obtain ⟨l, hl⟩ := u8s_of vs fun i u hu => h (i + 1) u (by simpa using hu)
    exact ⟨x :: l, by rw [hx, hl]; rfl⟩

section
variable {H : Type} {enc : TypeId × Value → H} {P : Program} {w : World}
/-- an array of octets -/
theorem open_octets {r : Reach} {b0 base : Nat} {sp : Nat → Bool} {held : Bool} {t e : TypeId} {n : Nat} {v : Value} {d : DataW H} {ps : List MemPlace} (ht : P.underlying t = some (.array n e)) (he : P.underlying e = some (.int .u8)) (hce : P.cellsOf e = 1) (hct : P.cellsOf t = n)
    (hval : Value.okWide P w r b0 t v) (hd : DataW.Trod enc P w base sp held t v d ps) : ∃ l : List UInt8, l.length = n ∧ v = .agg (l.map u8v).toArray := by
  unfold Value.okWide at hval
  rw [ht] at hval
  obtain ⟨cs, rfl, hs, _⟩ := hval
  obtain ⟨fuel, hf⟩ := hd
  obtain ⟨xs, m, _, _, hlen, hxl, hel⟩ := DataW.trod_array ht hf
  have hcl : cs.toList.length = n := by rw [Array.length_toList, hs, hct]
  obtain ⟨l, hl⟩ := u8s_of cs.toList fun i u hu => by
    have hi : i < n := by
      have := (List.getElem?_eq_some_iff.1 hu).1
      omega
    have h1 := hel i hi
    rw [hce, Nat.mul_one] at h1
    have hx : xs[i]? = some xs[i] := by simp
    have h2 : (cs.toList.drop i).take 1 = [u] := by
      have h3 := List.getElem?_drop (xs := cs.toList) (i := i) (j := 0)
      rw [Nat.add_zero, hu] at h3
      cases hd : cs.toList.drop i with
      | nil => rw [hd] at h3; simp at h3
      | cons y r => rw [hd] at h3; simp at h3; simp [h3]
    have h4 : DataW.trod enc P w base sp held m e [u] = some xs[i] := by
      rw [← h2, ← hx]; exact h1
    obtain ⟨k, hk, _, hw⟩ := DataW.trod_int he h4
    have hu' : u = .int .u8 k := by simpa using hk
    rw [hu']; exact u8_of hw
  refine ⟨l, ?_, ?_⟩
  · have := congrArg List.length hl
    rw [hcl, List.length_map] at this; exact this.symm
  · rw [← hl]
end
end

section
open Go Go.RowKit Go.ChangeShapes Go.WideShapes Go.ChangeAt

section
variable {H : Type} {enc : TypeId × Value → H} {P : Program} {w : World}
/-- a slice of octets, read whole -/
theorem open_bytes {r : Reach} {b0 base : Nat} {held : Bool} {t e : TypeId} {v : Value} {d : DataW H} {ps : List MemPlace} (ht : P.underlying t = some (.slice e)) (he : P.underlying e = some (.int .u8)) (hce : P.cellsOf e = 1)
    (hval : Value.okWide P w r b0 t v) (hd : DataW.Trod enc P w base (fun _ => true) held t v d ps) :
    ∃ (a : Option Addr) (n c : Nat) (l : List UInt8) (es sp : List (DataW H)), v = .slice a n c ∧ l.length = n ∧ n ≤ c ∧ (a = none → c = 0) ∧ Cells w a (l.map u8v) ∧ ((d = .nil ∧ c = 0) ∨ (d = .slice es sp ∧ es.length + sp.length = c)) := by
  obtain ⟨a, n, c, rfl⟩ := okWide_slice ht hval
  obtain ⟨fuel, hf⟩ := hd
  rcases open_ints ht he hce hf with ⟨hcs, hx⟩ | ⟨ad, len, cap, zs, hcs, _, hle, hmax, hlen, hx, hcell, hwf⟩
  · simp [Value.cells] at hcs
    obtain ⟨rfl, rfl, rfl⟩ := hcs
    simp only [Prod.mk.injEq] at hx
    exact ⟨none, 0, 0, [], [], [], rfl, rfl, Nat.le_refl _, fun _ => rfl, .inl rfl, .inl ⟨hx.1, rfl⟩⟩
  · simp [Value.cells] at hcs
    obtain ⟨rfl, rfl, rfl⟩ := hcs
    simp only [Prod.mk.injEq] at hx
    simp only [if_true] at hlen
    obtain ⟨l, hl⟩ := u8s_of ((zs.take n).map (Value.int .u8)) fun i u hu => by
      have hm := List.mem_of_getElem? hu
      obtain ⟨z, hz, rfl⟩ := List.mem_map.1 hm
      exact u8_of (hwf z (List.mem_of_mem_take hz))
    have hll : l.length = n := by
      have := congrArg List.length hl
      simp only [List.length_map, List.length_take] at this
      omega
    refine ⟨some ad, n, c, l, lits .u8 (zs.take n), lits .u8 (zs.drop n), rfl, hll, hle, (fun h => by cases h), ?_, .inr ⟨hx.1, ?_⟩⟩
    · by_cases hn : n = 0
      · left
        have : l = [] := List.length_eq_zero_iff.1 (by omega)
        rw [this]; rfl
      · obtain ⟨b, off, rfl, hat⟩ := ints_at hcell (by omega)
        refine .inr ⟨b, off, rfl, fun i u hu => ?_⟩
        rw [← hl] at hu
        have hi : i < n := by
          have := (List.getElem?_eq_some_iff.1 hu).1
          simp at this; omega
        rw [hat i (by omega)]
        rw [List.getElem?_map, List.getElem?_take_of_lt hi] at hu
        rw [List.getD_eq_getElem?_getD]
        cases hz : zs[i]? with
        | none => rw [hz] at hu; simp at hu
        | some z => rw [hz] at hu; simpa using hu
    · simp [lits]; omega
end
end

section
open Go Go.RowKit Go.ChangeShapes Go.WideShapes Go.ChangeAt Go.Deep

theorem cells?_at {w : World} {base : Nat} {p : Addr} {k : Nat} {cs : List Value} (h : w.cells? base p k = some cs) : cs.length = k ∧ CellsAt w p cs := by
  unfold World.cells? at h
  split at h
  · refine ⟨by simpa using mapM_some_length h, fun j u hu => ?_⟩
    have hj : j < k := by
      have h1 := (List.getElem?_eq_some_iff.1 hu).1
      have h2 := mapM_some_length h
      simp at h2; omega
    have := mapM_some_get h j j (by simp [hj])
    rw [hu] at this
    exact this
  · cases h

section
variable {H : Type} {enc : TypeId × Value → H} {P : Program} {w : World}
theorem octets_of_trod {base : Nat} {sp : Nat → Bool} {held : Bool} {t e : TypeId} {n f : Nat} {cs : List Value} {x : DataW H × List MemPlace} (ht : P.underlying t = some (.array n e)) (he : P.underlying e = some (.int .u8)) (hce : P.cellsOf e = 1) (hct : P.cellsOf t = n)
    (hf : DataW.trod enc P w base sp held f t cs = some x) : ∃ l : List UInt8, l.length = n ∧ cs = l.map u8v := by
  obtain ⟨xs, m, _, _, hlen, hxl, hel⟩ := DataW.trod_array ht hf
  have hcl : cs.length = n := by rw [hlen, hct]
  obtain ⟨l, hl⟩ := u8s_of cs fun i u hu => by
    have hi : i < n := by
      have := (List.getElem?_eq_some_iff.1 hu).1
      omega
    have h1 := hel i hi
    rw [hce, Nat.mul_one] at h1
    have hx : xs[i]? = some xs[i] := by simp
    have h2 : (cs.drop i).take 1 = [u] := by
      have h3 := List.getElem?_drop (xs := cs) (i := i) (j := 0)
      rw [Nat.add_zero, hu] at h3
      cases hd : cs.drop i with
      | nil => rw [hd] at h3; simp at h3
      | cons y r => rw [hd] at h3; simp at h3; simp [h3]
    have h4 : DataW.trod enc P w base sp held m e [u] = some xs[i] := by
      rw [← h2, ← hx]; exact h1
    obtain ⟨k, hk, _, hw⟩ := DataW.trod_int he h4
    have hu' : u = .int .u8 k := by simpa using hk
    rw [hu']; exact u8_of hw
  refine ⟨l, ?_, hl⟩
  have := congrArg List.length hl
  rw [hcl, List.length_map] at this; exact this.symm

/-- a slice of rows, its cell read -/
theorem sums_of_trod {base f : Nat} {held : Bool} {t e q : TypeId} {cs : List Value} {x : DataW H × List MemPlace} (ht : P.underlying t = some (.slice e)) (he : P.underlying e = some (.array 32 q)) (hq : P.underlying q = some (.int .u8)) (cq : P.cellsOf q = 1) (ce : P.cellsOf e = 32)
    (hf : DataW.trod enc P w base (fun _ => true) held f t cs = some x) :
    ∃ (a : Option Addr) (n c : Nat) (ls : List (List UInt8)) (es sp : List (DataW H)), cs = [.slice a n c] ∧ ls.length = n ∧ All32 ls ∧ n ≤ c ∧ c ≤ maxLen ∧ (a = none → c = 0) ∧ Cells w a (rows ls) ∧ ((x.1 = .nil ∧ c = 0) ∨ (x.1 = .slice es sp ∧ es.length + sp.length = c)) := by
  rcases DataW.trod_slice ht hf with ⟨h0, h1⟩ | ⟨a, len, cap, elems, rest, n, _, rfl, rfl, hb, hl, hm, hlen, hel, hsp, hns⟩
  · exact ⟨none, 0, 0, [], [], [], h0, rfl, All32.nil, Nat.le_refl _, Nat.zero_le _, fun _ => rfl, .inl rfl, .inl ⟨by rw [h1], rfl⟩⟩
  · have each : ∀ i, i < len → ∃ l : List UInt8, l.length = 32 ∧ CellsAt w (a.add (i * 32)) (l.map u8v) := by
      intro i hi
      have h1 := hel i hi
      have hx : elems[i]? = some (elems[i]'(by omega)) := by simp
      rw [ce, hx, Option.bind_eq_some_iff] at h1
      obtain ⟨cs', hcs, hy⟩ := h1
      obtain ⟨l, hl1, rfl⟩ := octets_of_trod he hq cq ce hy
      exact ⟨l, hl1, (cells?_at hcs).2⟩
    obtain ⟨g, hg⟩ := choose_lt each
    have h32 : All32 ((List.range len).map g) := fun l hl => by
      obtain ⟨i, hi, rfl⟩ := List.mem_map.1 hl
      exact (hg i (List.mem_range.1 hi)).1
    obtain ⟨hrl, _⟩ := hsp rfl
    refine ⟨some a, len, cap, (List.range len).map g, _, _, rfl, by simp, h32, hl, hm, (fun h => by cases h), ?_, .inr ⟨rfl, by simp; omega⟩⟩
    by_cases h0 : len = 0
    · left; subst h0; rfl
    · obtain ⟨hl0, hc0⟩ := hg 0 (by omega)
      obtain ⟨b, off, spot⟩ := a
      have hspot : spot = none := by
        have := hc0 0 (u8v ((g 0)[0]'(by omega))) (by simp [hl0])
        simpa [Addr.add] using World.cell?_spot this
      subst hspot
      refine .inr ⟨b, off, rfl, fun i u hu => ?_⟩
      have hi : i < 32 * len := by
        have := (List.getElem?_eq_some_iff.1 hu).1
        rw [rows_length h32] at this; simpa using this
      obtain ⟨_, hcr⟩ := hg (i / 32) (by omega)
      have hrow : ((List.range len).map g)[i / 32]? = some (g (i / 32)) := by
        rw [List.getElem?_map, List.getElem?_range (by omega)]; rfl
      have h2 := rows_at h32 hrow
      have h3 : ((g (i / 32)).map u8v)[i % 32]? = some u := by
        rw [← h2, List.getElem?_take_of_lt (Nat.mod_lt _ (by omega)), List.getElem?_drop, Nat.div_add_mod]; exact hu
      have h4 := hcr _ _ h3
      rw [addr_add, addr_add] at h4
      rw [show off + i / 32 * 32 + i % 32 = off + i by omega] at h4
      exact h4

/-- a struct of two ints and a slice of rows -/
theorem open_proof {r : Reach} {b0 base : Nat} {held : Bool} {t e q : TypeId} {f0 f1 f2 : Field} {v : Value} {d : DataW H} {ps : List MemPlace} (ht : P.underlying t = some (.struct #[f0, f1, f2])) (h0 : P.underlying f0.type = some (.int .i64)) (h1 : P.underlying f1.type = some (.int .i64))
    (h2 : P.underlying f2.type = some (.slice e)) (he : P.underlying e = some (.array 32 q)) (hq : P.underlying q = some (.int .u8)) (cq : P.cellsOf q = 1) (ce : P.cellsOf e = 32) (c0 : P.cellsOf f0.type = 1) (c1 : P.cellsOf f1.type = 1) (c2 : P.cellsOf f2.type = 1) (ct : P.cellsOf t = 3)
    (o0 : f0.offset = 0) (o1 : f1.offset = 1) (o2 : f2.offset = 2)
    (hval : Value.okWide P w r b0 t v) (hd : DataW.Trod enc P w base (fun _ => true) held t v d ps) :
    ∃ (I Z : Int) (a : Option Addr) (n c : Nat) (ls : List (List UInt8)), v = .agg #[.int .i64 I, .int .i64 Z, .slice a n c] ∧ ls.length = n ∧ All32 ls ∧ n ≤ c ∧ c ≤ maxLen ∧ (a = none → c = 0) ∧ Cells w a (rows ls) ∧
      ∃ (D : DataW H) (es sp : List (DataW H)), d = .agg [.lit (.int .i64 I), .lit (.int .i64 Z), D] ∧ ((D = .nil ∧ c = 0) ∨ (D = .slice es sp ∧ es.length + sp.length = c)) ∧ (Lit.int .i64 I).wf = true ∧ (Lit.int .i64 Z).wf = true := by
  obtain ⟨cs, rfl, hs⟩ := okWide_struct ht hval
  obtain ⟨fuel, hf⟩ := hd
  obtain ⟨y0, y1, y2, m, hx, hl, g0, g1, g2⟩ := trod_struct3 ht hf
  rw [c0, o0] at g0
  rw [c1, o1] at g1
  rw [c2, o2] at g2
  obtain ⟨I, hI, hI2, wI⟩ := DataW.trod_int h0 g0
  obtain ⟨Z, hZ, hZ2, wZ⟩ := DataW.trod_int h1 g1
  obtain ⟨a, n, c, ls, es, sp, hsl, hln, h32, hnc, hcm, hnil, hcl, hdd⟩ := sums_of_trod h2 he hq cq ce g2
  have hcs : cs = #[.int .i64 I, .int .i64 Z, .slice a n c] := by
    have hsz : cs.size = 3 := by rw [hs, ct]
    obtain ⟨l⟩ := cs
    match l, hsz with
    | [p0, p1, p2], _ =>
      simp [Value.cells] at hI hZ hsl
      rw [hI, hZ, hsl]
  refine ⟨I, Z, a, n, c, ls, by rw [hcs], hln, h32, hnc, hcm, hnil, hcl, y2.1, es, sp, ?_, hdd, wI, wZ⟩
  simp only [Prod.mk.injEq] at hx
  rw [hx.1, hI2, hZ2]
end
end

section
open Go Go.RowKit Go.ChangeShapes Go.WideShapes Go.ChangeAt Go.Deep

theorem mem_weightsU {H : Type} {P : Program} {e : TypeId} : ∀ {ds : List (DataW H)} {d : DataW H}, d ∈ ds → ∀ n ∈ d.weights P e, n ∈ DataW.weightsAll P e ds
  | d0 :: ds, d, hd, n, hn => by
    rw [DataW.weightsAll, List.mem_append]
    rcases List.mem_cons.1 hd with rfl | hd
    · exact .inl hn
    · exact .inr (mem_weightsU hd n hn)
  | [], _, hd, _, _ => by simp at hd
theorem reach_is : reachBytes = 140737488351232 := by decide

section
variable {H : Type} {enc : TypeId × Value → H} {P : Program} {w : World}
theorem strs_of_trod {base f : Nat} {held : Bool} {t e : TypeId} {cs : List Value} {x : DataW H × List MemPlace} (ht : P.underlying t = some (.slice e)) (he : P.underlying e = some .string) (hc : P.cellsOf e = 1) (hb : P.bytesOf e = 16)
    (hf : DataW.trod enc P w base (fun _ => true) held f t cs = some x) (hw : ∀ n ∈ x.1.weights P t, n ≤ reachBytes) :
    ∃ (a : Option Addr) (n c : Nat) (ls : List ByteArray), cs = [.slice a n c] ∧ ls.length = n ∧ n ≤ c ∧ c ≤ 140737488355328 ∧ Cells w a (ls.map encStr) ∧ ∀ s ∈ ls, s.size ≤ 140737488355328 := by
  rcases open_strs ht he hc hf with ⟨rfl, rfl⟩ | ⟨a, len, m0, m, Sx, rfl, hba, hl, hm, rfl, rfl, hcell⟩
  · exact ⟨none, 0, 0, [], rfl, rfl, Nat.le_refl _, Nat.zero_le _, .inl rfl, by simp⟩
  · simp only [if_true] at hcell hw
    have hm : m ≤ 140737488355328 := by
      have := hw ((len + (m - len)) * P.bytesOf e) (by simp [DataW.weights, ht])
      rw [hb, reach_is] at this
      omega
    refine ⟨some a, len, m, (List.range len).map Sx, rfl, by simp, hl, hm, ?_, ?_⟩
    · by_cases h0 : len = 0
      · left; subst h0; rfl
      · obtain ⟨b, off, spot⟩ := a
        have hspot : spot = none := by
          have := World.cell?_spot (hcell 0 (by omega)).1
          simpa [Addr.add] using this
        subst hspot
        refine .inr ⟨b, off, rfl, fun i u hu => ?_⟩
        have hi : i < len := by
          have := (List.getElem?_eq_some_iff.1 hu).1
          simpa using this
        rw [List.getElem?_map, List.getElem?_map, List.getElem?_range hi] at hu
        have h1 := (hcell i (by omega)).1
        rw [addr_add] at h1
        rw [h1]
        exact hu
    · intro s hs
      obtain ⟨i, hi, rfl⟩ := List.mem_map.1 hs
      have hmem : (DataW.lit (.string (Sx i).data.toList) : DataW H) ∈ (List.range len).map fun i => DataW.lit (.string (Sx i).data.toList) := List.mem_map.2 ⟨i, hi, rfl⟩
      have h3 : (Sx i).data.toList.length ∈ (DataW.lit (.string (Sx i).data.toList) : DataW H).weights P e := by simp [DataW.weights]
      have h4 := hw _ (by
        simp only [DataW.weights, ht, List.mem_cons, List.mem_append]
        exact .inr (.inl (mem_weightsU hmem _ h3)))
      rw [Array.length_toList, reach_is] at h4
      have : (Sx i).size = (Sx i).data.size := rfl
      omega
end

theorem weights_part {H : Type} {P : Program} {t : TypeId} {fs : Array Field} {xs : List (DataW H × List MemPlace)} (ht : P.underlying t = some (.struct fs)) {B : Nat} (hw : ∀ n ∈ (DataW.agg (xs.map (·.1))).weights P t, n ≤ B) {i : Nat} {f : Field} {x : DataW H × List MemPlace} (hf : fs.toList[i]? = some f) (hx : xs[i]? = some x) : ∀ n ∈ x.1.weights P f.type, n ≤ B := by
  intro n hn
  refine hw n ?_
  simp only [DataW.weights, ht]
  exact DataW.weights_mem_each (ts := fs.toList.map (·.type)) (j := i) (by rw [List.getElem?_map, hf]; rfl) (by rw [List.getElem?_map, hx]; rfl) n hn
end

section
open Go Go.RowKit Go.ChangeShapes Go.WideShapes Go.ChangeAt Go.Deep

section
variable {H : Type} {enc : TypeId × Value → H} {P : Program} {w : World}
theorem ints_of_trod {base f : Nat} {held : Bool} {t e : TypeId} {cs : List Value} {x : DataW H × List MemPlace} (ht : P.underlying t = some (.slice e)) (he : P.underlying e = some (.int .i64)) (hc : P.cellsOf e = 1) (hb : P.bytesOf e = 8)
    (hf : DataW.trod enc P w base (fun _ => true) held f t cs = some x) (hw : ∀ n ∈ x.1.weights P t, n ≤ reachBytes) :
    ∃ (a : Option Addr) (n c : Nat) (ls : List Int), cs = [.slice a n c] ∧ ls.length = n ∧ n ≤ c ∧ c ≤ 140737488355328 ∧ Cells w a (ls.map encI) ∧ ∀ z ∈ ls, (Lit.int .i64 z).wf = true := by
  rcases open_ints ht he hc hf with ⟨rfl, rfl⟩ | ⟨a, len, cap, zs, rfl, hba, hl, hm, hzl, rfl, hcell, hwf⟩
  · exact ⟨none, 0, 0, [], rfl, rfl, Nat.le_refl _, Nat.zero_le _, .inl rfl, by simp⟩
  · simp only [if_true] at hzl
    have hcap : cap ≤ 140737488355328 := by
      have := hw ((lits (H := H) .i64 (zs.take len)).length * P.bytesOf e + (lits (H := H) .i64 (zs.drop len)).length * P.bytesOf e) (by simp [DataW.weights, ht, Nat.add_mul])
      rw [hb, reach_is] at this
      simp [lits] at this
      omega
    refine ⟨some a, len, cap, zs.take len, rfl, by simp; omega, hl, hcap, ?_, fun z hz => hwf z (List.mem_of_mem_take hz)⟩
    by_cases h0 : len = 0
    · left; subst h0; simp
    · obtain ⟨b, off, spot⟩ := a
      have hspot : spot = none := by
        have := World.cell?_spot (hcell 0 (by omega))
        simpa [Addr.add] using this
      subst hspot
      refine .inr ⟨b, off, rfl, fun i u hu => ?_⟩
      have hi : i < len := by
        have := (List.getElem?_eq_some_iff.1 hu).1
        simp at this; omega
      have h1 := hcell i (by omega)
      rw [addr_add] at h1
      rw [h1]
      rw [List.getElem?_map, List.getElem?_take_of_lt hi] at hu
      rw [List.getD_eq_getElem?_getD]
      cases hz : zs[i]? with
      | none => rw [hz] at hu; simp at hu
      | some z => rw [hz] at hu; simpa [encI] using hu
end

section
variable {H : Type} {enc : TypeId × Value → H} {w : World}
set_option maxRecDepth 100000 in
theorem rule_of_trod {base f : Nat} {held : Bool} {cs : List Value} {x : DataW H × List MemPlace} (hf : DataW.trod enc Tryz.prog w base (fun _ => true) held f 50 cs = some x) (hw : ∀ n ∈ x.1.weights Tryz.prog 50, n ≤ reachBytes) :
    ∃ r : RuleR, cs = r.v ∧ r.Ok w := by
  have ht := Tryz.underlying50
  obtain ⟨xs, m, _, rfl, hl, hlen, hfs⟩ := DataW.trod_struct ht hf
  have ct : Tryz.prog.cellsOf 50 = 8 := by kernel_rfl
  have c4 : Tryz.prog.cellsOf 4 = 1 := by kernel_rfl
  have c39 : Tryz.prog.cellsOf 36 = 1 := by kernel_rfl
  have c48 : Tryz.prog.cellsOf 48 = 1 := by kernel_rfl
  have c3 : Tryz.prog.cellsOf 3 = 1 := by kernel_rfl
  have c9 : Tryz.prog.cellsOf 9 = 1 := by kernel_rfl
  rw [ct] at hl
  match xs, hlen, cs, hl with
  | [y0, y1, y2, y3, y4, y5, y6, y7], _, [v0, v1, v2, v3, v4, v5, v6, v7], _ =>
  have g0 : DataW.trod enc Tryz.prog w base (fun _ => true) held m 4 [v0] = some y0 := by have := hfs 0 _ rfl; simpa [c4] using this
  have g1 : DataW.trod enc Tryz.prog w base (fun _ => true) held m 36 [v1] = some y1 := by have := hfs 1 _ rfl; simpa [c39] using this
  have g2 : DataW.trod enc Tryz.prog w base (fun _ => true) held m 48 [v2] = some y2 := by have := hfs 2 _ rfl; simpa [c48] using this
  have g3 : DataW.trod enc Tryz.prog w base (fun _ => true) held m 36 [v3] = some y3 := by have := hfs 3 _ rfl; simpa [c39] using this
  have g4 : DataW.trod enc Tryz.prog w base (fun _ => true) held m 3 [v4] = some y4 := by have := hfs 4 _ rfl; simpa [c3] using this
  have g5 : DataW.trod enc Tryz.prog w base (fun _ => true) held m 3 [v5] = some y5 := by have := hfs 5 _ rfl; simpa [c3] using this
  have g6 : DataW.trod enc Tryz.prog w base (fun _ => true) held m 3 [v6] = some y6 := by have := hfs 6 _ rfl; simpa [c3] using this
  have g7 : DataW.trod enc Tryz.prog w base (fun _ => true) held m 9 [v7] = some y7 := by have := hfs 7 _ rfl; simpa [c9] using this
  have w1 := weights_part ht hw (i := 1) rfl rfl
  have w2 := weights_part ht hw (i := 2) rfl rfl
  have w3 := weights_part ht hw (i := 3) rfl rfl
  have w7 := weights_part ht hw (i := 7) rfl rfl
  obtain ⟨b, h0, _⟩ := DataW.trod_bool Tryz.underlying4 g0
  obtain ⟨a1, n1, c1, l1, h1, p1, p2, p3, p4, p5⟩ := strs_of_trod Tryz.underlying36 Tryz.underlying9 c9 (by kernel_rfl) g1 w1
  obtain ⟨a2, n2, c2, l2, h2, q1, q2, q3, q4, q5⟩ := ints_of_trod Tryz.underlying48 Tryz.underlying3 c3 (by kernel_rfl) g2 w2
  obtain ⟨a3, n3, c3', l3, h3, r1, r2, r3, r4, r5⟩ := strs_of_trod Tryz.underlying36 Tryz.underlying9 c9 (by kernel_rfl) g3 w3
  obtain ⟨z4, h4, _, _⟩ := DataW.trod_int Tryz.underlying3 g4
  obtain ⟨z5, h5, _, _⟩ := DataW.trod_int Tryz.underlying3 g5
  obtain ⟨z6, h6, _, _⟩ := DataW.trod_int Tryz.underlying3 g6
  obtain ⟨s7, h7, hx7, _⟩ := DataW.trod_string Tryz.underlying9 g7
  have hs7 : s7.size ≤ 140737488355328 := by
    have := w7 s7.data.toList.length (by rw [hx7]; simp [DataW.weights])
    rw [Array.length_toList, reach_is] at this
    have e : s7.size = s7.data.size := rfl
    omega
  refine ⟨⟨b, a1, n1, c1, l1, a2, n2, c2, l2, a3, n3, c3', l3, z4, z5, z6, s7⟩, ?_, ⟨p1, p2, Nat.le_trans p2 p3, p4, p5, q1, q2, Nat.le_trans q2 q3, q4, q5, r1, r2, Nat.le_trans r2 r3, r4, r5, hs7⟩⟩
  unfold RuleR.v
  simp only [List.cons.injEq, and_true] at h0 h1 h2 h3 h4 h5 h6 h7
  rw [h0, h1, h2, h3, h4, h5, h6, h7]
end
end

section
open Go Go.RowKit Go.ChangeShapes Go.WideShapes Go.ChangeAt Go.Deep

section
variable {H : Type} {enc : TypeId × Value → H} {w : World}
set_option maxRecDepth 100000 in
theorem ask_of_trod {base f : Nat} {held : Bool} {cs : List Value} {x : DataW H × List MemPlace} (hf : DataW.trod enc Tryz.prog w base (fun _ => true) held f 40 cs = some x) (hw : ∀ n ∈ x.1.weights Tryz.prog 40, n ≤ reachBytes) :
    ∃ a : AskR, cs = a.v ∧ a.Ok w := by
  have ht := Tryz.underlying40
  obtain ⟨xs, m, _, rfl, hl, hlen, hfs⟩ := DataW.trod_struct ht hf
  have ct : Tryz.prog.cellsOf 40 = 68 := by kernel_rfl
  have c29 : Tryz.prog.cellsOf 35 = 16 := by kernel_rfl
  have c40 : Tryz.prog.cellsOf 38 = 32 := by kernel_rfl
  have c39 : Tryz.prog.cellsOf 36 = 1 := by kernel_rfl
  have c3 : Tryz.prog.cellsOf 3 = 1 := by kernel_rfl
  have c5 : Tryz.prog.cellsOf 5 = 1 := by kernel_rfl
  have c9 : Tryz.prog.cellsOf 9 = 1 := by kernel_rfl
  rw [ct] at hl
  match xs, hlen with
  | [y0, y1, y2, y3, y4, y5, y6], _ =>
  have g0 : DataW.trod enc Tryz.prog w base (fun _ => true) held m 35 ((cs.drop 0).take 16) = some y0 := by rw [← c29]; exact hfs 0 _ rfl
  have g1 : DataW.trod enc Tryz.prog w base (fun _ => true) held m 36 ((cs.drop 16).take 1) = some y1 := by rw [← c39]; exact hfs 1 _ rfl
  have g2 : DataW.trod enc Tryz.prog w base (fun _ => true) held m 3 ((cs.drop 17).take 1) = some y2 := by rw [← c3]; exact hfs 2 _ rfl
  have g3 : DataW.trod enc Tryz.prog w base (fun _ => true) held m 9 ((cs.drop 18).take 1) = some y3 := by rw [← c9]; exact hfs 3 _ rfl
  have g4 : DataW.trod enc Tryz.prog w base (fun _ => true) held m 35 ((cs.drop 19).take 16) = some y4 := by rw [← c29]; exact hfs 4 _ rfl
  have g5 : DataW.trod enc Tryz.prog w base (fun _ => true) held m 3 ((cs.drop 35).take 1) = some y5 := by rw [← c3]; exact hfs 5 _ rfl
  have g6 : DataW.trod enc Tryz.prog w base (fun _ => true) held m 38 ((cs.drop 36).take 32) = some y6 := by rw [← c40]; exact hfs 6 _ rfl
  have w1 := weights_part ht hw (i := 1) rfl rfl
  have w3 := weights_part ht hw (i := 3) rfl rfl
  obtain ⟨l0, hl0, h0⟩ := octets_of_trod Tryz.underlying35 Tryz.underlying5 c5 c29 g0
  obtain ⟨a1, n1, c1, l1, h1, p1, p2, p3, p4, p5⟩ := strs_of_trod Tryz.underlying36 Tryz.underlying9 c9 (by kernel_rfl) g1 w1
  obtain ⟨z2, h2, _, _⟩ := DataW.trod_int Tryz.underlying3 g2
  obtain ⟨s3, h3, hx3, _⟩ := DataW.trod_string Tryz.underlying9 g3
  obtain ⟨l4, hl4, h4⟩ := octets_of_trod Tryz.underlying35 Tryz.underlying5 c5 c29 g4
  obtain ⟨z5, h5, _, _⟩ := DataW.trod_int Tryz.underlying3 g5
  obtain ⟨l6, hl6, h6⟩ := octets_of_trod Tryz.underlying38 Tryz.underlying5 c5 c40 g6
  have hs3 : s3.size ≤ 140737488355328 := by
    have := w3 s3.data.toList.length (by rw [hx3]; simp [DataW.weights])
    rw [Array.length_toList, reach_is] at this
    have e : s3.size = s3.data.size := rfl
    omega
  refine ⟨⟨l0, a1, n1, c1, l1, z2, s3, l4, z5, l6⟩, ?_, ⟨hl0, hl4, hl6, p1, p2, Nat.le_trans p2 p3, p4, p5, hs3⟩⟩
  unfold AskR.v
  have e : ∀ p q : Nat, cs.take p ++ (cs.drop p).take q = cs.take (p + q) := fun p q => List.take_add.symm
  have s1 : cs = cs.take 16 ++ (cs.drop 16).take 1 ++ (cs.drop 17).take 1 ++ (cs.drop 18).take 1 ++ (cs.drop 19).take 16 ++ (cs.drop 35).take 1 ++ (cs.drop 36).take 32 := by
    rw [e 16 1, e 17 1, e 18 1, e 19 16, e 35 1, e 36 32, List.take_of_length_le (by omega)]
  rw [List.drop_zero] at h0
  rw [s1, h0, h1, h2, h3, h4, h5, h6]
  simp

set_option maxRecDepth 100000 in
theorem open_rule {r : Reach} {b0 base : Nat} {held : Bool} {v : Value} {d : DataW H} {ps : List MemPlace} {ts : List TypeId} {ds : List (DataW H)} {j : Nat} (hsz : (DataW.weightsEach Tryz.prog ts ds).all (· ≤ reachBytes) = true)
    (hval : Value.okWide Tryz.prog w r b0 50 v) (hd : DataW.Trod enc Tryz.prog w base (fun _ => true) held 50 v d ps) (htj : ts[j]? = some 50) (hdj : ds[j]? = some d) : ∃ q : RuleR, v = .agg q.v.toArray ∧ q.Ok w := by
  have hw := fun n hn => of_decide_eq_true (List.all_eq_true.1 hsz n (DataW.weights_mem_each htj hdj n hn))
  obtain ⟨cs, rfl, hs⟩ := okWide_struct Tryz.underlying50 hval
  obtain ⟨fuel, hf⟩ := hd
  obtain ⟨q, hq, hok⟩ := rule_of_trod hf hw
  exact ⟨q, by rw [← hq]; rfl, hok⟩
set_option maxRecDepth 100000 in
theorem open_ask {r : Reach} {b0 base : Nat} {held : Bool} {v : Value} {d : DataW H} {ps : List MemPlace} {ts : List TypeId} {ds : List (DataW H)} {j : Nat} (hsz : (DataW.weightsEach Tryz.prog ts ds).all (· ≤ reachBytes) = true)
    (hval : Value.okWide Tryz.prog w r b0 40 v) (hd : DataW.Trod enc Tryz.prog w base (fun _ => true) held 40 v d ps) (htj : ts[j]? = some 40) (hdj : ds[j]? = some d) : ∃ q : AskR, v = .agg q.v.toArray ∧ q.Ok w := by
  have hw := fun n hn => of_decide_eq_true (List.all_eq_true.1 hsz n (DataW.weights_mem_each htj hdj n hn))
  obtain ⟨cs, rfl, hs⟩ := okWide_struct Tryz.underlying40 hval
  obtain ⟨fuel, hf⟩ := hd
  obtain ⟨q, hq, hok⟩ := ask_of_trod hf hw
  exact ⟨q, by rw [← hq]; rfl, hok⟩
end
end

section
open Go Go.RowKit Go.Maps Go.MapKept Go.WideShapes

structure ApprR where
  member : List UInt8
  sa : Option Addr
  sn : Nat
  sc : Nat
  roles : List ByteArray
def ApprR.v (x : ApprR) : List Value := x.member.map u8v ++ [.slice x.sa x.sn x.sc]
structure ApprR.Ok (w : World) (x : ApprR) : Prop where
  hm : x.member.length = 16
  sl : x.roles.length = x.sn
  snc : x.sn ≤ x.sc
  sm : x.sc ≤ 140737488355328
  scell : Cells w x.sa (x.roles.map encStr)
  ss : ∀ s ∈ x.roles, s.size ≤ 140737488355328
theorem ApprR.Ok.ext {w w' : World} {x : ApprR} (h : x.Ok w) (e : Ext w w') : x.Ok w' := ⟨h.hm, h.sl, h.snc, h.sm, h.scell.ext e, h.ss⟩
theorem ApprR.len {w : World} {x : ApprR} (h : x.Ok w) : x.v.length = 17 := by unfold ApprR.v; simp [h.hm]
theorem ApprR.at16 {w : World} {x : ApprR} (h : x.Ok w) : x.v[16]? = some (.slice x.sa x.sn x.sc) := by
  unfold ApprR.v; rw [List.getElem?_append_right (by simp [h.hm])]; simp [h.hm]
theorem ApprR.part0 {w : World} {x : ApprR} (h : x.Ok w) : (x.v.drop 0).take 16 = x.member.map u8v := by
  unfold ApprR.v; rw [List.drop_zero, List.take_left' (by simp [h.hm])]
theorem ApprR.one (x : ApprR) : ∀ v ∈ x.v, v.oneCell' = true := by
  intro v hv
  unfold ApprR.v at hv
  rcases List.mem_append.1 hv with h | h
  · exact one_u8 x.member v h
  · simp at h; rw [h]; rfl
def apprsV (ls : List ApprR) : List Value := ls.flatMap ApprR.v
structure ApprsOk (w : World) (a : Option Addr) (n c : Nat) (ls : List ApprR) : Prop where
  hl : ls.length = n
  hnc : n ≤ c
  hm : c ≤ 140737488355328
  cell : Cells w a (apprsV ls)
  ok : ∀ x ∈ ls, x.Ok w
theorem ApprsOk.ext {w w' : World} {a : Option Addr} {n c : Nat} {ls : List ApprR} (h : ApprsOk w a n c ls) (e : Ext w w') : ApprsOk w' a n c ls := ⟨h.hl, h.hnc, h.hm, h.cell.ext e, fun x hx => (h.ok x hx).ext e⟩
theorem apprsV_length {w : World} {ls : List ApprR} (h : ∀ x ∈ ls, x.Ok w) : (apprsV ls).length = 17 * ls.length := by
  induction ls with
  | nil => rfl
  | cons x ls ih =>
    unfold apprsV at ih ⊢
    rw [List.flatMap_cons, List.length_append, ih (fun y hy => h y (List.mem_cons_of_mem _ hy)), ApprR.len (h x (by simp)), List.length_cons]; omega
theorem apprsV_at {w : World} {ls : List ApprR} (hok : ∀ x ∈ ls, x.Ok w) {k : Nat} {x : ApprR} (h : ls[k]? = some x) : ((apprsV ls).drop (k * 17)).take 17 = x.v := by
  induction ls generalizing k with
  | nil => simp at h
  | cons y ls ih =>
    unfold apprsV at ih ⊢
    rw [List.flatMap_cons]
    have hy := ApprR.len (hok y (by simp))
    cases k with
    | zero =>
      simp only [List.getElem?_cons_zero, Option.some.injEq] at h
      subst h
      rw [Nat.zero_mul, List.drop_zero, List.take_append_of_le_length (by rw [hy]; exact Nat.le_refl _), List.take_of_length_le (by rw [hy]; exact Nat.le_refl _)]
    | succ k =>
      rw [List.getElem?_cons_succ] at h
      rw [List.drop_append, hy, List.drop_of_length_le (by rw [hy]; omega), List.nil_append, show (k + 1) * 17 - 17 = k * 17 by omega]
      exact ih (fun z hz => hok z (List.mem_cons_of_mem _ hz)) h
theorem ApprsOk.at {w : World} {a : Option Addr} {n c : Nat} {ls : List ApprR} (h : ApprsOk w a n c ls) {k : Nat} {x : ApprR} (hk : ls[k]? = some x) : ∃ A, a = some A ∧ CellsAt w (A.add (k * 17)) x.v := by
  have hk2 := (List.getElem?_eq_some_iff.1 hk).1
  obtain ⟨b, o, rfl, hc⟩ := h.cell.some_of (by rw [apprsV_length h.ok]; omega)
  refine ⟨_, rfl, fun j u hu => ?_⟩
  rw [addr_add, addr_add, Nat.add_assoc]
  refine hc _ _ ?_
  rw [← apprsV_at h.ok hk] at hu
  have hj : j < 17 := by
    have := (List.getElem?_eq_some_iff.1 hu).1
    rw [List.length_take] at this; omega
  rw [List.getElem?_take_of_lt hj, List.getElem?_drop] at hu
  exact hu

/-- what is found in a list of roles, from the place k on -/
def scanF : Option ByteArray → List ByteArray → Int
  | _, [] => 0
  | none, s :: r => if badS s then 6 else scanF (some s) r
  | some p, s :: r => if badS s then 6 else if lessS p s then scanF (some s) r else 9
def prevS (ls : List ByteArray) : Nat → Option ByteArray
  | 0 => none
  | k + 1 => ls[k]?
def scanAt (ls : List ByteArray) (k : Nat) : Int := scanF (prevS ls k) (ls.drop k)
theorem drop_atS {ls : List ByteArray} {k : Nat} {s : ByteArray} (h : ls[k]? = some s) : ls.drop k = s :: ls.drop (k + 1) := by
  obtain ⟨hk, rfl⟩ := List.getElem?_eq_some_iff.1 h
  exact List.drop_eq_getElem_cons hk
theorem scanAt_bad {ls : List ByteArray} {k : Nat} {s : ByteArray} (h : ls[k]? = some s) (hb : badS s = true) : scanAt ls k = 6 := by
  unfold scanAt; rw [drop_atS h]
  cases prevS ls k <;> (unfold scanF; rw [if_pos hb])
theorem scanAt_zero {ls : List ByteArray} {s : ByteArray} (h : ls[0]? = some s) (hb : badS s = false) : scanAt ls 0 = scanAt ls 1 := by
  unfold scanAt; rw [drop_atS h]
  show scanF none (s :: ls.drop 1) = scanF (ls[0]?) (ls.drop 1)
  rw [h]; conv => lhs; unfold scanF
  rw [hb]; simp
theorem scanAt_step {ls : List ByteArray} {k : Nat} {p s : ByteArray} (hp : ls[k]? = some p) (h : ls[k + 1]? = some s) (hb : badS s = false) : (lessS p s = true → scanAt ls (k + 1) = scanAt ls (k + 2)) ∧ (lessS p s = false → scanAt ls (k + 1) = 9) := by
  have e : scanAt ls (k + 1) = scanF (some p) (s :: ls.drop (k + 2)) := by
    unfold scanAt; rw [drop_atS h]; show scanF (ls[k]?) _ = _; rw [hp]
  have e2 : scanAt ls (k + 2) = scanF (some s) (ls.drop (k + 2)) := by
    unfold scanAt; show scanF (ls[k + 1]?) _ = _; rw [h]
  constructor
  · intro hl
    rw [e, e2]; conv => lhs; unfold scanF
    rw [hb, hl]; simp
  · intro hl
    rw [e]; unfold scanF
    rw [hb, hl]; simp
theorem scanAt_end {ls : List ByteArray} {k : Nat} (h : ls.length ≤ k) : scanAt ls k = 0 := by
  unfold scanAt; rw [List.drop_of_length_le h]
  cases prevS ls k <;> rfl
def apprsE : List ApprR → Int
  | [] => 0
  | x :: r => if scanAt x.roles 0 = 0 then apprsE r else scanAt x.roles 0
theorem drop_atA {ls : List ApprR} {k : Nat} {x : ApprR} (h : ls[k]? = some x) : ls.drop k = x :: ls.drop (k + 1) := by
  obtain ⟨hk, rfl⟩ := List.getElem?_eq_some_iff.1 h
  exact List.drop_eq_getElem_cons hk
theorem apprsE_ok {ls : List ApprR} {k : Nat} {x : ApprR} (h : ls[k]? = some x) (h0 : scanAt x.roles 0 = 0) : apprsE (ls.drop k) = apprsE (ls.drop (k + 1)) := by
  rw [drop_atA h]; conv => lhs; unfold apprsE
  rw [if_pos h0]
theorem apprsE_bad {ls : List ApprR} {k : Nat} {x : ApprR} (h : ls[k]? = some x) (h0 : scanAt x.roles 0 ≠ 0) : apprsE (ls.drop k) = scanAt x.roles 0 := by
  rw [drop_atA h]; conv => lhs; unfold apprsE
  rw [if_neg h0]

noncomputable def addK (ks : List Value) (key : Value) : List Value := @ite _ (key ∈ ks) (Classical.propDecidable _) ks (ks ++ [key])
theorem addK_of {ks ks' : List Value} {key : Value} (h : (key ∈ ks ∧ ks' = ks) ∨ (key ∉ ks ∧ ks' = ks ++ [key])) : ks' = addK ks key := by
  unfold addK
  rcases h with ⟨h1, h2⟩ | ⟨h1, h2⟩
  · rw [if_pos h1]; exact h2
  · rw [if_neg h1]; exact h2
def idV (x : ApprR) : Value := .agg (x.member.map u8v).toArray
noncomputable def whoStep (ow : ByteArray) (ks : List Value) (x : ApprR) : List Value := if memT x.roles ow then addK ks (idV x) else ks
noncomputable def whoF (ow : ByteArray) (ls : List ApprR) (ks : List Value) : List Value := ls.foldl (whoStep ow) ks
theorem whoF_at {ow : ByteArray} {ls : List ApprR} {k : Nat} {x : ApprR} {ks : List Value} (h : ls[k]? = some x) : whoF ow (ls.drop k) ks = whoF ow (ls.drop (k + 1)) (whoStep ow ks x) := by
  rw [drop_atA h]; rfl
theorem whoF_end {ow : ByteArray} {ls : List ApprR} {k : Nat} {ks : List Value} (h : ls.length ≤ k) : whoF ow (ls.drop k) ks = ks := by
  rw [List.drop_of_length_le h]; rfl

/-- members as keys -/
theorem id_keyed : Keyed Tryz.prog 35 := Keyed.of_law (WideMaps.ArrKey.law (e := 5) (n := 16) ⟨Tryz.underlying35, by kernel_rfl, by kernel_rfl, by kernel_rfl⟩)
theorem mapM_someU {α β : Type} (g : α → Option β) : ∀ (l : List α), (∀ i ∈ l, ∃ y, g i = some y) → ∃ ys, l.mapM g = some ys
  | [], _ => ⟨[], rfl⟩
  | a :: l, h => by
    obtain ⟨y, hy⟩ := h a (by simp)
    obtain ⟨ys, hys⟩ := mapM_someU g l (fun i hi => h i (List.mem_cons_of_mem _ hi))
    exact ⟨y :: ys, by rw [List.mapM_cons, hy, hys]; rfl⟩
theorem key_id {m : List UInt8} (hm : m.length = 16) : ∃ l, keyOf Tryz.prog 35 (.agg (m.map u8v).toArray) = some l := by
  have ht := Tryz.underlying35
  have hk : Tryz.prog.keyType 35 = true := by kernel_rfl
  have hc : Tryz.prog.cellsOf 35 = 16 := by kernel_rfl
  have hc8 : Tryz.prog.cellsOf 5 = 1 := by kernel_rfl
  have hf : (Value.agg (m.map u8v).toArray).formed Tryz.prog 35 = true := by simp [Value.formed, ht, hc, hm]
  obtain ⟨d, hd⟩ : ∃ d, Tryz.prog.types.size = d + 1 := Nat.exists_eq_succ_of_ne_zero (by
    intro h
    have : decide (Tryz.prog.types.size = 0) = false := by kernel_rfl
    rw [h] at this; simp at this)
  unfold keyOf
  rw [ht]
  simp only [hk, hf, Bool.and_self, if_true]
  have hl : (Value.agg (m.map u8v).toArray).cells.toList = m.map u8v := rfl
  rw [hl, hd]
  unfold Program.keyLits
  rw [ht]
  simp only [List.length_map, hm, hc, if_true, hc8, Nat.mul_one]
  obtain ⟨ys, hys⟩ := mapM_someU (fun i => Tryz.prog.keyLits (d + 1) 5 (((m.map u8v).drop i).take 1)) (List.range 16) (fun i hi => by
    have hi16 : i < m.length := by rw [hm]; exact List.mem_range.1 hi
    have he : ((m.map u8v).drop i).take 1 = [u8v m[i]] := by
      rw [← List.map_drop, ← List.map_take, List.drop_eq_getElem_cons hi16]; rfl
    refine ⟨[.int .u8 (m[i].toNat : Int)], ?_⟩
    rw [he]
    unfold Program.keyLits
    rw [Tryz.underlying5]
    have h2 := m[i].toNat_lt
    have hw : (Lit.int .u8 (m[i].toNat : Int)).wf = true := by
      have e1 : IntKind.u8.min = 0 := by decide
      have e2 : IntKind.u8.max = 255 := by decide
      show (decide (IntKind.u8.min ≤ (m[i].toNat : Int)) && decide ((m[i].toNat : Int) ≤ IntKind.u8.max)) = true
      rw [e1, e2, decide_eq_true (by omega), decide_eq_true (by omega)]; rfl
    simp only [u8v, hw, and_self, if_true])
  rw [hys]
  exact ⟨_, rfl⟩
theorem addK_mem {ks : List Value} {key v : Value} (h : v ∈ addK ks key) : v ∈ ks ∨ v = key := by
  unfold addK at h
  split at h
  · exact .inl h
  · rcases List.mem_append.1 h with h | h
    · exact .inl h
    · simp at h; exact .inr h
end

section
open Go Go.RowKit Go.ChangeShapes Go.WideShapes Go.ChangeAt Go.Deep

instance : Inhabited RuleR := ⟨⟨false, none, 0, 0, [], none, 0, 0, [], none, 0, 0, [], 0, 0, 0, ⟨#[]⟩⟩⟩
instance : Inhabited ApprR := ⟨⟨[], none, 0, 0, []⟩⟩
theorem flatV_length {z : Nat} {V : Nat → List Value} : ∀ len, (∀ i, i < len → (V i).length = z) → ((List.range len).flatMap V).length = len * z
  | 0, _ => by simp
  | len + 1, h => by
    rw [List.range_succ, List.flatMap_append, List.length_append, flatV_length len (fun i hi => h i (by omega))]
    simp [h len (by omega), Nat.add_mul]
theorem flatV_get {z : Nat} {V : Nat → List Value} : ∀ len, (∀ i, i < len → (V i).length = z) → ∀ i r, i < len → r < z → ((List.range len).flatMap V)[i * z + r]? = (V i)[r]?
  | 0, _, i, r, hi, _ => by omega
  | len + 1, h, i, r, hi, hr => by
    rw [List.range_succ, List.flatMap_append]
    have hl := flatV_length (V := V) (z := z) len (fun i hi => h i (by omega))
    by_cases hil : i < len
    · have : i * z + r < len * z := by
        have h1 : (i + 1) * z ≤ len * z := Nat.mul_le_mul_right _ hil
        rw [Nat.add_mul, Nat.one_mul] at h1
        omega
      rw [List.getElem?_append_left (by rw [hl]; exact this)]
      exact flatV_get len (fun i hi => h i (by omega)) i r hil hr
    · obtain rfl : i = len := by omega
      rw [List.getElem?_append_right (by rw [hl]; omega), hl]
      simp
theorem cells_rows {w : World} {a : Addr} {z len : Nat} {V : Nat → List Value} (hz : 0 < z) (hV : ∀ i, i < len → (V i).length = z ∧ CellsAt w (a.add (i * z)) (V i)) : Cells w (some a) ((List.range len).flatMap V) := by
  by_cases h0 : len = 0
  · left; subst h0; rfl
  · obtain ⟨b, off, spot⟩ := a
    have hspot : spot = none := by
      obtain ⟨h1, h2⟩ := hV 0 (by omega)
      have := World.cell?_spot (h2 0 ((V 0)[0]'(by omega)) (by simp))
      simpa [Addr.add] using this
    subst hspot
    refine .inr ⟨b, off, rfl, fun t u hu => ?_⟩
    have hl := flatV_length (V := V) (z := z) len (fun i hi => (hV i hi).1)
    have ht : t < len * z := by
      have := (List.getElem?_eq_some_iff.1 hu).1
      rwa [hl] at this
    have hi : t / z < len := Nat.div_lt_of_lt_mul (by rw [Nat.mul_comm]; exact ht)
    have hr : t % z < z := Nat.mod_lt _ hz
    have hsplit : t / z * z + t % z = t := by rw [Nat.mul_comm]; exact Nat.div_add_mod t z
    have h2 := flatV_get len (fun i hi => (hV i hi).1) (t / z) (t % z) hi hr
    rw [hsplit, hu] at h2
    have h3 := (hV (t / z) hi).2 (t % z) u h2.symm
    rw [addr_add, addr_add, Nat.add_assoc, hsplit] at h3
    exact h3
theorem flatMap_map {α : Type} (f : α → List Value) (g : Nat → α) (len : Nat) : ((List.range len).map g).flatMap f = (List.range len).flatMap (fun i => f (g i)) := by
  rw [List.flatMap_map]

section
variable {H : Type} {enc : TypeId × Value → H} {w : World}
set_option maxRecDepth 100000 in
theorem rules_of_trod {base f : Nat} {held : Bool} {cs : List Value} {x : DataW H × List MemPlace} (hf : DataW.trod enc Tryz.prog w base (fun _ => true) held f 22 cs = some x) (hw : ∀ n ∈ x.1.weights Tryz.prog 22, n ≤ reachBytes) :
    ∃ (a : Option Addr) (n c : Nat) (rs : List RuleR), cs = [.slice a n c] ∧ PolOk w a n c rs := by
  have ct : Tryz.prog.cellsOf 50 = 8 := by kernel_rfl
  have hb : Tryz.prog.bytesOf 50 = 120 := by kernel_rfl
  rcases DataW.trod_slice Tryz.underlying22 hf with ⟨rfl, rfl⟩ | ⟨a, len, cap, elems, rest, m, _, rfl, rfl, hba, hl, hm, hlen, hel, hsp, hns⟩
  · exact ⟨none, 0, 0, [], rfl, rfl, Nat.le_refl _, Nat.zero_le _, .inl rfl, by simp⟩
  · obtain ⟨hrl, _⟩ := hsp rfl
    have hcap : cap ≤ 140737488355328 := by
      have := hw ((elems.map (·.1)).length * Tryz.prog.bytesOf 50 + (rest.map (·.1)).length * Tryz.prog.bytesOf 50) (by simp [DataW.weights, Tryz.underlying22, Nat.add_mul])
      rw [hb, reach_is] at this
      simp at this
      omega
    have each : ∀ i, i < len → ∃ r : RuleR, CellsAt w (a.add (i * 8)) r.v ∧ r.Ok w := by
      intro i hi
      have h1 := hel i hi
      have hx : elems[i]? = some (elems[i]'(by omega)) := by simp
      rw [ct, hx, Option.bind_eq_some_iff] at h1
      obtain ⟨cs', hcs, hy⟩ := h1
      have hwe : ∀ n ∈ (elems[i]'(by omega)).1.weights Tryz.prog 50, n ≤ reachBytes := fun n hn => by
        refine hw n ?_
        simp only [DataW.weights, Tryz.underlying22, List.mem_cons, List.mem_append]
        refine .inr (.inl (mem_weightsU (List.mem_map.2 ⟨elems[i]'(by omega), List.getElem_mem _, rfl⟩) n hn))
      obtain ⟨r, rfl, hok⟩ := rule_of_trod hy hwe
      exact ⟨r, (cells?_at hcs).2, hok⟩
    obtain ⟨g, hg⟩ := choose_lt each
    refine ⟨some a, len, cap, (List.range len).map g, rfl, by simp, hl, Nat.le_trans hl hcap, ?_, ?_⟩
    · unfold rulesV
      rw [flatMap_map]
      exact cells_rows (z := 8) (by omega) (fun i hi => ⟨RuleR.len _, (hg i hi).1⟩)
    · intro r hr
      obtain ⟨i, hi, rfl⟩ := List.mem_map.1 hr
      exact (hg i (List.mem_range.1 hi)).2
set_option maxRecDepth 100000 in
theorem open_policy {r : Reach} {b0 base : Nat} {held : Bool} {v : Value} {d : DataW H} {ps : List MemPlace} {ts : List TypeId} {ds : List (DataW H)} {j : Nat} (hsz : (DataW.weightsEach Tryz.prog ts ds).all (· ≤ reachBytes) = true)
    (hval : Value.okWide Tryz.prog w r b0 24 v) (hd : DataW.Trod enc Tryz.prog w base (fun _ => true) held 24 v d ps) (htj : ts[j]? = some 24) (hdj : ds[j]? = some d) :
    ∃ (pa : Option Addr) (pn pc : Nat) (rs : List RuleR), v = .agg #[.slice pa pn pc] ∧ PolOk w pa pn pc rs := by
  have hw := fun n hn => of_decide_eq_true (List.all_eq_true.1 hsz n (DataW.weights_mem_each htj hdj n hn))
  obtain ⟨cs, rfl, hs⟩ := okWide_struct Tryz.underlying24 hval
  obtain ⟨fuel, hf⟩ := hd
  have ht := Tryz.underlying24
  obtain ⟨xs, m, _, hx, hl, hlen, hfs⟩ := DataW.trod_struct ht hf
  have ct : Tryz.prog.cellsOf 24 = 1 := by kernel_rfl
  have c36 : Tryz.prog.cellsOf 22 = 1 := by kernel_rfl
  simp only [Prod.mk.injEq] at hx
  rw [hx.1] at hw
  rw [ct] at hl
  have hl2 : cs.toList.length = 1 := hl
  match xs, hlen with
  | [y0], _ =>
  have g0 : DataW.trod enc Tryz.prog w base (fun _ => true) held m 22 ((cs.toList.drop 0).take 1) = some y0 := by rw [← c36]; exact hfs 0 _ rfl
  have w0 := weights_part ht hw (i := 0) rfl rfl
  obtain ⟨a, n, c, rs, h0, hok⟩ := rules_of_trod g0 w0
  rw [List.drop_zero, List.take_of_length_le (by omega)] at h0
  refine ⟨a, n, c, rs, ?_, hok⟩
  obtain ⟨cl⟩ := cs
  have h1 : cl = [.slice a n c] := h0
  rw [h1]
end
end
end Go.Proofs.YthfddfgncolnbaaGreat
