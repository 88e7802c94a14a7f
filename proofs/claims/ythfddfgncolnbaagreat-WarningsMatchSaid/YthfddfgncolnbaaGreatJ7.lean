/- Contracts and laws that the claim's row leans on (4 texts, joined): keyref1.World; conditions: the policy's memory, its check says OK. policy.Stricter; conditions: the policies' memory. keylaw1.PoliciesDiffer answers true; conditions: the policies' memory. keyref1.otherwise and keyref1.Lint's second closure; conditions: the memory. -/
import Derived.Test.YthfddfgncolnbaaGreatJ6
import Derived.Deep.DeepCutAuto
namespace Go.Proofs.YthfddfgncolnbaaGreat
section
open Go Go.RowKit Go.Maps Go.MapKept Go.WideShapes

theorem bs_map (l : List ByteArray) : (l.map bs).map sv = l.map encStr := by
  rw [List.map_map]
  exact List.map_congr_left fun s _ => bs_str s
theorem sv_oneW (l : List (List UInt8)) : ∀ v ∈ l.map sv, v.oneCell' = true := by
  intro v hv
  obtain ⟨x, _, rfl⟩ := List.mem_map.1 hv
  rfl
theorem iv_oneW (l : List Int) : ∀ v ∈ l.map iv, v.oneCell' = true := by
  intro v hv
  obtain ⟨x, _, rfl⟩ := List.mem_map.1 hv
  rfl
theorem filter_take {α : Type} {l : List α} {j : Nat} {x : α} (p : α → Bool) (h : l[j]? = some x) : (l.take (j + 1)).filter p = (l.take j).filter p ++ (if p x = true then [x] else []) := by
  rw [List.take_add_one, h, List.filter_append]
  congr 1
  simp only [Option.toList_some, List.filter_cons, List.filter_nil]
theorem flat_takeW {α β : Type} {l : List α} {j : Nat} {x : α} (f : α → List β) (h : l[j]? = some x) : (l.take (j + 1)).flatMap f = (l.take j).flatMap f ++ f x := by
  rw [List.take_add_one, h, List.flatMap_append]
  simp

set_option maxRecDepth 100000 in
set_option maxHeartbeats 8000000 in
theorem rWorld_c (pa : Option Addr) (pn pc : Nat) (rs : List RuleR) (w : World) (hp : PolOk w pa pn pc rs) (hE : polE rs pn = 0) :
    Calls Tryz.prog 9 #[.agg #[.slice pa pn pc]] w fun e w' => (¬ szW rs ≤ 100000 ∧ e = .returned (.tuple #[.slice none 0 0, .bool false]) ∧ Ext w w') ∨
      (szW rs ≤ 100000 ∧ ∃ v xs, e = .returned (.tuple #[v, .bool true]) ∧ AsksI w' w.heap.size v xs ∧ xs.map AskR.p = worldP rs ∧ Ext w w') := by
  obtain ⟨h100, hz⟩ := polE_zero hE
  have hrl : rs.length ≤ 100 := by rw [hp.hl]; exact h100
  have HPO := hid hp
  have HZ := hid hz
  clear hp hE hz
  go_enter Tryz.func9, Tryz.ntmps9
  go_upto_region 3 with (fail)
  generalize hwA : World.alloc (World.alloc w _) _ = wA
  have bA : Blk wA w.heap.size [.slice pa pn pc] 24 := by rw [← hwA]; exact (Blk.mk_alloc rfl rfl).alloc _
  have iA : Blk wA (w.heap.size + 1) [.int .i64 0] 3 := by rw [← hwA]; exact blk_two _ _ _ _
  have eA : Ext w wA := by rw [← hwA]; exact ((Ext.refl w).alloc _).alloc _
  have IA : Hid (RInvW wA w.heap.size (.slice none 0 0) [] (.slice none 0 0) [] (.slice (some ⟨w.heap.size + 1, 0, none⟩) 1 1) [0]) := hid ⟨⟨rfl, .inl ⟨rfl, rfl⟩⟩, ⟨rfl, .inl ⟨rfl, rfl⟩⟩, own_mkS (rest := []) (by simpa using iA) (by simp) (by simp) (by omega) (Nat.le_refl _) (by decide), Apart.nil 0⟩
  have BA := hid bA
  have EA := hid eA
  have HTS := hid elem_str
  have HTI := hid elem_int
  clear hwA bA iA eA
  have hwA := EA.out.size
  go_wp2_with (refine wpl_appendN (m := 2) (c := 2) (news := [[], [120]].map sv) HTS.out rfl _ _ rfl w.heap.size rfl rfl (IA.out.ext ((Ext.refl wA).alloc _)).r5 rfl (Cells.of_blk0 (Blk.mk_alloc (T := 9) rfl rfl)) (sv_oneW _) (by simp) (by simp) (by rw [size_allocW]; omega) ?_)
  intro v5 wB ho hg hb
  have IB := hid ((IA.out.ext ((Ext.refl wA).alloc _)).push5 (news := [[], [120]]) rfl ho hg (by rw [size_allocW]; exact hb))
  have EB := hid ((IA.out.ext ((Ext.refl wA).alloc _)).ext5 (EA.out.alloc _) (Nat.le_refl _) hg)
  have BB := hid ((BA.out.alloc _).besides ((IA.out.ext ((Ext.refl wA).alloc _)).r5) hg (by decide))
  rw [show ([] : List (List UInt8)) ++ [[], [120]] = labW refLab (rs.take 0) by simp [labW]] at IB
  clear ho hg hb IA EA BA hwA
  have c0 := BB.out.cell' (i := 0) rfl
  go_wp2
  go_loopw [4, 5, 6, 37] (fun v4 v5 v6 i wr => ∃ (k : Nat) (l4 l5 : List (List UInt8)) (l6 : List Int), k ≤ pn ∧ i = .int .i64 (k : Int) ∧ RInvW wr w.heap.size v4 l4 v5 l5 v6 l6 ∧ l4 = rolesW (rs.take k) ∧ l5 = labW refLab (rs.take k) ∧ l6 = houW (rs.take k) ∧ l4.length ≤ 17 * k ∧ l5.length ≤ 2 + 32 * k ∧ l6.length ≤ 1 + 2 * k ∧ Ext w wr) (fun _ _ _ i _ => pn - (intOf i).toNat)
  case atStart => exact ⟨0, [], _, _, by omega, rfl, IB.out, by simp [rolesW], rfl, by simp [houW], by simp, by simp [labW], by simp, EB.out⟩
  case round =>
    obtain ⟨k, l4, l5, l6, hk, rfl, hinv, h4, h5, h6, n4, n5, n6, e1⟩ := hrel
    have E1 := hid e1
    have INV := hid hinv
    have H4 := hid h4
    have H5 := hid h5
    have H6 := hid h6
    clear e1 hinv h4 h5 h6 IB EB BB
    by_cases hlt : k < pn
    · obtain ⟨r, hrk⟩ : ∃ r, rs[k]? = some r := ⟨rs[k]'(by rw [HPO.out.hl]; exact hlt), by simp⟩
      obtain ⟨A, rfl, hca⟩ := (HPO.out.ext E1.out).at hrk
      have HCA := hid hca
      have hrz := HZ.out r (List.mem_of_getElem? hrk)
      have HOK := hid (HPO.out.ok r (List.mem_of_getElem? hrk))
      obtain ⟨hr16, han16, hl16⟩ := ruleE_k1 hrz
      have HRZ := hid hrz
      have HRL := hid (RuleR.len r)
      have HRK := hid hrk
      clear hca hrk hrz
      have hro := ruleV_one r
      have HAG := hid agg_rule
      go_wp2_with (first | (refine wpl_run rfl (exec_index (i := k) rfl rfl rfl Tryz.underlying22 size_rule hlt _) ?_) | (refine wpl_run rfl (exec_load_at rfl rfl HCA.out HAG.out HRL.out) ?_) | (refine wpl_storew rfl _ (.tmp 8) _ rfl rfl rfl (Blk.mk_alloc (vs := zeroRule) rfl rfl) HAG.out rfl HRL.out hro ?_))
      intro wB bB uB
      have eB : Ext wr wB := uB.ext ((Ext.refl wr).alloc _) (Nat.le_refl _)
      have BB := hid bB
      have EB := hid (E1.out.ext eB)
      have INB := hid (INV.out.ext eB)
      clear bB uB eB HCA INV E1
      generalize wr.heap.size = gr at *
      have c1 := BB.out.cell' (i := 1) rfl
      have hrcell : Cells wB r.ra ((r.roles.map bs).map sv) := by rw [bs_map]; exact (HOK.out.ext EB.out).rcell
      have HRC := hid hrcell
      have hrlen : ((r.roles.map bs).map sv).length = r.rn * 1 := by rw [List.length_map, List.length_map, HOK.out.rl, Nat.mul_one]
      have hwB := EB.out.size
      clear hrcell
      go_wp2_with (refine wpl_appendN (m := r.rn) (c := r.rc) (news := (r.roles.map bs).map sv) HTS.out rfl _ _ rfl w.heap.size rfl rfl INB.out.r4 hrlen HRC.out (sv_oneW _) (by omega) (by omega) hwB ?_)
      intro v4 wC ho hg hb
      have INC := hid (INB.out.push4 (m := r.rn) (news := r.roles.map bs) (by rw [List.length_map]; exact HOK.out.rl) (by rw [List.map_map]; exact ho) hg hb)
      have EC := hid (INB.out.ext4 EB.out (Nat.le_refl _) hg)
      have BC := hid (BB.out.besides INB.out.r4 hg (by decide))
      clear ho hg hb INB EB BB HRC c1
      have c7 := BC.out.cell' (i := 7) rfl
      obtain ⟨M4, hM4⟩ : ∃ M4, l4 ++ r.roles.map bs = M4 := ⟨_, rfl⟩
      have HM4 := hid hM4
      rw [hM4] at INC
      clear hM4
      go_upto_if 47 with (fail)
      obtain ⟨L4, hL4⟩ : ∃ x, rolesW (rs.take (k + 1)) = x := ⟨_, rfl⟩
      have HL4 := hid hL4
      have hL4e : L4 = M4 ++ (if emptyB r.ow then [] else [bs r.ow]) := by
        rw [← hL4, rolesW_succ HRK.out, ← HM4.out, H4.out]
        unfold roleWords
        simp
      have HL4E := hid hL4e
      have hl4n : M4.length ≤ 17 * k + 16 := by rw [← HM4.out, List.length_append, List.length_map, HOK.out.rl]; omega
      clear hL4 hL4e
      go_cut [4] (fun v4 wx => RInvW wx w.heap.size v4 L4 u5 l5 u6 l6 ∧ L4.length ≤ 17 * (k + 1) ∧ Blk wx gr r.v 50 ∧ Ext w wx)
      case first =>
        cases hem : emptyB r.ow with
        | true =>
          have hLe : L4 = M4 := by rw [HL4E.out, hem]; simp
          have HLe := hid hLe
          unfold emptyB at hem
          rw [hem]
          clear hLe
          go_wp2_with fail
          go_meet
          rw [HLe.out]
          exact ⟨INC.out, by omega, BC.out, EC.out⟩
        | false =>
          have hLe : L4 = M4 ++ [bs r.ow] := by rw [HL4E.out, hem]; simp
          have HLe := hid hLe
          unfold emptyB at hem
          rw [hem]
          have hwC := EC.out.size
          clear hLe
          go_wp2_with (refine wpl_appendN (m := 1) (c := 1) (news := [bs r.ow].map sv) HTS.out rfl _ _ rfl w.heap.size rfl rfl (INC.out.ext ((Ext.refl wC).alloc _)).r4 rfl (Cells.of_blk0 (Blk.mk_alloc (T := 9) rfl rfl)) (sv_oneW _) (by omega) (by omega) (by rw [size_allocW]; omega) ?_)
          intro v4' wD ho hg hb
          have IND := hid ((INC.out.ext ((Ext.refl wC).alloc _)).push4 (news := [bs r.ow]) rfl ho hg (by rw [size_allocW]; exact hb))
          have ED := hid ((INC.out.ext ((Ext.refl wC).alloc _)).ext4 (EC.out.alloc _) (Nat.le_refl _) hg)
          have BD := hid ((BC.out.alloc _).besides ((INC.out.ext ((Ext.refl wC).alloc _)).r4) hg (by decide))
          clear ho hg hb INC EC BC
          go_wp2_with fail
          go_meet
          rw [HLe.out]
          exact ⟨IND.out, by rw [List.length_append, List.length_singleton]; omega, BD.out, ED.out⟩
      case rest =>
      obtain ⟨hinD, hn4D, hbD, heD⟩ := hcut
      have IND := hid hinD
      have BD := hid hbD
      have ED := hid heD
      have c3 := BD.out.cell' (i := 3) rfl
      clear hinD hbD heD INC BC EC c7 HL4E
      have HPR := hid (ruleE_labels HRZ.out)
      clear han16 hrlen hwB HM4 hl4n
      go_wp2
      go_loopw [5, 56] (fun v5 i wx => ∃ (j : Nat) (l5' : List (List UInt8)), j ≤ r.ln ∧ i = .int .i64 (j : Int) ∧ RInvW wx w.heap.size u4 L4 v5 l5' u6 l6 ∧ l5' = l5 ++ (r.labels.take j).flatMap (fun s => refLab (bs s)) ∧ l5'.length ≤ 2 + 32 * k + 2 * j ∧ Blk wx gr r.v 50 ∧ Ext w wx) (fun _ i _ => r.ln - (intOf i).toNat)
      case atStart => exact ⟨0, l5, by omega, rfl, IND.out, by simp, by omega, BD.out, ED.out⟩
      case round =>
        obtain ⟨j, l5', hj, rfl, hinv, hl5, hn5, hbb, e2⟩ := hrel
        have INV := hid hinv
        have HL5 := hid hl5
        have BB := hid hbb
        have E2 := hid e2
        clear hinv hl5 hbb e2 IND BD ED
        by_cases hjt : j < r.ln
        · have OK2 := hid (HOK.out.ext E2.out)
          obtain ⟨s, hsj⟩ : ∃ s, r.labels[j]? = some s := ⟨r.labels[j]'(by rw [OK2.out.ll]; exact hjt), by simp⟩
          obtain ⟨A2, hA2, hcs⟩ := strs_at OK2.out.lcell hsj
          rw [Nat.mul_one] at hcs
          have hsz := OK2.out.ls s (List.mem_of_getElem? hsj)
          have hps := HPR.out s (List.mem_of_getElem? hsj)
          obtain ⟨H, hH⟩ : ∃ H, headL (bs s) = H := ⟨_, rfl⟩
          have hHl : H.length ≤ 32 := by rw [← hH]; exact pat_len hps
          have HCUT : Hid (∀ W, Calls Tryz.prog 27 #[.string s, .string ⟨#[42]⟩] W fun e W' => e = .returned (.tuple #[.string (strOf H), .bool (starL (bs s))]) ∧ W' = W) := hid (fun W => by
            rw [← hH]
            exact cutSuffix_c s ⟨#[42]⟩ W (by omega))
          have HTK : Hid ((r.labels.take (j + 1)).flatMap (fun s => refLab (bs s)) = (r.labels.take j).flatMap (fun s => refLab (bs s)) ++ refLab (bs s)) := hid (flat_takeW _ hsj)
          have HRF : Hid (refLab (bs s) = if starL (bs s) then [H, H ++ [120]].filter isNameL else [bs s]) := hid (by unfold refLab; rw [hH])
          have hcl : H.length + ([120] : List UInt8).length ≤ 9223372036854775807 := by simp; omega
          have hw2 := E2.out.size
          rw [hA2]
          clear hsj hps hH OK2
          cases hst : starL (bs s) with
          | false =>
            rw [hst] at HCUT HRF
            go_wp2_with fail
            refine (HCUT.out _).mono ?_
            rintro e w1 ⟨rfl, rfl⟩
            go_wp2_with (refine wpl_appendN (m := 1) (c := 1) (news := [bs s].map sv) HTS.out rfl _ _ rfl w.heap.size rfl rfl (INV.out.ext ((Ext.refl _).alloc _)).r5 rfl (Cells.of_blk0 (Blk.mk_alloc (T := 9) rfl rfl)) (sv_oneW _) (by omega) (by omega) (by rw [size_allocW]; omega) ?_)
            intro v5' wD ho hg hb
            have IND := hid ((INV.out.ext ((Ext.refl _).alloc _)).push5 (news := [bs s]) rfl ho hg (by rw [size_allocW]; exact hb))
            have ED := hid ((INV.out.ext ((Ext.refl _).alloc _)).ext5 (E2.out.alloc _) (Nat.le_refl _) hg)
            have BD := hid ((BB.out.alloc _).besides ((INV.out.ext ((Ext.refl _).alloc _)).r5) hg (by decide))
            have HL5' : Hid (l5' ++ [bs s] = l5 ++ (r.labels.take (j + 1)).flatMap (fun s => refLab (bs s))) := hid (by rw [HTK.out, HRF.out, HL5.out]; simp)
            have hn5' : (l5' ++ [bs s]).length ≤ 2 + 32 * k + 2 * (j + 1) := by rw [List.length_append, List.length_singleton]; omega
            clear ho hg hb INV E2 BB HTK HRF HL5 HCUT hcs
            go_wp2
            go_roundw
            case rel => exact ⟨j + 1, _, by omega, by go_num, IND.out, HL5'.out, hn5', BD.out, ED.out⟩
            case measure => simp [intOf]; omega
          | true =>
            rw [hst] at HCUT HRF
            obtain ⟨X, hX⟩ : ∃ X, H ++ [120] = X := ⟨_, rfl⟩
            have hXl : X.length ≤ 33 := by rw [← hX, List.length_append, List.length_singleton]; omega
            rw [hX, if_pos rfl] at HRF
            have HN : Hid (∀ x : List UInt8, x.length ≤ 33 → ∀ W, Calls Tryz.prog 28 #[.string (strOf x)] W fun e W' => e = .returned (.bool (isNameL x)) ∧ Ext W W') := hid (fun x hx W => by
              have := risName_c (strOf x) W (by rw [sizeOf_str]; omega)
              rwa [show (strOf x).data.toList = x by unfold strOf; simp] at this)
            go_wp2_with fail
            refine (HCUT.out _).mono ?_
            rintro e w1 ⟨rfl, rfl⟩
            go_upto_region 16 with (fail)
            go_wp2_with (first | (refine wpl_run rfl (exec_catR hX rfl rfl rfl hcl _) ?_))
            generalize hwL : World.alloc w1 _ = wL
            have eL : Ext w1 wL := by rw [← hwL]; exact (Ext.refl w1).alloc _
            have bL : Blk wL w1.heap.size ([H, X].map sv) 9 := by rw [← hwL]; exact Blk.mk_alloc rfl rfl
            obtain ⟨gl, hgl⟩ : ∃ gl, w1.heap.size = gl := ⟨_, rfl⟩
            rw [hgl] at bL
            have LIT : Hid (wL.ownsRow 0 9 1 (.slice (some ⟨gl, 0, none⟩) 2 2) 2 ([H, X].map sv)) := hid (own_mkS (rest := []) (by simpa using bL) (by simp) (by simp) (Nat.zero_le _) (Nat.le_refl _) (by decide))
            have AP5 : Hid (Apart u5 (.slice (some ⟨gl, 0, none⟩) 2 2)) := hid (fun g h1 h2 => by
              have h3 := (INV.out.r5.lt g h1).2
              simp only [Value.ownBlock, Option.some.injEq] at h2
              omega)
            have INL := hid (INV.out.ext eL)
            have BL := hid (BB.out.ext eL)
            have EL := hid (E2.out.ext eL)
            rw [hgl]
            clear hwL eL bL INV BB E2 hcs hX hcl hgl
            go_loopw [5, 76] (fun v5 i wx => ∃ (q : Nat) (m5 : List (List UInt8)), q ≤ 2 ∧ i = .int .i64 (q : Int) ∧ RInvW wx w.heap.size u4 L4 v5 m5 u6 l6 ∧ m5 = l5' ++ ([H, X].take q).filter isNameL ∧ m5.length ≤ 2 + 32 * k + 2 * j + q ∧ Blk wx gr r.v 50 ∧ wx.ownsRow 0 9 1 (.slice (some ⟨gl, 0, none⟩) 2 2) 2 ([H, X].map sv) ∧ Apart v5 (.slice (some ⟨gl, 0, none⟩) 2 2) ∧ Ext w wx) (fun _ i _ => 2 - (intOf i).toNat)
            case atStart => exact ⟨0, l5', by omega, rfl, INL.out, by simp, by omega, BL.out, LIT.out, AP5.out, EL.out⟩
            case round =>
              obtain ⟨q, m5, hq, rfl, hinv, hm5, hnm, hbb, hlit, hap, e3⟩ := hrel
              have INV := hid hinv
              have HM5 := hid hm5
              have BB := hid hbb
              have LIQ := hid hlit
              have AP := hid hap
              have E3 := hid e3
              clear hinv hm5 hbb hlit hap e3 INL BL LIT AP5 EL
              by_cases hqt : q < 2
              · obtain ⟨x, hxq⟩ : ∃ x, [H, X][q]? = some x := ⟨[H, X][q]'hqt, by simp⟩
                have hxl : x.length ≤ 33 := by
                  rcases (show q = 0 ∨ q = 1 by omega) with rfl | rfl
                  · simp at hxq; subst hxq; omega
                  · simp at hxq; subst hxq; omega
                have hcx : wr.cell? ⟨gl, q, none⟩ = some (sv x) := by
                  rw [LIQ.out.cellAt q (by omega), List.getElem?_map, hxq]
                  rfl
                have hq0 : (⟨gl, 0, none⟩ : Addr).add q = ⟨gl, q, none⟩ := by rw [addr_add, Nat.zero_add]
                have HFT := hid (filter_take isNameL hxq)
                have hw3 := E3.out.size
                clear hxq
                go_wp2_with fail
                refine (HN.out x hxl _).mono ?_
                rintro e w4 ⟨rfl, e4⟩
                have INV4 := hid (INV.out.ext e4)
                have BB4 := hid (BB.out.ext e4)
                have LIQ4 := hid (own_extW LIQ.out e4)
                have E4 := hid (E3.out.ext e4)
                have hw4 := E4.out.size
                clear INV BB LIQ E3 e4 hcx hq0 hw3
                cases hx : isNameL x with
                | false =>
                  have HM5' : Hid (m5 = l5' ++ ([H, X].take (q + 1)).filter isNameL) := hid (by rw [HFT.out, HM5.out, hx]; simp)
                  clear HM5 HFT hx
                  go_wp2
                  go_roundw
                  case rel => exact ⟨q + 1, m5, by omega, by go_num, INV4.out, HM5'.out, by omega, BB4.out, LIQ4.out, AP.out, E4.out⟩
                  case measure => simp [intOf]; omega
                | true =>
                  have HM5' : Hid (m5 ++ [x] = l5' ++ ([H, X].take (q + 1)).filter isNameL) := hid (by rw [HFT.out, HM5.out, hx]; simp)
                  have hnm' : (m5 ++ [x]).length ≤ 2 + 32 * k + 2 * j + (q + 1) := by rw [List.length_append, List.length_singleton]; omega
                  clear HM5 HFT hx
                  go_wp2_with (refine wpl_appendN (m := 1) (c := 1) (news := [x].map sv) HTS.out rfl _ _ rfl w.heap.size rfl rfl (INV4.out.ext ((Ext.refl _).alloc _)).r5 rfl (Cells.of_blk0 (Blk.mk_alloc (T := 9) rfl rfl)) (sv_oneW _) (by omega) (by omega) (by rw [size_allocW]; omega) ?_)
                  intro v5' wD ho hg hb
                  have IND := hid ((INV4.out.ext ((Ext.refl _).alloc _)).push5 (news := [x]) rfl ho hg (by rw [size_allocW]; exact hb))
                  have ED := hid ((INV4.out.ext ((Ext.refl _).alloc _)).ext5 (E4.out.alloc _) (Nat.le_refl _) hg)
                  have BD := hid ((BB4.out.alloc _).besides ((INV4.out.ext ((Ext.refl _).alloc _)).r5) hg (by decide))
                  have APD := hid (Apart.append AP.out (LIQ4.out.alloc (.cells #[sv x] 9)) (by rw [size_allocW]; exact hb))
                  have LID := hid (Apart.keep AP.out (LIQ4.out.alloc _) hg)
                  clear ho hg hb INV4 E4 BB4 AP LIQ4
                  go_wp2
                  go_roundw
                  case rel => exact ⟨q + 1, _, by omega, by go_num, IND.out, HM5'.out, hnm', BD.out, LID.out, APD.out, ED.out⟩
                  case measure => simp [intOf]; omega
              · obtain rfl : q = 2 := by omega
                have HL5' : Hid (m5 = l5 ++ (r.labels.take (j + 1)).flatMap (fun s => refLab (bs s))) := hid (by
                  rw [HTK.out, HRF.out, HM5.out, HL5.out, List.append_assoc]
                  rfl)
                clear HM5 HTK HRF HL5 HN HCUT LIQ AP
                go_wp2
                go_roundw
                case rel => exact ⟨j + 1, _, by omega, by go_num, INV.out, HL5'.out, by omega, BB.out, E3.out⟩
                case measure => simp [intOf]; omega
        · obtain rfl : j = r.ln := by omega
          obtain ⟨L5, hL5⟩ : ∃ x, labW refLab (rs.take (k + 1)) = x := ⟨_, rfl⟩
          have hle : l5' = L5 := by
            rw [← hL5, labW_succ HRK.out, ← H5.out, HL5.out, List.take_of_length_le (by rw [HOK.out.ll]; exact Nat.le_refl _)]
            rfl
          subst hle
          have HL5' := hid hL5
          have hn5' : l5'.length ≤ 2 + 32 * (k + 1) := by omega
          have c4 := BB.out.cell' (i := 4) rfl
          have c5 := BB.out.cell' (i := 5) rfl
          clear hL5 HL5
          go_wp2
          generalize hwL : World.alloc wr _ = wL
          have eL : Ext wr wL := by rw [← hwL]; exact (Ext.refl wr).alloc _
          have bL : Blk wL wr.heap.size ([r.fr, r.tt].map iv) 3 := by rw [← hwL]; exact Blk.mk_alloc rfl rfl
          obtain ⟨gl, hgl⟩ : ∃ gl, wr.heap.size = gl := ⟨_, rfl⟩
          rw [hgl] at bL
          have LIT : Hid (wL.ownsRow 0 3 1 (.slice (some ⟨gl, 0, none⟩) 2 2) 2 ([r.fr, r.tt].map iv)) := hid (own_mkS (rest := []) (by simpa using bL) (by simp) (by simp) (Nat.zero_le _) (Nat.le_refl _) (by decide))
          have AP6 : Hid (Apart u6 (.slice (some ⟨gl, 0, none⟩) 2 2)) := hid (fun g h1 h2 => by
            have h3 := (INV.out.r6.lt g h1).2
            simp only [Value.ownBlock, Option.some.injEq] at h2
            omega)
          have INL := hid (INV.out.ext eL)
          have EL := hid (E2.out.ext eL)
          rw [hgl]
          clear hwL eL bL INV BB E2 hgl c4 c5
          go_loopw [6, 94] (fun v6 i wx => ∃ (q : Nat) (m6 : List Int), q ≤ 2 ∧ i = .int .i64 (q : Int) ∧ RInvW wx w.heap.size u4 L4 u5 l5' v6 m6 ∧ m6 = l6 ++ ([r.fr, r.tt].take q).filter (fun h => decide (h < 24)) ∧ m6.length ≤ 1 + 2 * k + q ∧ wx.ownsRow 0 3 1 (.slice (some ⟨gl, 0, none⟩) 2 2) 2 ([r.fr, r.tt].map iv) ∧ Apart v6 (.slice (some ⟨gl, 0, none⟩) 2 2) ∧ Ext w wx) (fun _ i _ => 2 - (intOf i).toNat)
          case atStart => exact ⟨0, l6, by omega, rfl, INL.out, by simp, by omega, LIT.out, AP6.out, EL.out⟩
          case round =>
            obtain ⟨q, m6, hq, rfl, hinv, hm6, hnm, hlit, hap, e3⟩ := hrel
            have INV := hid hinv
            have HM6 := hid hm6
            have LIQ := hid hlit
            have AP := hid hap
            have E3 := hid e3
            clear hinv hm6 hlit hap e3 INL LIT AP6 EL
            by_cases hqt : q < 2
            · obtain ⟨z, hzq⟩ : ∃ z, [r.fr, r.tt][q]? = some z := ⟨[r.fr, r.tt][q]'hqt, by simp⟩
              have hcx : wr.cell? ⟨gl, q, none⟩ = some (.int .i64 z) := by
                rw [LIQ.out.cellAt q (by omega), List.getElem?_map, hzq]
                rfl
              have hq0 : (⟨gl, 0, none⟩ : Addr).add q = ⟨gl, q, none⟩ := by rw [addr_add, Nat.zero_add]
              have HFT := hid (filter_take (fun h => decide (h < 24)) hzq)
              have hw3 := E3.out.size
              clear hzq
              by_cases hz : z < 24
              · have dz : decide (z < 24) = true := decide_eq_true hz
                have HM6' : Hid (m6 ++ [z] = l6 ++ ([r.fr, r.tt].take (q + 1)).filter (fun h => decide (h < 24))) := hid (by rw [HFT.out, HM6.out, dz]; simp)
                have hnm' : (m6 ++ [z]).length ≤ 1 + 2 * k + (q + 1) := by rw [List.length_append, List.length_singleton]; omega
                clear HM6 HFT
                go_wp2_with (refine wpl_appendN (m := 1) (c := 1) (news := [z].map iv) HTI.out rfl _ _ rfl w.heap.size rfl rfl (INV.out.ext ((Ext.refl _).alloc _)).r6 rfl (Cells.of_blk0 (Blk.mk_alloc (T := 3) rfl rfl)) (iv_oneW _) (by omega) (by omega) (by rw [size_allocW]; omega) ?_)
                intro v6' wD ho hg hb
                have IND := hid ((INV.out.ext ((Ext.refl _).alloc _)).push6 (zs := [z]) rfl ho hg)
                have ED := hid ((INV.out.ext ((Ext.refl _).alloc _)).ext6 (E3.out.alloc _) (Nat.le_refl _) hg)
                have APD := hid (Apart.append AP.out (LIQ.out.alloc (.cells #[iv z] 3)) (by rw [size_allocW]; exact hb))
                have LID := hid (Apart.keep AP.out (LIQ.out.alloc _) hg)
                clear ho hg hb INV E3 AP LIQ hcx hq0 dz
                go_wp2
                go_roundw
                case rel => exact ⟨q + 1, _, by omega, by go_num, IND.out, HM6'.out, hnm', LID.out, APD.out, ED.out⟩
                case measure => simp [intOf]; omega
              · have dz : decide (z < 24) = false := decide_eq_false hz
                have HM6' : Hid (m6 = l6 ++ ([r.fr, r.tt].take (q + 1)).filter (fun h => decide (h < 24))) := hid (by rw [HFT.out, HM6.out, dz]; simp)
                clear HM6 HFT
                go_wp2
                go_roundw
                case rel => exact ⟨q + 1, m6, by omega, by go_num, INV.out, HM6'.out, by omega, LIQ.out, AP.out, E3.out⟩
                case measure => simp [intOf]; omega
            · obtain rfl : q = 2 := by omega
              have HM6' : Hid (m6 = houW (rs.take (k + 1))) := hid (by
                rw [houW_succ HRK.out, HM6.out, H6.out]
                rfl)
              have H4' : Hid (L4 = rolesW (rs.take (k + 1))) := hid HL4.out.symm
              have H5' : Hid (l5' = labW refLab (rs.take (k + 1))) := hid HL5'.out.symm
              clear HM6 HL4 HL5' LIQ AP H4 H5 H6
              go_wp2
              go_roundw
              case rel => exact ⟨k + 1, L4, l5', m6, by omega, by go_num, INV.out, H4'.out, H5'.out, HM6'.out, by omega, by omega, by omega, E3.out⟩
              case measure => simp [intOf]; omega
    · obtain rfl : k = pn := by omega
      have H4' : Hid (l4 = rolesW rs) := hid (by rw [H4.out, List.take_of_length_le (by rw [HPO.out.hl]; exact Nat.le_refl _)])
      have H5' : Hid (l5 = labW refLab rs) := hid (by rw [H5.out, List.take_of_length_le (by rw [HPO.out.hl]; exact Nat.le_refl _)])
      have H6' : Hid (l6 = houW rs) := hid (by rw [H6.out, List.take_of_length_le (by rw [HPO.out.hl]; exact Nat.le_refl _)])
      have HSM := hid (labsOf_small HZ.out)
      have HSM4 : Hid (∀ x ∈ l4, x.length ≤ 140737488355328) := hid (by
        intro x hx
        rw [H4'.out] at hx
        unfold rolesW roleWords at hx
        simp only [List.mem_flatMap, List.mem_append, List.mem_map] at hx
        obtain ⟨r, hr, hx⟩ := hx
        have hok := HPO.out.ok r hr
        rcases hx with ⟨s, hs, rfl⟩ | hx
        · rw [bs_len]; exact hok.rs s hs
        · split at hx
          · cases hx
          · rw [List.mem_singleton] at hx
            subst hx
            rw [bs_len]; exact hok.os)
      have HH24 := hid (hoursW_in (rs := rs) (fun r hr => ruleE_24 (HZ.out r hr)))
      clear H4 H5 H6 c0 HPO HZ
      go_wp2_with fail
      refine (sortStr_c INV.out.r4 (by omega)).mono ?_
      rintro e w1 ⟨rfl, ho, hg⟩
      have E2 := hid (INV.out.ext4 E1.out (Nat.le_refl _) hg)
      have INV2 := hid (INV.out.set4 (sortL_len l4) ho hg rfl)
      clear ho hg INV E1
      go_wp2_with fail
      refine (compStr_c INV2.out.r4 (by rw [sortL_len]; omega)).mono ?_
      rintro e w2 ⟨v4, rfl, ho, hg, hb⟩
      have hc4 : Lib.compact (sortL l4) = canL l4 := by rw [comp_dd]; rfl
      rw [hc4] at ho
      have E3 := hid (INV2.out.ext4 E2.out (Nat.le_refl _) hg)
      have INV3 := hid (INV2.out.set4 rfl ho hg hb)
      clear ho hg hb INV2 E2 hc4
      go_wp2_with fail
      refine (sortStr_c INV3.out.r5 (by omega)).mono ?_
      rintro e w3 ⟨rfl, ho, hg⟩
      have E4 := hid (INV3.out.ext5 E3.out (Nat.le_refl _) hg)
      have INV4 := hid (INV3.out.set5 (sortL_len l5) ho hg rfl)
      clear ho hg INV3 E3
      go_wp2_with fail
      refine (compStr_c INV4.out.r5 (by rw [sortL_len]; omega)).mono ?_
      rintro e w4 ⟨v5, rfl, ho, hg, hb⟩
      have hc5 : Lib.compact (sortL l5) = canL l5 := by rw [comp_dd]; rfl
      rw [hc5] at ho
      have E5 := hid (INV4.out.ext5 E4.out (Nat.le_refl _) hg)
      have INV5 := hid (INV4.out.set5 rfl ho hg hb)
      clear ho hg hb INV4 E4 hc5
      go_wp2_with fail
      refine (sortInt_c INV5.out.r6 (by omega)).mono ?_
      rintro e w5 ⟨rfl, ho, hg⟩
      have E6 := hid (INV5.out.ext6 E5.out (Nat.le_refl _) hg)
      have INV6 := hid (INV5.out.set6 (sortI_len l6) ho hg)
      clear ho hg INV5 E5
      go_wp2_with fail
      refine (compInt_c INV6.out.r6 (by rw [sortI_len]; omega)).mono ?_
      rintro e w6 ⟨v6, rfl, ho, hg, hb⟩
      have hc6 : Lib.compact (sortI l6) = canI l6 := by rw [comp_dd]; rfl
      rw [hc6] at ho
      have E7 := hid (INV6.out.ext6 E6.out (Nat.le_refl _) hg)
      have INV7 := hid (INV6.out.set6 rfl ho hg)
      clear ho hg hb INV6 E6 hc6
      have hn4 : (canL l4).length ≤ 1700 := Nat.le_trans (canL_len l4) (by omega)
      have hn5 : (canL l5).length ≤ 3300 := Nat.le_trans (canL_len l5) (by omega)
      have hn6 : (canI l6).length ≤ 300 := Nat.le_trans (canI_len l6) (by omega)
      have HSM4' : Hid (∀ x ∈ canL l4, x.length ≤ 140737488355328) := hid (fun x hx => HSM4.out x ((canL_mem l4 x).1 hx))
      obtain ⟨SS, hSS⟩ : ∃ x, setsOf rs = x := ⟨_, rfl⟩
      obtain ⟨LL, hLL⟩ : ∃ x, labsOf rs = x := ⟨_, rfl⟩
      obtain ⟨HH, hHH⟩ : ∃ x, hoursW rs = x := ⟨_, rfl⟩
      obtain ⟨ro, hro⟩ : ∃ x, canL l4 = x := ⟨_, rfl⟩
      have hLL2 : canL l5 = LL := by rw [H5'.out]; exact hLL
      have hHH2 : canI l6 = HH := by rw [H6'.out]; exact hHH
      have HSW : Hid (setsW ro = SS) := hid (by rw [← hro, H4'.out]; exact hSS)
      have hSz : szW rs = SS.length * 12 * LL.length * HH.length := by unfold szW; rw [hSS, hLL, hHH]
      have hWP : worldP rs = SS.flatMap fun s => actsW.flatMap fun a => LL.flatMap fun l => HH.map fun h => (⟨zer 16, s.map strOf, a, strOf l, zer 16, 3600 * h, zer 32⟩ : AskP) := by unfold worldP; rw [hSS, hLL, hHH]
      rw [hro, hLL2, hHH2] at INV7
      rw [hro] at hn4 HSM4'
      rw [hLL2] at hn5
      rw [hHH2] at hn6
      rw [hLL] at HSM
      rw [hHH] at HH24
      have hL0 : 0 < LL.length := by rw [← hLL]; exact labsOf_pos rs
      have hH0 : 0 < HH.length := by rw [← hHH]; exact hoursW_pos rs
      have hS15 : SS.length ≤ 1500000 := by rw [← HSW.out]; exact setsW_le ro hn4
      obtain ⟨Sz, hSz2⟩ : ∃ n, szW rs = n := ⟨_, rfl⟩
      have hSzz : SS.length * 12 * LL.length * HH.length = Sz := by rw [← hSz2, hSz]
      have HWP := hid hWP
      have HSZ := hid hSz2
      clear hSS hLL hHH hro hLL2 hHH2 hSz hWP hSz2 H4' H5' H6' HSM4 n4 n5 n6
      obtain ⟨a4, c4, rfl, hc4, hx1, hy1⟩ := own_cellsA INV7.out.r4
      obtain ⟨a5, c5, rfl, hc5, hx2, hy2⟩ := own_cellsA INV7.out.r5
      obtain ⟨a6, c6, rfl, hc6, hx3, hy3⟩ := own_cellsA INV7.out.r6
      clear hx1 hx2 hx3 hy1 hy2 hy3
      have hwB := E7.out.size
      have HT := hid elem_sets
      go_upto_region 37 with (fail)
      generalize hwC : World.alloc w6 _ = wC
      have bC : Blk wC w6.heap.size [.slice none 0 0] 36 := by rw [← hwC]; exact Blk.mk_alloc rfl rfl
      have eC : Ext w6 wC := by rw [← hwC]; exact (Ext.refl w6).alloc _
      have PC : Hid (PInvW wC w.heap.size (.slice (some ⟨w6.heap.size, 0, none⟩) 1 1) [⟨none, 0, 0, []⟩] ⟨a4, ro.length, c4, ro⟩ ⟨a5, LL.length, c5, LL⟩ (.slice a6 HH.length c6) HH) := hid
        ⟨⟨own_mkS (rest := []) (by simpa [SetR.v] using bC) (by simp) (by simp) hwB (Nat.le_refl _) (by decide), fun s hs => by rw [List.mem_singleton] at hs; subst hs; exact SetR.Own.nil _⟩,
         ⟨⟨_, own_extW INV7.out.r4 eC⟩, HSM4'.out⟩, ⟨⟨_, own_extW INV7.out.r5 eC⟩, HSM.out⟩, own_extW INV7.out.r6 eC⟩
      have EC := hid (E7.out.ext eC)
      clear hwC bC eC INV7 E7 hwB
      go_wp2
      go_loopw [17, 121] (fun v i wr => ∃ (k : Nat) (ss : List SetR), k ≤ ro.length ∧ i = .int .i64 (k : Int) ∧ PInvW wr w.heap.size v ss ⟨a4, ro.length, c4, ro⟩ ⟨a5, LL.length, c5, LL⟩ (.slice a6 HH.length c6) HH ∧ ss.map SetR.roles = [] :: (ro.take k).map (fun r => [r]) ∧ Ext w wr) (fun _ i _ => ro.length - (intOf i).toNat)
      case atStart => exact ⟨0, _, by omega, rfl, PC.out, rfl, EC.out⟩
      case round =>
        obtain ⟨k, ss, hk, rfl, hinv, hss, e1⟩ := hrel
        have E1 := hid e1
        have INV := hid hinv
        have HSS := hid hss
        clear e1 hinv hss PC EC
        by_cases hlt : k < ro.length
        · obtain ⟨x, hxk⟩ : ∃ x, ro[k]? = some x := ⟨ro[k]'hlt, by simp⟩
          obtain ⟨A2, hA2, hcs⟩ := cells_one (INV.out.o4.ok (by show ro.length ≤ _; omega)).cell (show (ro.map sv)[k]? = some (sv x) by rw [List.getElem?_map, hxk]; rfl)
          rw [Nat.mul_one] at hcs
          have hA3 : a4 = some A2 := hA2
          subst hA3
          have HXK := hid hxk
          have hsl : ss.length + 1 ≤ 140737488355328 := by have := congrArg List.length HSS.out; simp at this; omega
          have hsb : (ss.length + 1) * 24 ≤ 140737488355328 := by have := congrArg List.length HSS.out; simp at this; omega
          have hwr : w.heap.size ≤ wr.heap.size := E1.out.size
          have hwr2 : w.heap.size ≤ wr.heap.size + 1 + 1 := by omega
          clear hxk hA2
          go_wp2_with (refine wpl_appendA (m := 1) (c := 1) (news := [.slice (some ⟨wr.heap.size, 0, none⟩) 1 1]) HT.out rfl _ _ rfl w.heap.size rfl rfl (INV.out.out.ext (((Ext.refl wr).alloc _).alloc _)).row rfl (by decide) (fun h => by cases h) (Cells.of_blk0 (blk_two _ _ _ 36)) (by simp [Value.oneCell']) hsl hsb (by rw [size_allocW, size_allocW]; exact hwr2) ?_)
          intro v' w' ho' hg' _
          have INV' := hid (INV.out.made (l := [x]) rfl (fun y hy => by rw [List.mem_singleton] at hy; subst hy; exact HSM4'.out _ (List.mem_of_getElem? HXK.out)) (by show (1 : Nat) ≤ _; decide) ho' hg')
          have E' := hid ((INV.out.ext (((Ext.refl wr).alloc _).alloc _)).grow ((E1.out.alloc _).alloc _) (Nat.le_refl _) hg')
          have HSS' : Hid ((ss ++ [(⟨some ⟨wr.heap.size, 0, none⟩, 1, 1, [x]⟩ : SetR)]).map SetR.roles = [] :: (ro.take (k + 1)).map (fun r => [r])) := hid (by
            rw [List.map_append, HSS.out, List.take_add_one, HXK.out]
            simp)
          clear ho' hg' hcs HXK hsl hsb hwr hwr2 INV HSS E1
          go_wp2
          go_roundw
          case rel => exact ⟨k + 1, _, by omega, by go_num, INV'.out, HSS'.out, E'.out⟩
          case measure => simp [intOf]; omega
        · obtain rfl : k = ro.length := by omega
          have HS0 : Hid (ss.map SetR.roles = ([] :: ro.map (fun r => [r]))) := hid (by rw [HSS.out, List.take_length])
          obtain ⟨S0, hS0⟩ : ∃ S0, ([] :: ro.map (fun r => [r])) ++ pairsW ro = S0 := ⟨_, rfl⟩
          have HSI : Hid (ss.map SetR.roles ++ pairsW (ro.drop 0) = S0) := hid (by rw [HS0.out, List.drop_zero, hS0])
          have hlenS : S0.length ≤ 1500000 := by
            have := setsW_le ro hn4
            unfold setsW at this
            rw [hS0, List.length_append] at this
            omega
          have HS := hid hS0
          clear HS0 HSS hS0
          go_wp2
          go_loopw [17, 133] (fun v i wr => ∃ (k : Nat) (ss : List SetR), k ≤ ro.length ∧ i = .int .i64 (k : Int) ∧ PInvW wr w.heap.size v ss ⟨a4, ro.length, c4, ro⟩ ⟨a5, LL.length, c5, LL⟩ (.slice a6 HH.length c6) HH ∧ ss.map SetR.roles ++ pairsW (ro.drop k) = S0 ∧ Ext w wr) (fun _ i _ => ro.length - (intOf i).toNat)
          case atStart => exact ⟨0, _, by omega, rfl, INV.out, HSI.out, E1.out⟩
          case round =>
            obtain ⟨k, ss, hk, rfl, hinv, hss, e1⟩ := hrel
            have E1 := hid e1
            have INV := hid hinv
            have HSS := hid hss
            clear e1 hinv hss HSI
            by_cases hlt : k < ro.length
            · obtain ⟨x, hxk⟩ : ∃ x, ro[k]? = some x := ⟨ro[k]'hlt, by simp⟩
              have hA4 : ∃ A2, a4 = some A2 := by
                obtain ⟨A2, hA2, _⟩ := cells_one (INV.out.o4.ok (by show ro.length ≤ _; omega)).cell (show (ro.map sv)[k]? = some (sv x) by rw [List.getElem?_map, hxk]; rfl)
                exact ⟨A2, hA2⟩
              obtain ⟨A2, rfl⟩ := hA4
              have HXK := hid hxk
              have hwk : IntKind.i64.wrap ((k : Int) + 1) = ((k + 1 : Nat) : Int) := by rw [IntWalk.i64_in _ (by omega)]; omega
              have HXZ := hid (HSM4'.out x (List.mem_of_getElem? hxk))
              obtain ⟨R1, hR1⟩ : ∃ R1, pairsW (ro.drop (k + 1)) = R1 := ⟨_, rfl⟩
              have HR1 := hid hR1
              have HSI : Hid (ss.map SetR.roles ++ ((ro.drop (k + 1)).map (fun t => [x, t]) ++ R1) = S0) := hid (by
                have := HSS.out
                rw [pairsW_at hxk, hR1] at this
                exact this)
              clear hxk hR1
              go_wp2
              go_loopw [17, 21] (fun v i wr => ∃ (j : Nat) (ss : List SetR), k + 1 ≤ j ∧ j ≤ ro.length ∧ i = .int .i64 (j : Int) ∧ PInvW wr w.heap.size v ss ⟨some A2, ro.length, c4, ro⟩ ⟨a5, LL.length, c5, LL⟩ (.slice a6 HH.length c6) HH ∧ ss.map SetR.roles ++ ((ro.drop j).map (fun t => [x, t]) ++ R1) = S0 ∧ Ext w wr) (fun _ i _ => ro.length - (intOf i).toNat)
              case atStart => exact ⟨k + 1, _, by omega, by omega, by first | rfl | (simp; done), INV.out, HSI.out, E1.out⟩
              case round =>
                obtain ⟨j, ss, hkj, hj, rfl, hinv, hss, e1⟩ := hrel
                have E1 := hid e1
                have INV := hid hinv
                have HSS := hid hss
                clear e1 hinv hss HSI
                by_cases hjt : j < ro.length
                · obtain ⟨y, hyj⟩ : ∃ y, ro[j]? = some y := ⟨ro[j]'hjt, by simp⟩
                  have HYJ := hid hyj
                  have hsl : ss.length + 1 ≤ 140737488355328 := by
                    have := congrArg List.length HSS.out
                    rw [List.length_append, List.length_map] at this
                    omega
                  have hsb : (ss.length + 1) * 24 ≤ 140737488355328 := by
                    have := congrArg List.length HSS.out
                    rw [List.length_append, List.length_map] at this
                    omega
                  have hwr : w.heap.size ≤ wr.heap.size := E1.out.size
                  have hwr2 : w.heap.size ≤ wr.heap.size + 1 + 1 := by omega
                  clear hyj
                  go_upto_region 48 with (fail)
                  obtain ⟨C, hC⟩ : ∃ C : World → Prop, C = fun w' => Ext w w' ∧ SetR.Own w' ⟨some A2, ro.length, c4, ro⟩ := ⟨_, rfl⟩
                  have hC0 : ∀ w', C w' ↔ (Ext w w' ∧ SetR.Own w' ⟨some A2, ro.length, c4, ro⟩) := fun w' => by rw [hC]
                  clear hC
                  have HCC := hid hC0
                  clear hC0
                  have hCx : ∀ w w', C w → Ext w w' → C w' := fun w w' h1 h2 => (HCC.out w').2 ⟨((HCC.out w).1 h1).1.ext h2, ((HCC.out w).1 h1).2.ext h2⟩
                  have hCA : C wr := (HCC.out _).2 ⟨E1.out, INV.out.o4⟩
                  have hcx : ∀ w1, C w1 → w1.cell? (A2.add (k * 1)) = some (sv x) := fun w1 h1 => by
                    obtain ⟨A3, hA3, hc3⟩ := cells_one (((HCC.out w1).1 h1).2.ok (by show ro.length ≤ _; omega)).cell (show (ro.map sv)[k]? = some (sv x) by rw [List.getElem?_map, HXK.out]; rfl)
                    injection hA3 with hA3
                    rw [hA3]; exact hc3
                  have hcy : ∀ w1, C w1 → w1.cell? (A2.add (j * 1)) = some (sv y) := fun w1 h1 => by
                    obtain ⟨A3, hA3, hc3⟩ := cells_one (((HCC.out w1).1 h1).2.ok (by show ro.length ≤ _; omega)).cell (show (ro.map sv)[j]? = some (sv y) by rw [List.getElem?_map, HYJ.out]; rfl)
                    injection hA3 with hA3
                    rw [hA3]; exact hc3
                  refine wp_region_held_drew (S := C) (by kernel_rfl) (hCx _ _ hCA (Ext.refl _).drew) (fun hS0 => ?_)
                  refine held_take 0 (v := ?tv66) rfl (by kernel_rfl) (by kernel_rfl) (by kernel_rfl) (fun _ _ _ h => h) (.inl ⟨rfl, ?ty66⟩) hS0 ?tr66
                  case ty66 => (intro _ _; go_simp; try with_reducible rfl)
                  case tr66 =>
                  simp only [Act.put, List.setIfInBounds_toArray, List.set_cons_succ, List.set_cons_zero]
                  refine held_take 1 (v := ?tv67) rfl (by kernel_rfl) (by kernel_rfl) (by kernel_rfl) (fun _ _ _ h => h) (.inl ⟨rfl, ?ty67⟩) hS0 ?tr67
                  case ty67 => (intro _ _; go_simp; try with_reducible rfl)
                  case tr67 =>
                  simp only [Act.put, List.setIfInBounds_toArray, List.set_cons_succ, List.set_cons_zero]
                  refine held_take 2 (v := ?tv68) rfl (by kernel_rfl) (by kernel_rfl) (by kernel_rfl) (fun _ _ _ h => h) (.inl ⟨rfl, ?ty68⟩) hS0 ?tr68
                  case ty68 => (intro _ _; go_simp; try with_reducible rfl)
                  case tr68 =>
                  simp only [Act.put, List.setIfInBounds_toArray, List.set_cons_succ, List.set_cons_zero]
                  refine held_take 3 (v := _) rfl (by kernel_rfl) (by kernel_rfl) (by kernel_rfl) (fun _ _ _ h => h) (yieldsI_run rfl (fun w1 _ => exec_index (i := k) rfl rfl rfl Tryz.underlying36 size_str hlt w1)) hS0 ?_
                  simp only [Act.put, List.setIfInBounds_toArray, List.set_cons_succ, List.set_cons_zero]
                  refine held_take 4 (v := _) rfl (by kernel_rfl) (by kernel_rfl) (by kernel_rfl) (fun _ _ _ h => h) (yieldsI_run rfl (fun w1 h => exec_load_oneU rfl rfl (hcx w1 h) one_str)) hS0 ?_
                  simp only [Act.put, List.setIfInBounds_toArray, List.set_cons_succ, List.set_cons_zero]
                  refine held_take 5 (v := ?tv69) rfl (by kernel_rfl) (by kernel_rfl) (by kernel_rfl) (fun _ _ _ h => h) (.inl ⟨rfl, ?ty69⟩) hS0 ?tr69
                  case ty69 => (intro _ _; go_simp; try with_reducible rfl)
                  case tr69 =>
                  simp only [Act.put, List.setIfInBounds_toArray, List.set_cons_succ, List.set_cons_zero]
                  refine held_take 6 (v := ?tv70) rfl (by kernel_rfl) (by kernel_rfl) (by kernel_rfl) (fun _ _ _ h => h) (.inl ⟨rfl, ?ty70⟩) hS0 ?tr70
                  case ty70 => (intro _ _; go_simp; try with_reducible rfl)
                  case tr70 =>
                  simp only [Act.put, List.setIfInBounds_toArray, List.set_cons_succ, List.set_cons_zero]
                  refine held_take 7 (v := _) rfl (by kernel_rfl) (by kernel_rfl) (by kernel_rfl) (fun _ _ _ h => h) (yieldsI_run rfl (fun w1 _ => exec_index (i := j) rfl rfl rfl Tryz.underlying36 size_str hjt w1)) hS0 ?_
                  simp only [Act.put, List.setIfInBounds_toArray, List.set_cons_succ, List.set_cons_zero]
                  refine held_take 8 (v := _) rfl (by kernel_rfl) (by kernel_rfl) (by kernel_rfl) (fun _ _ _ h => h) (yieldsI_run rfl (fun w1 h => exec_load_oneU rfl rfl (hcy w1 h) one_str)) hS0 ?_
                  simp only [Act.put, List.setIfInBounds_toArray, List.set_cons_succ, List.set_cons_zero]
                  clear hcx hcy
                  have INVd := hid (INV.out.ext (Ext.refl wr).drew)
                  have Ed := hid (E1.out.ext (Ext.refl wr).drew)
                  generalize wr.drew = wd at *
                  have hwd := Ed.out.size
                  refine held_one (i := 9) (by kernel_rfl) rfl ?_
                  intro Q' hQ
                  go_wp2_with fail
                  refine hQ _ _ (hCx _ _ hS0 ((Ext.refl wd).alloc _)) ?_
                  clear hQ Q'
                  try dsimp only
                  try simp only [Act.put, List.setIfInBounds_toArray, List.set_cons_succ, List.set_cons_zero]
                  have hS1 := hCx _ _ hS0 ((Ext.refl wd).alloc (.cells #[sv x, sv y] 9))
                  refine held_one (i := 10) (by kernel_rfl) rfl ?_
                  intro Q' hQ
                  go_wp2_with fail
                  refine hQ _ _ (hCx _ _ hS1 ((Ext.refl _).alloc _)) ?_
                  clear hQ Q'
                  try dsimp only
                  try simp only [Act.put, List.setIfInBounds_toArray, List.set_cons_succ, List.set_cons_zero]
                  refine held_one (i := 11) (by kernel_rfl) rfl ?_
                  intro Q' hQ
                  go_wp2_with (refine wpl_appendA (m := 1) (c := 1) (news := [.slice (some ⟨wd.heap.size, 0, none⟩) 2 2]) HT.out rfl _ _ rfl w.heap.size rfl rfl (INVd.out.out.ext (((Ext.refl wd).alloc _).alloc _)).row rfl (by decide) (fun h => by cases h) (Cells.of_blk0 (blk_two _ _ _ 36)) (by simp [Value.oneCell']) hsl hsb (by rw [size_allocW, size_allocW]; omega) ?_)
                  intro v' w' ho' hg' _
                  have INV' := hid (INVd.out.made (l := [x, y]) rfl (fun z hz => by
                    simp only [List.mem_cons, List.not_mem_nil, or_false] at hz
                    rcases hz with rfl | rfl
                    · exact HXZ.out
                    · exact HSM4'.out _ (List.mem_of_getElem? HYJ.out)) (by show (2 : Nat) ≤ _; decide) ho' hg')
                  have E' := hid ((INVd.out.ext (((Ext.refl wd).alloc _).alloc _)).grow ((Ed.out.alloc _).alloc _) (Nat.le_refl _) hg')
                  have HSS' : Hid ((ss ++ [(⟨some ⟨wd.heap.size, 0, none⟩, 2, 2, [x, y]⟩ : SetR)]).map SetR.roles ++ ((ro.drop (j + 1)).map (fun t => [x, t]) ++ R1) = S0) := hid (by
                    have := HSS.out
                    rw [drop_cons HYJ.out] at this
                    rw [← this]
                    simp)
                  have hS3 : C w' := (HCC.out _).2 ⟨E'.out, INV'.out.o4⟩
                  clear ho' hg' hS0 hS1 INV INVd E1 Ed HSS HYJ
                  go_wp2_with fail
                  refine hQ _ _ hS3 ?_
                  clear hQ Q'
                  have hS0 := hS3
                  clear hS3
                  try dsimp only
                  try simp only [Act.put, List.setIfInBounds_toArray, List.set_cons_succ, List.set_cons_zero]
                  refine held_take 12 (v := ?tv71) rfl (by kernel_rfl) (by kernel_rfl) (by kernel_rfl) (fun _ _ _ h => h) (.inl ⟨rfl, ?ty71⟩) hS0 ?tr71
                  case ty71 => (intro _ _; go_simp; try with_reducible rfl)
                  case tr71 =>
                  simp only [Act.put, List.setIfInBounds_toArray, List.set_cons_succ, List.set_cons_zero]
                  refine wpAnyH_done (by kernel_rfl) ?_ _
                  clear hS0 hCA hCx HCC
                  have hwj : IntKind.i64.wrap ((j : Int) + 1) = ((j + 1 : Nat) : Int) := by rw [IntWalk.i64_in _ (by omega)]; omega
                  go_wp2
                  go_roundw
                  case rel => exact ⟨j + 1, _, by omega, by omega, by go_num, INV'.out, HSS'.out, E'.out⟩
                  case measure => simp [intOf]; omega
                · obtain rfl : j = ro.length := by omega
                  have HSS' : Hid (ss.map SetR.roles ++ pairsW (ro.drop (k + 1)) = S0) := hid (by
                    have := HSS.out
                    rw [List.drop_of_length_le (Nat.le_refl _)] at this
                    rw [HR1.out]
                    simpa using this)
                  clear HSS HR1
                  go_wp2
                  go_roundw
                  case rel => exact ⟨k + 1, _, by omega, by go_num, INV.out, HSS'.out, E1.out⟩
                  case measure => simp [intOf]; omega
            · obtain rfl : k = ro.length := by omega
              have HS1 : Hid (ss.map SetR.roles = S0) := hid (by have := HSS.out; rw [pairsW_end (Nat.le_refl _)] at this; simpa using this)
              have HSW2 : Hid (SS = S0 ++ (if 3 ≤ ro.length then [ro] else [])) := hid (by rw [← HSW.out]; unfold setsW; rw [HS.out])
              clear HSS HS
              go_upto_if 159 with (fail)
              go_cut [17] (fun v wx => ∃ ss, PInvW wx w.heap.size v ss ⟨a4, ro.length, c4, ro⟩ ⟨a5, LL.length, c5, LL⟩ (.slice a6 HH.length c6) HH ∧ ss.map SetR.roles = SS ∧ Ext w wx)
              case first =>
                by_cases h3 : 3 ≤ ro.length
                · have d3 : decide ((2 : Int) < (ro.length : Int)) = true := decide_eq_true (by omega)
                  have hsl : ss.length + 1 ≤ 140737488355328 := by
                    have := congrArg List.length HS1.out
                    rw [List.length_map] at this
                    omega
                  have hsb : (ss.length + 1) * 24 ≤ 140737488355328 := by
                    have := congrArg List.length HS1.out
                    rw [List.length_map] at this
                    omega
                  have hwr : w.heap.size ≤ wr.heap.size := E1.out.size
                  have hwr2 : w.heap.size ≤ wr.heap.size + 1 := by omega
                  rw [d3]
                  go_wp2_with (refine wpl_appendA (m := 1) (c := 1) (news := [.slice a4 ro.length c4]) HT.out rfl _ _ rfl w.heap.size rfl rfl (INV.out.out.ext ((Ext.refl wr).alloc _)).row rfl (by decide) (fun h => by cases h) (Cells.of_blk0 (Blk.mk_alloc (T := 36) rfl rfl)) (by simp [Value.oneCell']) hsl hsb (by rw [size_allocW]; exact hwr2) ?_)
                  intro v' w' ho' hg' _
                  have INV' := hid ((INV.out.ext ((Ext.refl wr).alloc _)).push (s := ⟨a4, ro.length, c4, ro⟩) (INV.out.o4.ext ((Ext.refl wr).alloc _)) ho' hg')
                  have E' := hid ((INV.out.ext ((Ext.refl wr).alloc _)).grow (E1.out.alloc _) (Nat.le_refl _) hg')
                  have HSF : Hid ((ss ++ [(⟨a4, ro.length, c4, ro⟩ : SetR)]).map SetR.roles = SS) := hid (by rw [HSW2.out, if_pos h3, List.map_append, HS1.out]; rfl)
                  clear ho' hg' hsl hsb hwr hwr2 INV E1
                  go_wp2
                  go_meet
                  exact ⟨_, INV'.out, HSF.out, E'.out⟩
                · have d3 : decide ((2 : Int) < (ro.length : Int)) = false := decide_eq_false (by omega)
                  have HSF : Hid (ss.map SetR.roles = SS) := hid (by rw [HSW2.out, if_neg h3, HS1.out]; simp)
                  rw [d3]
                  go_wp2
                  go_meet
                  exact ⟨_, INV.out, HSF.out, E1.out⟩
              case rest =>
              obtain ⟨ss2, hinv, hss2, e1⟩ := hcut
              have INVW := hid (hinv.winv w.heap.size)
              have HSS := hid hss2
              have EC := hid e1
              clear hinv hss2 e1 INV E1 HS1 HSW2
              obtain ⟨B2, hset⟩ := INVW.out.sets
              obtain ⟨sa, sc, hu17, hsc, hx1, hy1⟩ := own_cellsA hset.row
              subst hu17
              clear hx1 hy1 hset
              have HSMALL : Hid (∀ s ∈ ss2, s.roles.length ≤ 1700) := hid (fun s hs => sets_small hn4 _ (by rw [HSW.out, ← HSS.out]; exact List.mem_map.2 ⟨s, hs, rfl⟩))
              obtain ⟨ss, hsseq⟩ : ∃ x, ss2 = x := ⟨_, rfl⟩
              subst hsseq
              obtain ⟨nS, hnS⟩ : ∃ n, ss2.length = n := ⟨_, rfl⟩
              obtain ⟨nL, hnL⟩ : ∃ n, LL.length = n := ⟨_, rfl⟩
              obtain ⟨nH, hnH⟩ : ∃ n, HH.length = n := ⟨_, rfl⟩
              have hSl : SS.length = nS := by rw [← HSS.out, List.length_map]; exact hnS
              rw [hSl, hnL, hnH] at hSzz
              rw [hSl] at hS15
              rw [hnL] at hn5 hL0 hc5
              rw [hnH] at hn6 hH0 hc6
              rw [hnS] at hsc
              rw [hnS, hnL, hnH] at INVW
              rw [hnS, hnL, hnH]
              obtain ⟨p1, hp1⟩ : ∃ p, nS * 12 = p := ⟨_, rfl⟩
              obtain ⟨p2, hp2⟩ : ∃ p, p1 * nL = p := ⟨_, rfl⟩
              have hp3 : p2 * nH = Sz := by rw [← hSzz, ← hp2, ← hp1]
              have hb1 : p1 ≤ 18000000 := by omega
              have hb2 : p2 ≤ 18000000 * 3300 := by rw [← hp2]; exact Nat.mul_le_mul hb1 hn5
              have hb3 : Sz ≤ 18000000 * 3300 * 300 := by rw [← hp3]; exact Nat.mul_le_mul hb2 hn6
              have hw1 : IntKind.i64.wrap ((nS : Int) * 12) = (p1 : Int) := by
                rw [show ((nS : Int) * 12) = ((p1 : Nat) : Int) by rw [← hp1]; push_cast; rfl]
                exact IntWalk.i64_in _ (by omega)
              have hw2 : IntKind.i64.wrap ((p1 : Int) * (nL : Int)) = (p2 : Int) := by
                rw [show ((p1 : Int) * (nL : Int)) = ((p2 : Nat) : Int) by rw [← hp2]; push_cast; rfl]
                exact IntWalk.i64_in _ (by omega)
              have hw3 : IntKind.i64.wrap ((p2 : Int) * (nH : Int)) = (Sz : Int) := by
                rw [show ((p2 : Int) * (nH : Int)) = ((Sz : Nat) : Int) by rw [← hp3]; push_cast; rfl]
                exact IntWalk.i64_in _ (by omega)
              clear hp1 hp2 hp3 hb2 hn4 hnS HSM4' HSW
              by_cases hgt : 100000 < Sz
              · have dg : decide ((100000 : Int) < (Sz : Int)) = true := decide_eq_true (by omega)
                go_wp2
                go_ret2
                exact .inl ⟨by rw [HSZ.out]; omega, rfl, EC.out⟩
              · have dg : decide ((100000 : Int) < (Sz : Int)) = false := decide_eq_false (by omega)
                have hle : Sz ≤ 100000 := by omega
                have HTA := hid elem_ask
                obtain ⟨T, hT⟩ : ∃ T, asksA ss2 LL HH = T := ⟨_, rfl⟩
                have hTl : T.length = Sz := by rw [← hT, asksA_len, hnL, hnH, show ss2.length = nS by rw [← hSl, ← HSS.out, List.length_map]]; exact hSzz
                have hnS2 : ss2.length = nS := by rw [← hSl, ← HSS.out, List.length_map]
                have HTT := hid hT
                clear hT
                go_wp2
                go_loopw [22, 176] (fun v i wr => ∃ (k : Nat) (xs : List AskR), k ≤ nS ∧ i = .int .i64 (k : Int) ∧ WInv wr w.heap.size v xs (.slice sa nS sc) ss2 ⟨a5, nL, c5, LL⟩ (.slice a6 nH c6) HH ∧ xs ++ asksA (ss2.drop k) LL HH = T ∧ Ext w wr) (fun _ i _ => nS - (intOf i).toNat)
                case atStart => exact ⟨0, [], by omega, rfl, INVW.out, by rw [List.drop_zero]; exact HTT.out, EC.out⟩
                case round =>
                  obtain ⟨k, xs, hk, rfl, hinv, hxs, e1⟩ := hrel
                  have INV := hid hinv
                  have HXS := hid hxs
                  have E1 := hid e1
                  clear hinv hxs e1 INVW EC
                  by_cases hlt : k < nS
                  · obtain ⟨s, hsk⟩ : ∃ s, ss2[k]? = some s := ⟨ss2[k]'(by omega), by simp⟩
                    obtain ⟨B2, hsets⟩ := INV.out.sets
                    obtain ⟨a9, c9, hv9, hnc9, h09, hcs9⟩ := own_cellsA hsets.row
                    injection hv9 with hv9a hv9b hv9c
                    subst hv9a
                    obtain ⟨A2, hA2, hcs⟩ := cells_one hcs9 (show (ss2.map SetR.v)[k]? = some s.v by rw [List.getElem?_map, hsk]; rfl)
                    rw [Nat.mul_one] at hcs
                    obtain ⟨R1, hR1⟩ : ∃ x, asksA (ss2.drop (k + 1)) LL HH = x := ⟨_, rfl⟩
                    have HR1 := hid hR1
                    have HX1 : Hid (xs ++ (actsA s (actsW.drop 0) LL HH ++ R1) = T) := hid (by
                      have := HXS.out
                      rw [drop_cons hsk] at this
                      unfold asksA at this
                      rw [List.flatMap_cons] at this
                      rw [← this, ← hR1]
                      rfl)
                    subst hA2
                    clear hsets hv9b hv9c hnc9 h09 hcs9 hR1
                    go_wp2
                    go_loopw [22, 25] (fun v i wr => ∃ (j : Nat) (z : Int) (xs : List AskR), j ≤ 12 ∧ z = ((j + 1 : Nat) : Int) ∧ i = .int .i64 z ∧ WInv wr w.heap.size v xs (.slice (some A2) nS sc) ss2 ⟨a5, nL, c5, LL⟩ (.slice a6 nH c6) HH ∧ xs ++ (actsA s (actsW.drop j) LL HH ++ R1) = T ∧ Ext w wr) (fun _ i _ => 13 - (intOf i).toNat)
                    case atStart => exact ⟨0, 1, xs, by omega, rfl, rfl, INV.out, HX1.out, E1.out⟩
                    case round =>
                      obtain ⟨j, z, xs, hj, hzj, rfl, hinv, hxs, e1⟩ := hrel
                      have INV := hid hinv
                      have HXS := hid hxs
                      have E1 := hid e1
                      have HZJ := hid hzj
                      clear hinv hxs e1 HX1 hcs
                      by_cases hjt : j < 12
                      · have dj : decide (z ≤ 12) = true := decide_eq_true (by omega)
                        have hwz : IntKind.i64.wrap (z + 1) = z + 1 := by rw [hzj, show (((j + 1 : Nat) : Int) + 1) = ((j + 2 : Nat) : Int) by omega]; exact IntWalk.i64_in _ (by omega)
                        have hz0 : 0 ≤ z := by omega
                        have hz12 : z ≤ 12 := by omega
                        obtain ⟨R2, hR2⟩ : ∃ x, actsA s (actsW.drop (j + 1)) LL HH ++ R1 = x := ⟨_, rfl⟩
                        have HX2 : Hid (xs ++ (labsA s z (LL.drop 0) HH ++ R2) = T) := hid (by
                          have := HXS.out
                          rw [actsW_drop hjt, ← hzj] at this
                          unfold actsA at this
                          rw [List.flatMap_cons, List.append_assoc] at this
                          rw [← this, ← hR2, List.drop_zero]
                          rfl)
                        have HR2 := hid hR2
                        clear hR2 hzj
                        go_wp2
                        go_loopw [22, 186] (fun v i wr => ∃ (m : Nat) (xs : List AskR), m ≤ nL ∧ i = .int .i64 (m : Int) ∧ WInv wr w.heap.size v xs (.slice (some A2) nS sc) ss2 ⟨a5, nL, c5, LL⟩ (.slice a6 nH c6) HH ∧ xs ++ (labsA s z (LL.drop m) HH ++ R2) = T ∧ Ext w wr) (fun _ i _ => nL - (intOf i).toNat)
                        case atStart => exact ⟨0, xs, by omega, rfl, INV.out, HX2.out, E1.out⟩
                        case round =>
                          obtain ⟨m, xs, hm, rfl, hinv, hxs, e1⟩ := hrel
                          have INV := hid hinv
                          have HXS := hid hxs
                          have E1 := hid e1
                          clear hinv hxs e1 HX2
                          by_cases hmt : m < nL
                          · obtain ⟨l, hlm⟩ : ∃ l, LL[m]? = some l := ⟨LL[m]'(by omega), by simp⟩
                            obtain ⟨A3, hA3, hcl⟩ := cells_one (INV.out.labs.ok (by show nL ≤ _; omega)).cell (show (LL.map sv)[m]? = some (sv l) by rw [List.getElem?_map, hlm]; rfl)
                            rw [Nat.mul_one] at hcl
                            have hA4 : a5 = some A3 := hA3
                            obtain ⟨R3, hR3⟩ : ∃ x, labsA s z (LL.drop (m + 1)) HH ++ R2 = x := ⟨_, rfl⟩
                            have HX3 : Hid (xs ++ (hoursA s z l (HH.drop 0) ++ R3) = T) := hid (by
                              have := HXS.out
                              rw [drop_cons hlm] at this
                              unfold labsA at this
                              rw [List.flatMap_cons, List.append_assoc] at this
                              rw [← this, ← hR3, List.drop_zero]
                              rfl)
                            have HR3 := hid hR3
                            subst hA4
                            clear hR3 hlm hA3
                            go_wp2
                            go_loopw [22, 192] (fun v i wr => ∃ (q : Nat) (xs : List AskR), q ≤ nH ∧ i = .int .i64 (q : Int) ∧ WInv wr w.heap.size v xs (.slice (some A2) nS sc) ss2 ⟨some A3, nL, c5, LL⟩ (.slice a6 nH c6) HH ∧ xs ++ (hoursA s z l (HH.drop q) ++ R3) = T ∧ Ext w wr) (fun _ i _ => nH - (intOf i).toNat)
                            case atStart => exact ⟨0, xs, by omega, rfl, INV.out, HX3.out, E1.out⟩
                            case round =>
                              obtain ⟨q, xs, hq, rfl, hinv, hxs, e1⟩ := hrel
                              have INV := hid hinv
                              have HXS := hid hxs
                              have E1 := hid e1
                              clear hinv hxs e1 HX3 hcl
                              by_cases hqt : q < nH
                              · obtain ⟨h, hhq⟩ : ∃ h, HH[q]? = some h := ⟨HH[q]'(by omega), by simp⟩
                                obtain ⟨B2, hhours⟩ := INV.out.hours
                                obtain ⟨a9, c9, hv9, hnc9, h09, hcs9⟩ := own_cellsA hhours
                                injection hv9 with hv9a hv9b hv9c
                                obtain ⟨A5, hA5, hch⟩ := cells_one hcs9 (show (HH.map iv)[q]? = some (.int .i64 h) by rw [List.getElem?_map, hhq]; rfl)
                                rw [Nat.mul_one] at hch
                                rw [hA5] at hv9a
                                have h24 := HH24.out h (List.mem_of_getElem? hhq)
                                have hwh : IntKind.i64.wrap (3600 * h) = 3600 * h := by
                                  obtain ⟨hN, rfl⟩ := Int.eq_ofNat_of_zero_le h24.1
                                  have : (3600 : Int) * (hN : Int) = ((3600 * hN : Nat) : Int) := by push_cast; rfl
                                  rw [this]
                                  exact IntWalk.i64_in _ (by omega)
                                have HXX : Hid ((xs ++ [askW s z l h]) ++ (hoursA s z l (HH.drop (q + 1)) ++ R3) = T) := hid (by
                                  have := HXS.out
                                  rw [drop_cons hhq] at this
                                  unfold hoursA at this
                                  rw [List.map_cons] at this
                                  rw [← this]
                                  unfold hoursA
                                  simp)
                                have hxl : xs.length + 1 ≤ 140737488355328 := by have := congrArg List.length HXX.out; rw [List.length_append, List.length_append, List.length_singleton] at this; omega
                                have hxb : (xs.length + 1) * 120 ≤ 140737488355328 := by have := congrArg List.length HXX.out; rw [List.length_append, List.length_append, List.length_singleton] at this; omega
                                have hwr := E1.out.size
                                have hwr2 : w.heap.size ≤ wr.heap.size + 1 := by omega
                                have HAL := hid (askW_len s z l h)
                                have HA1 := hid (askW_one (askW s z l h))
                                obtain ⟨X, hX⟩ : ∃ X, askW s z l h = X := ⟨_, rfl⟩
                                have HX := hid hX
                                rw [hX] at HXX HAL HA1
                                subst hv9a
                                clear hhours hv9b hv9c hnc9 h09 hcs9 hhq hX
                                go_wp2_with (first | (refine wpl_run rfl (exec_ask (s := s) (act := z) (h := h) (l := l) rfl rfl rfl rfl rfl _) ?_; rw [HX.out]) | (refine wpl_buildOne HTA.out (by decide) rfl rfl rfl HAL.out ?_) | (refine wpl_appendA (m := 1) (c := 1) (news := X.v) HTA.out rfl _ _ rfl w.heap.size rfl rfl (INV.out.row.alloc _) (by rw [HAL.out]) (by decide) (fun h => by cases h) (Cells.of_blk0 (Blk.mk_alloc (T := 40) rfl rfl)) HA1.out hxl hxb (by rw [size_allocW]; exact hwr2) ?_))
                                intro v' w' ho' hg' _
                                have INV' := hid (INV.out.push ho' hg')
                                have E' := hid (INV.out.pushExt E1.out (Nat.le_refl _) hg')
                                clear ho' hg' INV E1 HXS HAL HA1 HX hwh hxl hxb hwr hwr2 hch
                                go_wp2
                                go_roundw
                                case rel => exact ⟨q + 1, _, by omega, by go_num, INV'.out, HXX.out, E'.out⟩
                                case measure => simp [intOf]; omega
                              · obtain rfl : q = nH := by omega
                                have HXX : Hid (xs ++ (labsA s z (LL.drop (m + 1)) HH ++ R2) = T) := hid (by
                                  have := HXS.out
                                  rw [List.drop_of_length_le (by omega)] at this
                                  unfold hoursA at this
                                  rw [HR3.out]
                                  simpa using this)
                                clear HXS HR3
                                go_wp2
                                go_roundw
                                case rel => exact ⟨m + 1, _, by omega, by go_num, INV.out, HXX.out, E1.out⟩
                                case measure => simp [intOf]; omega
                          · obtain rfl : m = nL := by omega
                            have HXX : Hid (xs ++ (actsA s (actsW.drop (j + 1)) LL HH ++ R1) = T) := hid (by
                              have := HXS.out
                              rw [List.drop_of_length_le (by omega)] at this
                              unfold labsA at this
                              rw [HR2.out]
                              simpa using this)
                            clear HXS HR2
                            go_wp2
                            go_roundw
                            case rel => exact ⟨j + 1, z + 1, _, by omega, by have := HZJ.out; omega, by first | rfl | (rw [hwz]; done) | simp [hwz], INV.out, HXX.out, E1.out⟩
                            case measure => simp [intOf]; omega
                      · obtain rfl : j = 12 := by omega
                        have dj : decide (z ≤ 12) = false := decide_eq_false (by omega)
                        have HXX : Hid (xs ++ asksA (ss2.drop (k + 1)) LL HH = T) := hid (by
                          have := HXS.out
                          rw [List.drop_of_length_le (by decide)] at this
                          rw [HR1.out]
                          unfold actsA at this
                          simpa using this)
                        clear HXS HR1
                        go_wp2
                        go_roundw
                        case rel => exact ⟨k + 1, _, by omega, by go_num, INV.out, HXX.out, E1.out⟩
                        case measure => simp [intOf]; omega
                  · obtain rfl : k = nS := by omega
                    have HXX : Hid (xs = asksA ss2 LL HH) := hid (by
                      have := HXS.out
                      rw [List.drop_of_length_le (by omega)] at this
                      unfold asksA at this
                      rw [HTT.out]
                      simpa [asksA] using this)
                    have HAS : Hid (AsksI wr w.heap.size u22 (asksA ss2 LL HH)) := hid (world_own2 (by rw [← HXX.out]; exact INV.out) HSMALL.out HSM.out)
                    have HWPP : Hid ((asksA ss2 LL HH).map AskR.p = worldP rs) := hid (by rw [HWP.out]; exact asksA_p HSS.out LL HH)
                    clear HXS HTT INV HXX
                    go_wp2
                    go_ret2
                    exact .inr ⟨by rw [HSZ.out]; exact hle, _, _, rfl, HAS.out, HWPP.out, E1.out⟩
end

section
open Go Go.RowKit

noncomputable def strR (E : Int) (rs qs : List RuleR) : Bool := if E = 0 then (worldP (rs ++ qs)).all (strP rs qs) else false
theorem take_true {α : Type} {l : List α} {p : α → Bool} {k : Nat} {x : α} (hx : l[k]? = some x) (hp : p x = true) (hb : ∀ y ∈ l.take k, p y = true) : ∀ y ∈ l.take (k + 1), p y = true := by
  intro y hy
  rw [List.take_add_one, hx] at hy
  rcases List.mem_append.1 hy with hy | hy
  · exact hb y hy
  · simp at hy; subst hy; exact hp
theorem all_false {α : Type} {l : List α} {p : α → Bool} {k : Nat} {x : α} (hx : l[k]? = some x) (hp : p x = false) : l.all p = false := by
  rw [List.all_eq_false]
  exact ⟨x, List.mem_of_getElem? hx, by rw [hp]; simp⟩

set_option maxRecDepth 100000 in
set_option maxHeartbeats 4000000 in
theorem stricter_c (pa : Option Addr) (pn pc : Nat) (rs : List RuleR) (qa : Option Addr) (qn qc : Nat) (qs : List RuleR) (w : World) (hp : PolOk w pa pn pc rs) (hq : PolOk w qa qn qc qs) :
    Calls Tryz.prog 13 #[.agg #[.slice pa pn pc], .agg #[.slice qa qn qc]] w fun e w' => e = .returned (.tuple #[.bool (strR (comE rs pn qs qn) rs qs), .int .i64 (comE rs pn qs qn)]) ∧ Ext w w' := by
  have HP := hid hp
  have HQ := hid hq
  have HC := hid (fun W (h : Ext w W) => common_c pa pn pc rs qa qn qc qs W (hp.ext h) (hq.ext h))
  have HCZ := hid (comE_zero (rs := rs) (pn := pn) (qs := qs) (qn := qn))
  have HCW := hid (comE_errW (rs := rs) (pn := pn) (qs := qs) (qn := qn))
  clear hp hq
  obtain ⟨E, hE⟩ : ∃ E, comE rs pn qs qn = E := ⟨_, rfl⟩
  rw [hE] at HC HCZ HCW
  rw [hE]
  clear hE
  obtain ⟨DB, hDB⟩ : ∃ x, strR E rs qs = x := ⟨_, rfl⟩
  have HD := hid hDB
  rw [hDB]
  clear hDB
  have HAG := hid agg_ask
  go_enter Tryz.func13, Tryz.ntmps13
  go_upto_region 1 with (fail)
  generalize hwA : World.alloc (World.alloc w _) _ = wA
  have bA : Blk wA w.heap.size [.slice pa pn pc] 24 := by rw [← hwA]; exact (Blk.mk_alloc rfl rfl).alloc _
  have dA : Blk wA (w.heap.size + 1) [.slice qa qn qc] 24 := by rw [← hwA]; exact Blk.mk_alloc (size_allocW _ _).symm rfl
  have eA : Ext w wA := by rw [← hwA]; exact ((Ext.refl w).alloc _).alloc _
  have BA := hid bA
  have DA := hid dA
  have EA := hid eA
  clear hwA bA dA eA
  go_wp2_with (first | (refine wpl_loadw rfl 24 (.tmp 2) rfl rfl BA.out agg_polW rfl ?_) | (refine wpl_loadw rfl 24 (.tmp 3) rfl rfl DA.out agg_polW rfl ?_))
  refine (HC.out wA EA.out).mono ?_
  rintro e w1 ⟨v, xs, rfl, hnz, hz, e1⟩
  have E1 := hid (EA.out.ext e1)
  have B1 := hid (BA.out.ext e1)
  have D1 := hid (DA.out.ext e1)
  have HNZ := hid hnz
  have HZ := hid hz
  clear e1 hnz hz BA DA HC
  by_cases h0 : E = 0
  · subst h0
    obtain ⟨hA, hP⟩ := HZ.out (by trivial)
    obtain ⟨hz1, hz2⟩ := HCZ.out (by trivial)
    have HOKP := hid (worldP_ok (rs := rs ++ qs) (fun r hr => by
      rcases List.mem_append.1 hr with hr | hr
      · exact (polE_zero hz1).2 r hr
      · exact (polE_zero hz2).2 r hr))
    obtain ⟨a, c, rfl, hok⟩ := hA.slice
    have AOK := hid hok
    have AOW := hid hA.own
    have HPX := hid hP
    obtain ⟨n, hn⟩ : ∃ n, xs.length = n := ⟨_, rfl⟩
    rw [hn] at AOK
    rw [hn]
    have hn63 : n ≤ 100000 := by
      rw [← hn, ← List.length_map (f := AskR.p), hP, worldP_len]
      exact (errW_zero (HCW.out (by trivial))).2
    clear hA hP hz1 hz2 hok HNZ HZ HCZ HCW
    go_wp2
    go_loopw [23] (fun i wr => ∃ k : Nat, k ≤ n ∧ i = .int .i64 (k : Int) ∧ (∀ p ∈ (worldP (rs ++ qs)).take k, strP rs qs p = true) ∧ Ext w1 wr) (fun i _ => n - (intOf i).toNat)
    case atStart => exact ⟨0, by omega, rfl, (fun p hp => by simp at hp), Ext.refl _⟩
    case round =>
      obtain ⟨k, hk, rfl, hno, e2⟩ := hrel
      have E2 := hid e2
      have HNO := hid hno
      clear e2 hno
      by_cases hlt : k < n
      · obtain ⟨x, hxk⟩ : ∃ x, xs[k]? = some x := ⟨xs[k]'(by omega), by simp⟩
        have hpk : (worldP (rs ++ qs))[k]? = some x.p := by rw [← HPX.out, List.getElem?_map, hxk]; rfl
        obtain ⟨T, hT, hTb⟩ := HOKP.out _ (List.mem_of_getElem? hpk)
        obtain ⟨A, rfl, hca⟩ := (AOK.out.ext E2.out).at hxk
        have HCA := hid hca
        have HXO := hid ((AOW.out x (List.mem_of_getElem? hxk)).ext E2.out)
        have HXL := hid (AskR.len HXO.out.ok)
        have HPK := hid hpk
        have HT := hid (show x.time = (T : Int) from hT)
        have o1 := askW_one x
        clear hca hxk hpk hT
        go_wp2_with (first | (refine wpl_run rfl (exec_index (i := k) rfl rfl rfl Tryz.underlying26 size_ask hlt _) ?_) | (refine wpl_run rfl (exec_load_at rfl rfl HCA.out HAG.out HXL.out) ?_) | (refine wpl_storew rfl _ (.tmp 9) _ rfl rfl rfl (Blk.mk_alloc (vs := zeroAskV) rfl rfl) HAG.out rfl HXL.out o1 ?_))
        intro wB bB uB
        have eB : Ext wr wB := uB.ext ((Ext.refl wr).alloc _) (Nat.le_refl _)
        have BX := hid bB
        have EB := hid (E2.out.ext eB)
        have HXB := hid (HXO.out.ext eB)
        have hgr : w1.heap.size ≤ wr.heap.size := E2.out.size
        clear bB uB eB HCA E2 HXO
        generalize wr.heap.size = gr at *
        have EW := hid (E1.out.ext EB.out)
        have PB := hid (HP.out.ext EW.out)
        have QB := hid (HQ.out.ext EW.out)
        have BB := hid (B1.out.ext EB.out)
        have DB' := hid (D1.out.ext EB.out)
        have hD1 := hid (fun W (h : Ext wB W) => decide_c pa pn pc rs x T W (PB.out.ext h) ((HXB.out.ext h).ok) HT.out hTb)
        have hD2 := hid (fun W (h : Ext wB W) => decide_c qa qn qc qs x T W (QB.out.ext h) ((HXB.out.ext h).ok) HT.out hTb)
        obtain ⟨d1, hd1⟩ : ∃ d, decideD x rs = d := ⟨_, rfl⟩
        obtain ⟨d2, hd2⟩ : ∃ d, decideD x qs = d := ⟨_, rfl⟩
        have hdif : strP rs qs x.p = (!d1.al || (d2.al && !decide (d1.nd < d2.nd))) := by unfold strP; rw [← decP_of, ← decP_of, hd1, hd2]
        have HDIF := hid hdif
        rw [hd1] at hD1
        rw [hd2] at hD2
        have hlv := HXL.out
        clear hd1 hd2 hdif
        go_upto_region 7 with (fail)
        obtain ⟨C, hC⟩ : ∃ C : World → Prop, C = fun w' => Ext wB w' := ⟨_, rfl⟩
        have hC0 : ∀ w', C w' ↔ Ext wB w' := fun w' => by rw [hC]
        clear hC
        have HCC := hid hC0
        clear hC0
        have hCx : ∀ w w', C w → Ext w w' → C w' := fun w w' h1 h2 => (HCC.out w').2 (((HCC.out w).1 h1).ext h2)
        refine wp_region_al (C := C) 8 [(6, zeroDec.v, 52), (7, zeroDec.v, 52)] wB.heap.size (by kernel_rfl) (by kernel_rfl) (by kernel_rfl)
          ((HCC.out _).2 (Ext.refl wB).drew) (fun w o h => hCx _ _ h ((Ext.refl w).alloc o)) (fun w h => ((HCC.out w).1 h).size) ?_ ?_
        · intro x hx
          simp only [List.mem_cons, List.not_mem_nil, or_false] at hx
          rcases hx with rfl | rfl
          · exact ⟨_, rfl, rfl, fun _ _ => by rfl⟩
          · exact ⟨_, rfl, rfl, fun _ _ => by rfl⟩
        simp only [List.take_succ_cons, List.take_zero, List.drop_succ_cons, List.drop_zero]
        refine wpQE_do rfl rfl _ (yieldsE_loadw _ _ rfl rfl (fun w1 h => BB.out.ext ((HCC.out w1).1 h)) agg_polW rfl) ?_
        simp only [Act.put, List.setIfInBounds_toArray, List.set_cons_succ, List.set_cons_zero]
        refine wpQE_do rfl rfl _ (yieldsE_loadw _ _ rfl rfl (fun w1 h => BX.out.ext ((HCC.out w1).1 h)) HAG.out hlv) ?_
        simp only [Act.put, List.setIfInBounds_toArray, List.set_cons_succ, List.set_cons_zero]
        refine wpQE_do rfl rfl _ (yieldsE_call rfl Tryz.call36 (by simp [Act.eval]) (fun w h => hD1.out w ((HCC.out w).1 h)) hCx) ?_
        simp only [Act.put, List.setIfInBounds_toArray, List.set_cons_succ, List.set_cons_zero]
        refine wpQE_do rfl rfl _ (yieldsE_loadw _ _ rfl rfl (fun w1 h => DB'.out.ext ((HCC.out w1).1 h)) agg_polW rfl) ?_
        simp only [Act.put, List.setIfInBounds_toArray, List.set_cons_succ, List.set_cons_zero]
        refine wpQE_do rfl rfl _ (yieldsE_loadw _ _ rfl rfl (fun w1 h => BX.out.ext ((HCC.out w1).1 h)) HAG.out hlv) ?_
        simp only [Act.put, List.setIfInBounds_toArray, List.set_cons_succ, List.set_cons_zero]
        refine wpQE_do rfl rfl _ (yieldsE_call rfl Tryz.call36 (by simp [Act.eval]) (fun w h => hD2.out w ((HCC.out w).1 h)) hCx) ?_
        simp only [Act.put, List.setIfInBounds_toArray, List.set_cons_succ, List.set_cons_zero]
        refine wpQE_al rfl ?_
        refine wpQE_al rfl ?_
        refine wpQE_nil ?_
        intro gs w2 hw2 hbl hdis
        have hb6 := hbl _ (List.mem_cons_self)
        have hb7 := hbl _ (List.mem_cons_of_mem _ List.mem_cons_self)
        have hne := hdis _ (List.mem_cons_self) _ (List.mem_cons_of_mem _ List.mem_cons_self) (by simp)
        simp only at hb6 hb7 hne
        simp only [putAl, dstOf, ptrOf, Act.put, List.getElem?_toArray, List.getElem?_cons_succ, List.getElem?_cons_zero, Option.bind_some, List.setIfInBounds_toArray, List.set_cons_succ, List.set_cons_zero]
        generalize gs 6 = gk at *
        generalize gs 7 = gv at *
        have e2 := (HCC.out w2).1 hw2
        have hgw1 : wB.heap.size ≤ gk := hb6.2
        have hgw2 : wB.heap.size ≤ gv := hb7.2
        have K2 := hid hb6.1
        have V2 := hid hb7.1
        have E2B := hid e2
        clear hbl hdis hCx HCC hw2 hb6 hb7 e2 C
        refine wpl_storew rfl _ _ _ rfl rfl rfl K2.out agg_dec rfl (DecR.len d1) (decV_one d1) ?_
        intro w3 b3 u3
        have E3B := hid (u3.ext E2B.out hgw1)
        have V3 := hid (V2.out.upd u3 (by omega))
        have K3 := hid b3
        clear b3 u3 K2 V2 E2B
        refine wpl_storew rfl _ _ _ rfl rfl rfl V3.out agg_dec rfl (DecR.len d2) (decV_one d2) ?_
        intro w4 b4 u4
        have E4B := hid (u4.ext E3B.out hgw2)
        have K4 := hid (K3.out.upd u4 (by omega))
        have V4 := hid b4
        clear b4 u4 E3B V3 K3
        refine wpList_nil ?_
        have k0 := K4.out.cell' (i := 0) rfl
        have k2 := K4.out.cell' (i := 2) rfl
        have v0 := V4.out.cell' (i := 0) rfl
        have v2 := V4.out.cell' (i := 2) rfl
        cases h1 : d1.al with
        | false =>
          have hst : strP rs qs x.p = true := by rw [HDIF.out, h1]; rfl
          rw [h1] at k0
          have HNO2 := hid (take_true HPK.out hst HNO.out)
          have EE := hid (EB.out.ext E4B.out)
          clear HNO HDIF hst
          go_wp2
          go_roundw
          case rel => exact ⟨k + 1, by omega, by go_num, HNO2.out, EE.out⟩
          case measure => simp [intOf]; omega
        | true =>
          rw [h1] at k0
          cases h2 : d2.al with
          | false =>
            have hst : strP rs qs x.p = false := by rw [HDIF.out, h1, h2]; rfl
            rw [h2] at v0
            have hv : DB = false := by rw [← HD.out]; unfold strR; rw [if_pos rfl]; exact all_false HPK.out hst
            subst hv
            have EE := hid (EW.out.ext E4B.out)
            clear HNO HDIF hst
            go_wp2
            go_ret2
            exact ⟨rfl, EE.out⟩
          | true =>
            rw [h2] at v0
            by_cases h3 : d1.nd < d2.nd
            · have dz : decide (d1.nd < d2.nd) = true := decide_eq_true h3
              have hst : strP rs qs x.p = false := by rw [HDIF.out, h1, h2, dz]; rfl
              have hv : DB = false := by rw [← HD.out]; unfold strR; rw [if_pos rfl]; exact all_false HPK.out hst
              subst hv
              have EE := hid (EW.out.ext E4B.out)
              clear HNO HDIF hst
              go_wp2
              go_ret2
              exact ⟨rfl, EE.out⟩
            · have dz : decide (d1.nd < d2.nd) = false := decide_eq_false h3
              have hst : strP rs qs x.p = true := by rw [HDIF.out, h1, h2, dz]; rfl
              have HNO2 := hid (take_true HPK.out hst HNO.out)
              have EE := hid (EB.out.ext E4B.out)
              clear HNO HDIF hst
              go_wp2
              go_roundw
              case rel => exact ⟨k + 1, by omega, by go_num, HNO2.out, EE.out⟩
              case measure => simp [intOf]; omega
      · obtain rfl : k = n := by omega
        have hv : DB = true := by
          rw [← HD.out]
          unfold strR
          rw [if_pos rfl, List.all_eq_true]
          intro p hp
          have hl : (worldP (rs ++ qs)).length = k := by rw [← HPX.out, List.length_map]; exact hn
          exact HNO.out p (by rw [List.take_of_length_le (by omega)]; exact hp)
        subst hv
        have EE := hid (E1.out.ext E2.out)
        clear HNO
        go_wp2
        go_ret2
        exact ⟨rfl, EE.out⟩
  · have hv : DB = false := by rw [← HD.out]; unfold strR; rw [if_neg h0]
    subst hv
    have hvn := HNZ.out h0
    subst hvn
    have d0 : decide (E = 0) = false := decide_eq_false h0
    clear HNZ HZ HCZ HCW
    go_wp2
    go_ret2
    exact ⟨rfl, E1.out⟩
end

section
open Go Go.RowKit

theorem polE_cat {rs qs : List RuleR} {pn qn : Nat} (h1 : polE rs pn = 0) (h2 : polE qs qn = 0) (hn : pn + qn ≤ 100) : polE (rs ++ qs) (pn + qn) = 0 := by
  unfold polE
  rw [if_neg (by omega)]
  refine firstE_zero fun r hr => ?_
  rcases List.mem_append.1 hr with hr | hr
  · exact (polE_zero h1).2 r hr
  · exact (polE_zero h2).2 r hr
theorem difP_eq (rs qs : List RuleR) (x : AskR) (d1 d2 : DecR) (h1 : decideD x rs = d1) (h2 : decideD x qs = d2) : difP rs qs x.p = !sameD d1 d2 := by unfold difP; rw [← decP_of, ← decP_of, h1, h2]
theorem strP_eq (rs qs : List RuleR) (x : AskR) (d1 d2 : DecR) (h1 : decideD x rs = d1) (h2 : decideD x qs = d2) : strP rs qs x.p = (!d1.al || (d2.al && !decide (d1.nd < d2.nd))) := by unfold strP; rw [← decP_of, ← decP_of, h1, h2]
def foI : Option Nat → Int
  | none => -1
  | some m => (m : Int)

set_option maxRecDepth 100000 in
set_option maxHeartbeats 8000000 in
theorem policiesDiffer_c (pa : Option Addr) (pn pc : Nat) (rs : List RuleR) (qa : Option Addr) (qn qc : Nat) (qs : List RuleR) (w : World) (hp : PolOk w pa pn pc rs) (hq : PolOk w qa qn qc qs) :
    Calls Tryz.prog 4 #[.agg #[.slice pa pn pc], .agg #[.slice qa qn qc]] w fun e w' => e = .returned (.bool true) ∧ Ext w w' := by
  have HP := hid hp
  have HQ := hid hq
  have HDF := hid (fun W (h : Ext w W) => differ_c pa pn pc rs qa qn qc qs W (hp.ext h) (hq.ext h))
  have HST := hid (fun W (h : Ext w W) => stricter_c pa pn pc rs qa qn qc qs W (hp.ext h) (hq.ext h))
  have HC1 := hid (fun W (h : Ext w W) => checkPolicy_c pa pn pc rs W (hp.ext h))
  have HC2 := hid (fun W (h : Ext w W) => checkPolicy_c qa qn qc qs W (hq.ext h))
  clear hp hq
  have HAG := hid agg_ask
  go_enter Tryz.func4, Tryz.ntmps4
  go_upto_region 1 with (fail)
  generalize hwA : World.alloc (World.alloc w _) _ = wA
  have bA : Blk wA w.heap.size [.slice pa pn pc] 24 := by rw [← hwA]; exact (Blk.mk_alloc rfl rfl).alloc _
  have dA : Blk wA (w.heap.size + 1) [.slice qa qn qc] 24 := by rw [← hwA]; exact Blk.mk_alloc (size_allocW _ _).symm rfl
  have eA : Ext w wA := by rw [← hwA]; exact ((Ext.refl w).alloc _).alloc _
  have BA := hid bA
  have DA := hid dA
  have EA := hid eA
  clear hwA bA dA eA
  go_wp2_with fail
  refine (landed_c wA).mono ?_
  rintro e w1 ⟨rfl, e1⟩
  have E1 := hid (EA.out.ext e1)
  have B1 := hid (BA.out.ext e1)
  have D1 := hid (DA.out.ext e1)
  have c0 := B1.out.cell' (i := 0) rfl
  have d0 := D1.out.cell' (i := 0) rfl
  clear e1 BA DA EA
  by_cases hpn : 20 < pn
  · have x1 : decide ((20 : Int) < (pn : Int)) = true := decide_eq_true (by omega)
    go_wp2
    go_ret
    exact ⟨rfl, E1.out⟩
  have x1 : decide ((20 : Int) < (pn : Int)) = false := decide_eq_false (by omega)
  by_cases hqn : 20 < qn
  · have x2 : decide ((20 : Int) < (qn : Int)) = true := decide_eq_true (by omega)
    go_wp2
    go_ret
    exact ⟨rfl, E1.out⟩
  have x2 : decide ((20 : Int) < (qn : Int)) = false := decide_eq_false (by omega)
  obtain ⟨E, hE⟩ : ∃ E, comE rs pn qs qn = E := ⟨_, rfl⟩
  have HE := hid hE
  rw [hE] at HDF HST
  clear hE
  go_wp2_with (first | (refine wpl_loadw rfl 24 (.tmp 2) rfl rfl B1.out agg_polW rfl ?_) | (refine wpl_loadw rfl 24 (.tmp 3) rfl rfl D1.out agg_polW rfl ?_))
  refine (HDF.out w1 E1.out).mono ?_
  rintro e w2 ⟨a, rfl, hao, hap, e2⟩
  have E2 := hid (E1.out.ext e2)
  have B2 := hid (B1.out.ext e2)
  have D2 := hid (D1.out.ext e2)
  have HAO := hid hao
  have HAP := hid hap
  have HAL := hid (AskR.len hao)
  have ha1 := askW_one a
  clear e2 hao hap E1 B1 D1 c0 d0 HDF
  obtain ⟨DB, hDB⟩ : ∃ x, (difR E rs qs).1 = x := ⟨_, rfl⟩
  have HDB := hid hDB
  rw [hDB]
  clear hDB
  go_wp2_with (refine wpl_storew rfl _ (.tmp 5) _ rfl rfl rfl (Blk.mk_alloc (vs := zeroAskV) rfl rfl) HAG.out rfl HAL.out ha1 ?_)
  intro w3 b3 u3
  have e3 : Ext w2 w3 := u3.ext ((Ext.refl w2).alloc _) (Nat.le_refl _)
  obtain ⟨ga, hga⟩ : ∃ g, w2.heap.size = g := ⟨_, rfl⟩
  rw [hga] at b3 ⊢
  have A3 := hid b3
  have E3 := hid (E2.out.ext e3)
  have B3 := hid (B2.out.ext e3)
  have D3 := hid (D2.out.ext e3)
  have HA3 := hid (HAO.out.ext e3)
  clear b3 u3 e3 E2 B2 D2 HAO hga
  go_wp2_with (first | (refine wpl_loadw rfl 24 (.tmp 2) rfl rfl B3.out agg_polW rfl ?_) | (refine wpl_loadw rfl 24 (.tmp 3) rfl rfl D3.out agg_polW rfl ?_))
  refine (HST.out w3 E3.out).mono ?_
  rintro e w4 ⟨rfl, e4⟩
  obtain ⟨SB, hSB⟩ : ∃ x, strR E rs qs = x := ⟨_, rfl⟩
  have HSB := hid hSB
  rw [hSB]
  have A4 := hid (A3.out.ext e4)
  have E4 := hid (E3.out.ext e4)
  have B4 := hid (B3.out.ext e4)
  have D4 := hid (D3.out.ext e4)
  have HA4 := hid (HA3.out.ext e4)
  clear hSB e4 A3 E3 B3 D3 HA3 HST
  go_wp2_with (first | (refine wpl_loadw rfl 24 (.tmp 2) rfl rfl B4.out agg_polW rfl ?_))
  refine (HC1.out w4 E4.out).mono ?_
  rintro e w5 ⟨rfl, e5⟩
  have A5 := hid (A4.out.ext e5)
  have E5 := hid (E4.out.ext e5)
  have B5 := hid (B4.out.ext e5)
  have D5 := hid (D4.out.ext e5)
  have HA5 := hid (HA4.out.ext e5)
  clear e5 A4 E4 B4 D4 HA4 HC1
  obtain ⟨F, hF⟩ : ∃ F, polE rs pn = F := ⟨_, rfl⟩
  obtain ⟨G, hG⟩ : ∃ G, polE qs qn = G := ⟨_, rfl⟩
  have HF := hid hF
  have HG := hid hG
  rw [hF]
  rw [hG] at HC2
  have HEE : Hid ((if F ≠ 0 then F else if G ≠ 0 then G else errW (rs ++ qs) (pn + qn)) = E) := hid (by rw [← HE.out]; unfold comE; rw [hF, hG])
  clear hF hG HE
  obtain ⟨M, hM⟩ : ∃ M, (if F ≠ 0 then F else G) = M := ⟨_, rfl⟩
  have HM := hid hM
  clear hM
  go_upto_if 48 with (fail)
  go_cut [10] (fun v wx => v = .int .i64 M ∧ Ext w5 wx)
  case first =>
    by_cases h0 : F = 0
    · subst h0
      have hm : G = M := by have := HM.out; rwa [if_neg (by simp)] at this
      subst hm
      go_wp2_with (first | (refine wpl_loadw rfl 24 (.tmp 3) rfl rfl D5.out agg_polW rfl ?_))
      refine (HC2.out w5 E5.out).mono ?_
      rintro e w6 ⟨rfl, e6⟩
      go_wp2_with fail
      go_meet
      exact ⟨rfl, e6⟩
    · have hm : F = M := by have := HM.out; rwa [if_pos h0] at this
      subst hm
      have q0 : (F == 0) = false := by simpa using h0
      rw [q0]
      go_wp2_with fail
      go_meet
      exact ⟨rfl, Ext.refl _⟩
  case rest =>
  obtain ⟨hm10, e6⟩ := hcut
  subst hm10
  have A6 := hid (A5.out.ext e6)
  have E6 := hid (E5.out.ext e6)
  have B6 := hid (B5.out.ext e6)
  have D6 := hid (D5.out.ext e6)
  have HA6 := hid (HA5.out.ext e6)
  clear e6 A5 E5 B5 D5 HA5 HC2
  go_upto_if 52 with (fail)
  go_cut [10, 11] (fun g v wx => ∃ xs b d, g = .int .i64 E ∧ v = .slice b xs.length d ∧ (E = 0 → AsksOk wx b xs.length d xs ∧ xs.map AskR.p = worldP (rs ++ qs)) ∧ Ext wc wx)
  case first =>
    by_cases h0 : M = 0
    · subst h0
      have hFG : F = 0 ∧ G = 0 := by
        have := HM.out
        by_cases h1 : F = 0
        · rw [if_neg (by simp [h1])] at this; exact ⟨h1, this⟩
        · rw [if_pos h1] at this; exact absurd this h1
      obtain ⟨hF0, hG0⟩ := hFG
      have hEW : errW (rs ++ qs) (pn + qn) = E := by
        have := HEE.out
        rwa [if_neg (by simp [hF0]), if_neg (by simp [hG0])] at this
      have hcz : polE (rs ++ qs) (pn + qn) = 0 := polE_cat (HF.out.trans hF0) (HG.out.trans hG0) (by omega)
      have HEW := hid hEW
      have HCZ := hid hcz
      have c0 := B6.out.cell' (i := 0) rfl
      have d0 := D6.out.cell' (i := 0) rfl
      clear hF0 hG0 hEW hcz
      go_wp2_with fail
      obtain ⟨gl, hgl⟩ : ∃ gl, wc.heap.size = gl := ⟨_, rfl⟩
      rw [hgl]
      generalize hwL : World.alloc wc _ = wL
      have bL : Blk wL gl [.slice pa pn pc, .slice qa qn qc] 22 := by rw [← hwL, ← hgl]; exact Blk.mk_alloc rfl rfl
      have eL : Ext wc wL := by rw [← hwL]; exact (Ext.refl wc).alloc _
      have EL := hid eL
      have PL := hid (HP.out.ext (E6.out.ext eL))
      have QL := hid (HQ.out.ext (E6.out.ext eL))
      have BL := hid bL
      clear hwL bL eL hgl c0 d0
      refine (concatN_c [(pa, pc, rs), (qa, qc, qs)] gl 2 2 wL rfl (by omega) (by omega) ?hg ?hc ?hl).mono ?_
      case hg =>
        intro k it hk
        rcases (show k = 0 ∨ k = 1 ∨ 2 ≤ k by omega) with rfl | rfl | h
        · simp at hk; subst hk; unfold itemR; rw [PL.out.hl]; exact BL.out.cell' (i := 0) rfl
        · simp at hk; subst hk; unfold itemR; rw [QL.out.hl]; exact BL.out.cell' (i := 1) rfl
        · rw [List.getElem?_eq_none (by simpa using h)] at hk; cases hk
      case hc =>
        intro it hit
        simp only [List.mem_cons, List.not_mem_nil, or_false] at hit
        rcases hit with rfl | rfl
        · exact PL.out.cell
        · exact QL.out.cell
      case hl =>
        rw [cat_two, List.length_append, PL.out.hl, QL.out.hl]; omega
      rintro e w8 ⟨v, rfl, own, e8⟩
      rw [cat_two] at own
      have hll : (rs ++ qs).length = pn + qn := by rw [List.length_append, PL.out.hl, QL.out.hl]
      rw [hll] at own
      obtain ⟨ca, cc, rfl, hac, _, hcell⟩ := own_cellsA own
      have PO : Hid (PolOk w8 ca (pn + qn) cc (rs ++ qs)) := hid ⟨hll, hac, by omega, hcell, fun r hr => by
        rcases List.mem_append.1 hr with hr | hr
        · exact (PL.out.ok r hr).ext e8
        · exact (QL.out.ok r hr).ext e8⟩
      have E8 := hid (EL.out.ext e8)
      have HWO := hid (rWorld_c ca (pn + qn) cc (rs ++ qs) w8 PO.out HCZ.out)
      clear own hcell e8 PL QL BL EL hll PO
      go_wp2_with fail
      refine HWO.out.mono ?_
      rintro e w9 (⟨hbig, rfl, e9⟩ | ⟨hle, v2, ys, rfl, hys, hyp, e9⟩)
      · have hE5 : (5 : Int) = E := by
          have := HEW.out
          unfold errW at this
          rwa [if_neg (by rw [HCZ.out]; simp), if_neg hbig] at this
        subst hE5
        have E9 := hid (E8.out.ext e9)
        clear hbig e9 HWO HEW HEE
        go_wp2_with fail
        go_meet
        exact ⟨[], none, 0, rfl, rfl, fun h => absurd h (by decide), E9.out⟩
      · have hE0 : (0 : Int) = E := by
          have := HEW.out
          unfold errW at this
          rwa [if_neg (by rw [HCZ.out]; simp), if_pos hle] at this
        subst hE0
        obtain ⟨b, d, rfl, hok⟩ := hys.slice
        have OKY := hid hok
        have HYP := hid hyp
        have E9 := hid (E8.out.ext e9)
        clear hle e9 HWO HEW HEE hys hok hyp
        go_wp2_with fail
        go_meet
        exact ⟨ys, b, d, rfl, rfl, fun _ => ⟨OKY.out, HYP.out⟩, E9.out⟩
    · have q0 : (M == 0) = false := by simpa using h0
      have hEM : M = E := by
        have h1 := HM.out
        have h2 := HEE.out
        by_cases hf : F = 0
        · rw [if_neg (by simp [hf])] at h1 h2
          rw [← h1] at h0 ⊢
          rwa [if_pos h0] at h2
        · rw [if_pos hf] at h1 h2; rw [← h1, ← h2]
      subst hEM
      rw [q0]
      go_wp2_with fail
      go_meet
      exact ⟨[], none, 0, rfl, rfl, fun h => absurd h h0, Ext.refl _⟩
  case rest =>
  obtain ⟨xs, b, d, hg10, hg11, hxs, e7⟩ := hcut
  subst hg10 hg11
  obtain ⟨n, hn⟩ : ∃ n, xs.length = n := ⟨_, rfl⟩
  have hxs2 : E = 0 → AsksOk wc b n d xs ∧ xs.map AskR.p = worldP (rs ++ qs) := fun h => by rw [← hn]; exact hxs h
  have HXS := hid hxs2
  rw [hn]
  have A7 := hid (A6.out.ext e7)
  have E7 := hid (E6.out.ext e7)
  have B7 := hid (B6.out.ext e7)
  have D7 := hid (D6.out.ext e7)
  have HA7 := hid (HA6.out.ext e7)
  have s0 : (E == E) = true := beq_self_eq_true _
  clear e7 A6 E6 B6 D6 HA6 hxs hxs2
  by_cases h0 : E = 0
  · subst h0
    obtain ⟨hok, hP⟩ := HXS.out (by trivial)
    have hzz : (∀ r ∈ rs, ruleE r = 0) ∧ (∀ r ∈ qs, ruleE r = 0) := by
      have := HEE.out
      by_cases h1 : F = 0
      · rw [if_neg (by simp [h1])] at this
        by_cases h2 : G = 0
        · exact ⟨(polE_zero (HF.out.trans h1)).2, (polE_zero (HG.out.trans h2)).2⟩
        · rw [if_pos h2] at this; exact absurd this h2
      · rw [if_pos h1] at this; exact absurd this h1
    have HZ1 := hid hzz.1
    have HZ2 := hid hzz.2
    have HOKP := hid (worldP_ok (rs := rs ++ qs) (fun r hr => by
      rcases List.mem_append.1 hr with hr | hr
      · exact hzz.1 r hr
      · exact hzz.2 r hr))
    have AOK := hid hok
    have HPX := hid hP
    have hn63 : n ≤ 100000 := by
      have hEW : errW (rs ++ qs) (pn + qn) = 0 := by
        have := HEE.out
        by_cases h1 : F = 0
        · rw [if_neg (by simp [h1])] at this
          by_cases h2 : G = 0
          · rwa [if_neg (by simp [h2])] at this
          · rw [if_pos h2] at this; exact absurd this h2
        · rw [if_pos h1] at this; exact absurd this h1
      have := (errW_zero hEW).2
      rw [← worldP_len, ← hP, List.length_map, hn] at this
      exact this
    clear hok hP hzz HXS HEE HF HG HM
    go_wp2
    go_loopw [14, 15, 90] (fun st fi i wr => ∃ (k : Nat) (fo : Option Nat), k ≤ n ∧ i = .int .i64 (k : Int) ∧ st = .bool (((worldP (rs ++ qs)).take k).all (strP rs qs)) ∧ fi = .int .i64 (foI fo) ∧ (fo = none → ∀ p ∈ (worldP (rs ++ qs)).take k, difP rs qs p = false) ∧ (∀ m, fo = some m → m < k ∧ ∃ x, (worldP (rs ++ qs))[m]? = some x ∧ difP rs qs x = true ∧ ∀ p ∈ (worldP (rs ++ qs)).take m, difP rs qs p = false) ∧ Ext wc wr) (fun _ _ i _ => n - (intOf i).toNat)
    case atStart => exact ⟨0, none, by omega, rfl, rfl, rfl, (fun _ p hp => by simp at hp), (fun m hm => by cases hm), Ext.refl _⟩
    case round =>
      obtain ⟨k, fo, hk, rfl, rfl, rfl, hfn, hfs, e2⟩ := hrel
      have E2 := hid e2
      have HFN := hid hfn
      have HFS := hid hfs
      clear e2 hfn hfs
      by_cases hlt : k < n
      · obtain ⟨x, hxk⟩ : ∃ x, xs[k]? = some x := ⟨xs[k]'(by omega), by simp⟩
        have hpk : (worldP (rs ++ qs))[k]? = some x.p := by rw [← HPX.out, List.getElem?_map, hxk]; rfl
        obtain ⟨T, hT, hTb⟩ := HOKP.out _ (List.mem_of_getElem? hpk)
        obtain ⟨A, rfl, hca⟩ := (AOK.out.ext E2.out).at hxk
        have HCA := hid hca
        have HXO := hid ((AOK.out.ext E2.out).ok x (List.mem_of_getElem? hxk))
        have HXL := hid (AskR.len HXO.out)
        have HPK := hid hpk
        have HT := hid (show x.time = (T : Int) from hT)
        have o1 := askW_one x
        clear hca hxk hpk hT
        go_wp2_with (first | (refine wpl_run rfl (exec_index (i := k) rfl rfl rfl Tryz.underlying26 size_ask hlt _) ?_) | (refine wpl_run rfl (exec_load_at rfl rfl HCA.out HAG.out HXL.out) ?_) | (refine wpl_storew rfl _ (.tmp 17) _ rfl rfl rfl (Blk.mk_alloc (vs := zeroAskV) rfl rfl) HAG.out rfl HXL.out o1 ?_))
        intro wB bB uB
        have eB : Ext wr wB := uB.ext ((Ext.refl wr).alloc _) (Nat.le_refl _)
        have BX := hid bB
        have EB := hid (E2.out.ext eB)
        have HXB := hid (HXO.out.ext eB)
        clear bB uB eB HCA E2 HXO
        generalize wr.heap.size = gr at *
        have EW := hid (E7.out.ext EB.out)
        have PB := hid (HP.out.ext EW.out)
        have QB := hid (HQ.out.ext EW.out)
        have BB := hid (B7.out.ext EB.out)
        have DB' := hid (D7.out.ext EB.out)
        have hD1 := hid (fun W (h : Ext wB W) => rdecideT_c pa pn pc rs x T W (PB.out.ext h) (HXB.out.ext h) HZ1.out HT.out hTb)
        have hD2 := hid (fun W (h : Ext wB W) => rdecideT_c qa qn qc qs x T W (QB.out.ext h) (HXB.out.ext h) HZ2.out HT.out hTb)
        obtain ⟨d1, hd1⟩ : ∃ d, decideD x rs = d := ⟨_, rfl⟩
        obtain ⟨d2, hd2⟩ : ∃ d, decideD x qs = d := ⟨_, rfl⟩
        have HDIF := hid (difP_eq rs qs x d1 d2 hd1 hd2)
        have HSTR := hid (strP_eq rs qs x d1 d2 hd1 hd2)
        rw [hd1] at hD1
        rw [hd2] at hD2
        have hlv := HXL.out
        clear hd1 hd2
        go_upto_region 25 with (fail)
        obtain ⟨C, hC⟩ : ∃ C : World → Prop, C = fun w' => Ext wB w' := ⟨_, rfl⟩
        have hC0 : ∀ w', C w' ↔ Ext wB w' := fun w' => by rw [hC]
        clear hC
        have HCC := hid hC0
        clear hC0
        have hCx : ∀ w w', C w → Ext w w' → C w' := fun w w' h1 h2 => (HCC.out w').2 (((HCC.out w).1 h1).ext h2)
        refine wp_region_al (C := C) 8 [(6, zeroDec.v, 52), (7, zeroDec.v, 52)] wB.heap.size (by kernel_rfl) (by kernel_rfl) (by kernel_rfl)
          ((HCC.out _).2 (Ext.refl wB).drew) (fun w o h => hCx _ _ h ((Ext.refl w).alloc o)) (fun w h => ((HCC.out w).1 h).size) ?_ ?_
        · intro x hx
          simp only [List.mem_cons, List.not_mem_nil, or_false] at hx
          rcases hx with rfl | rfl
          · exact ⟨_, rfl, rfl, fun _ _ => by rfl⟩
          · exact ⟨_, rfl, rfl, fun _ _ => by rfl⟩
        simp only [List.take_succ_cons, List.take_zero, List.drop_succ_cons, List.drop_zero]
        refine wpQE_do rfl rfl _ (yieldsE_loadw _ _ rfl rfl (fun w1 h => BB.out.ext ((HCC.out w1).1 h)) agg_polW rfl) ?_
        simp only [Act.put, List.setIfInBounds_toArray, List.set_cons_succ, List.set_cons_zero]
        refine wpQE_do rfl rfl _ (yieldsE_loadw _ _ rfl rfl (fun w1 h => BX.out.ext ((HCC.out w1).1 h)) HAG.out hlv) ?_
        simp only [Act.put, List.setIfInBounds_toArray, List.set_cons_succ, List.set_cons_zero]
        refine wpQE_do rfl rfl _ (yieldsE_call rfl Tryz.call15 (by simp [Act.eval]) (fun w h => hD1.out w ((HCC.out w).1 h)) hCx) ?_
        simp only [Act.put, List.setIfInBounds_toArray, List.set_cons_succ, List.set_cons_zero]
        refine wpQE_do rfl rfl _ (yieldsE_loadw _ _ rfl rfl (fun w1 h => DB'.out.ext ((HCC.out w1).1 h)) agg_polW rfl) ?_
        simp only [Act.put, List.setIfInBounds_toArray, List.set_cons_succ, List.set_cons_zero]
        refine wpQE_do rfl rfl _ (yieldsE_loadw _ _ rfl rfl (fun w1 h => BX.out.ext ((HCC.out w1).1 h)) HAG.out hlv) ?_
        simp only [Act.put, List.setIfInBounds_toArray, List.set_cons_succ, List.set_cons_zero]
        refine wpQE_do rfl rfl _ (yieldsE_call rfl Tryz.call15 (by simp [Act.eval]) (fun w h => hD2.out w ((HCC.out w).1 h)) hCx) ?_
        simp only [Act.put, List.setIfInBounds_toArray, List.set_cons_succ, List.set_cons_zero]
        refine wpQE_al rfl ?_
        refine wpQE_al rfl ?_
        refine wpQE_nil ?_
        intro gs w2 hw2 hbl hdis
        have hb6 := hbl _ (List.mem_cons_self)
        have hb7 := hbl _ (List.mem_cons_of_mem _ List.mem_cons_self)
        have hne := hdis _ (List.mem_cons_self) _ (List.mem_cons_of_mem _ List.mem_cons_self) (by simp)
        simp only at hb6 hb7 hne
        simp only [putAl, dstOf, ptrOf, Act.put, List.getElem?_toArray, List.getElem?_cons_succ, List.getElem?_cons_zero, Option.bind_some, List.setIfInBounds_toArray, List.set_cons_succ, List.set_cons_zero]
        generalize gs 6 = gk at *
        generalize gs 7 = gv at *
        have e2 := (HCC.out w2).1 hw2
        have hgw1 : wB.heap.size ≤ gk := hb6.2
        have hgw2 : wB.heap.size ≤ gv := hb7.2
        have K2 := hid hb6.1
        have V2 := hid hb7.1
        have E2B := hid e2
        clear hbl hdis hCx HCC hw2 hb6 hb7 e2 C
        refine wpl_storew rfl _ _ _ rfl rfl rfl K2.out agg_dec rfl (DecR.len d1) (decV_one d1) ?_
        intro w3 b3 u3
        have E3B := hid (u3.ext E2B.out hgw1)
        have V3 := hid (V2.out.upd u3 (by omega))
        have K3 := hid b3
        clear b3 u3 K2 V2 E2B
        refine wpl_storew rfl _ _ _ rfl rfl rfl V3.out agg_dec rfl (DecR.len d2) (decV_one d2) ?_
        intro w4 b4 u4
        have E4B := hid (u4.ext E3B.out hgw2)
        have K4 := hid (K3.out.upd u4 (by omega))
        have V4 := hid b4
        clear b4 u4 E3B V3 K3
        refine wpList_nil ?_
        have k0 := K4.out.cell' (i := 0) rfl
        have k2 := K4.out.cell' (i := 2) rfl
        have k3 := K4.out.cell' (i := 3) rfl
        have v0 := V4.out.cell' (i := 0) rfl
        have v2 := V4.out.cell' (i := 2) rfl
        have v3 := V4.out.cell' (i := 3) rfl
        obtain ⟨S, hS⟩ : ∃ S, ((worldP (rs ++ qs)).take k).all (strP rs qs) = S := ⟨_, rfl⟩
        have HS := hid hS
        rw [hS]
        have HSN : Hid (((worldP (rs ++ qs)).take (k + 1)).all (strP rs qs) = (S && strP rs qs x.p)) := hid (by rw [List.take_add_one, HPK.out, List.all_append, HS.out]; simp)
        obtain ⟨f', hf'⟩ : ∃ f', (match fo with | some m => some m | none => if difP rs qs x.p then some k else none) = f' := ⟨_, rfl⟩
        have HF' := hid hf'
        clear hS hf'
        go_upto_region 26 with (fail)
        try dsimp only
        try simp only [Act.put, List.setIfInBounds_toArray, List.set_cons_succ, List.set_cons_zero]
        go_cut [123] (fun v wx => v = .bool (fo.isNone && difP rs qs x.p) ∧ wx = w4)
        case first =>
          cases fo with
          | some m =>
            have hneg : decide (foI (some m) < 0) = false := decide_eq_false (by show ¬ ((m : Int) < 0); omega)
            go_wp2
            go_meet
            exact ⟨rfl, rfl⟩
          | none =>
            have hneg : decide (foI none < 0) = true := rfl
            cases h1 : (d1.al == d2.al) with
            | false =>
              have n1 : (d1.al != d2.al) = true := by unfold bne; rw [h1]; rfl
              have hv : difP rs qs x.p = true := by rw [HDIF.out]; unfold sameD; rw [h1]; rfl
              have HV := hid hv
              clear hv HDIF
              go_wp2
              go_meet
              exact ⟨by rw [HV.out]; first | rfl | simp_all, rfl⟩
            | true =>
              have n1 : (d1.al != d2.al) = false := by unfold bne; rw [h1]; rfl
              cases h2 : (d1.nd == d2.nd) with
              | false =>
                have n2 : (d1.nd != d2.nd) = true := by unfold bne; rw [h2]; rfl
                have hv : difP rs qs x.p = true := by rw [HDIF.out]; unfold sameD; rw [h1, h2]; rfl
                have HV := hid hv
                clear hv HDIF
                go_wp2
                go_meet
                exact ⟨by rw [HV.out]; first | rfl | simp_all, rfl⟩
              | true =>
                have n2 : (d1.nd != d2.nd) = false := by unfold bne; rw [h2]; rfl
                cases h3 : (d1.ow.toList == d2.ow.toList) with
                | false =>
                  have n3 : (d1.ow.toList != d2.ow.toList) = true := by unfold bne; rw [h3]; rfl
                  have hv : difP rs qs x.p = true := by rw [HDIF.out]; unfold sameD; rw [h1, h2, h3]; rfl
                  have HV := hid hv
                  clear hv HDIF
                  go_wp2
                  go_meet
                  exact ⟨by rw [HV.out]; first | rfl | simp_all, rfl⟩
                | true =>
                  have n3 : (d1.ow.toList != d2.ow.toList) = false := by unfold bne; rw [h3]; rfl
                  have hv : difP rs qs x.p = false := by rw [HDIF.out]; unfold sameD; rw [h1, h2, h3]; rfl
                  have HV := hid hv
                  clear hv HDIF
                  go_wp2
                  go_meet
                  exact ⟨by rw [HV.out]; first | rfl | simp_all, rfl⟩
        case rest =>
        obtain ⟨hv123, hww⟩ := hcut
        subst hv123
        subst hww
        clear HF' f' hD1 hD2 HDIF o1 hlv BX PB QB BB DB' HXB
        go_upto_if 123 with (fail)
        go_cut [15] (fun v wx => ∃ fo' : Option Nat, v = .int .i64 (foI fo') ∧ (fo' = none → ∀ p ∈ (worldP (rs ++ qs)).take (k + 1), difP rs qs p = false) ∧ (∀ m, fo' = some m → m < k + 1 ∧ ∃ x, (worldP (rs ++ qs))[m]? = some x ∧ difP rs qs x = true ∧ ∀ p ∈ (worldP (rs ++ qs)).take m, difP rs qs p = false) ∧ wx = wc)
        case first =>
          cases fo with
          | some m =>
            have N1 : Hid (∀ m', some m = some m' → m' < k + 1 ∧ ∃ x, (worldP (rs ++ qs))[m']? = some x ∧ difP rs qs x = true ∧ ∀ p ∈ (worldP (rs ++ qs)).take m', difP rs qs p = false) := hid (fun m' hm' => by
              obtain ⟨h1, h2⟩ := HFS.out m' hm'
              exact ⟨by omega, h2⟩)
            rw [show ((some m).isNone && difP rs qs x.p) = false from rfl]
            go_wp2_with fail
            go_meet
            exact ⟨some m, rfl, (fun h => by cases h), N1.out, rfl⟩
          | none =>
            cases hdd : difP rs qs x.p with
            | true =>
              have N1 : Hid (∀ m', some k = some m' → m' < k + 1 ∧ ∃ x, (worldP (rs ++ qs))[m']? = some x ∧ difP rs qs x = true ∧ ∀ p ∈ (worldP (rs ++ qs)).take m', difP rs qs p = false) := hid (fun m' hm' => by
                injection hm' with hm'
                subst hm'
                exact ⟨by omega, x.p, HPK.out, hdd, HFN.out rfl⟩)
              rw [show ((none : Option Nat).isNone && true) = true from rfl]
              clear hdd
              go_wp2_with fail
              go_meet
              exact ⟨some k, rfl, (fun h => by cases h), N1.out, rfl⟩
            | false =>
              have N0 := hid (take_false HPK.out hdd (HFN.out rfl))
              rw [show ((none : Option Nat).isNone && false) = false from rfl]
              clear hdd
              go_wp2_with fail
              go_meet
              exact ⟨none, rfl, fun _ => N0.out, (fun m h => by cases h), rfl⟩
        case rest =>
        obtain ⟨fo', hfi, hfn, hfs, hww⟩ := hcut
        subst hfi
        subst hww
        have HFN2 := hid hfn
        have HFS2 := hid hfs
        have EE := hid (EB.out.ext E4B.out)
        have hgk : gk < wc.heap.size := K4.out.lt
        clear hfn hfs HFN HFS EB EW
        cases S with
        | false =>
          have HSV : Hid (((worldP (rs ++ qs)).take (k + 1)).all (strP rs qs) = false) := hid (by rw [HSN.out, HSTR.out]; rfl)
          clear HSN HSTR HS
          go_wp2
          go_roundw
          case rel => exact ⟨k + 1, fo', by omega, by go_num, by rw [HSV.out], rfl, HFN2.out, HFS2.out, EE.out⟩
          case measure => simp [intOf]; omega
        | true =>
          cases h1 : d1.al with
          | false =>
            rw [h1] at k0
            have HSV : Hid (((worldP (rs ++ qs)).take (k + 1)).all (strP rs qs) = true) := hid (by rw [HSN.out, HSTR.out]; rw [h1]; rfl)
            clear HSN HSTR HS
            go_wp2
            go_roundw
            case rel => exact ⟨k + 1, fo', by omega, by go_num, by rw [HSV.out], rfl, HFN2.out, HFS2.out, EE.out⟩
            case measure => simp [intOf]; omega
          | true =>
            rw [h1] at k0
            cases h2 : d2.al with
            | false =>
              rw [h2] at v0
              have HSV : Hid (((worldP (rs ++ qs)).take (k + 1)).all (strP rs qs) = false) := hid (by rw [HSN.out, HSTR.out]; rw [h1, h2]; rfl)
              clear HSN HSTR HS
              go_wp2
              go_roundw
              case rel => exact ⟨k + 1, fo', by omega, by go_num, by rw [HSV.out], rfl, HFN2.out, HFS2.out, EE.out⟩
              case measure => simp [intOf]; omega
            | true =>
              rw [h2] at v0
              by_cases h3 : d1.nd < d2.nd
              · have dz : decide (d1.nd < d2.nd) = true := decide_eq_true h3
                have dz2 : decide (d2.nd ≤ d1.nd) = false := decide_eq_false (by omega)
                have HSV : Hid (((worldP (rs ++ qs)).take (k + 1)).all (strP rs qs) = false) := hid (by rw [HSN.out, HSTR.out]; rw [h1, h2, dz]; rfl)
                clear HSN HSTR HS
                go_wp2
                go_roundw
                case rel => exact ⟨k + 1, fo', by omega, by go_num, by rw [HSV.out], rfl, HFN2.out, HFS2.out, EE.out⟩
                case measure => simp [intOf]; omega
              · have dz : decide (d1.nd < d2.nd) = false := decide_eq_false h3
                have dz2 : decide (d2.nd ≤ d1.nd) = true := decide_eq_true (by omega)
                have HSV : Hid (((worldP (rs ++ qs)).take (k + 1)).all (strP rs qs) = true) := hid (by rw [HSN.out, HSTR.out]; rw [h1, h2, dz]; rfl)
                clear HSN HSTR HS
                go_wp2
                go_roundw
                case rel => exact ⟨k + 1, fo', by omega, by go_num, by rw [HSV.out], rfl, HFN2.out, HFS2.out, EE.out⟩
                case measure => simp [intOf]; omega
      · obtain rfl : k = n := by omega
        have htk : (worldP (rs ++ qs)).take k = worldP (rs ++ qs) := List.take_of_length_le (by rw [← HPX.out, List.length_map]; omega)
        have hsv : SB = (worldP (rs ++ qs)).all (strP rs qs) := by rw [← HSB.out]; unfold strR; rw [if_pos rfl]
        rw [htk, ← hsv]
        have hfirst : firstD rs qs = fo.bind (fun m => (worldP (rs ++ qs))[m]?) := by
          cases fo with
          | none =>
            rw [Option.bind_none]
            unfold firstD
            rw [List.find?_eq_none]
            intro p hp
            rw [HFN.out rfl p (by rw [htk]; exact hp)]
            simp
          | some m =>
            obtain ⟨_, y, hy, hd, hb⟩ := HFS.out m rfl
            rw [Option.bind_some, hy]
            exact find_at hy hd hb
        have A8 := hid (A7.out.ext E2.out)
        have HA8 := hid (HA7.out.ext E2.out)
        have E8 := hid (E7.out.ext E2.out)
        clear htk hsv
        have n0 : (SB != SB) = false := by cases SB <;> rfl
        have e0 : (SB == SB) = true := by cases SB <;> rfl
        cases fo with
        | none =>
          rw [Option.bind_none] at hfirst
          have hdr : difR 0 rs qs = (false, zeroP) := by unfold difR; rw [if_pos rfl, hfirst]
          have hdb : DB = false := by rw [← HDB.out, hdr]
          subst hdb
          have hap : a.p = zeroA.p := by rw [HAP.out, hdr]; rfl
          have HAPZ := hid hap
          have hneg : decide ((0 : Int) ≤ foI none) = false := rfl
          have hal := HAL.out
          clear hdr hap HDB HAP HSB HFN HFS hfirst
          go_upto_region 32 with (fail)
          obtain ⟨C, hC⟩ : ∃ C : World → Prop, C = fun w' => Ext wr w' := ⟨_, rfl⟩
          have hC0 : ∀ w', C w' ↔ Ext wr w' := fun w' => by rw [hC]
          clear hC
          have HCC := hid hC0
          clear hC0
          have hCx : ∀ w w', C w → Ext w w' → C w' := fun w w' h1 h2 => (HCC.out w').2 (((HCC.out w).1 h1).ext h2)
          have hCA : C wr := (HCC.out _).2 (Ext.refl wr)
          refine wp_region_held_drew (S := C) (by kernel_rfl) (hCx _ _ hCA (Ext.refl _).drew) (fun hS0 => ?_)
          refine held_take 0 (v := ?tv72) rfl (by kernel_rfl) (by kernel_rfl) (by kernel_rfl) (fun _ _ _ h => h) (.inl ⟨rfl, ?ty72⟩) hS0 ?tr72
          case ty72 => (intro _ _; go_simp; try with_reducible rfl)
          case tr72 =>
          simp only [Act.put, List.setIfInBounds_toArray, List.set_cons_succ, List.set_cons_zero]
          refine held_take 1 (v := ?tv73) rfl (by kernel_rfl) (by kernel_rfl) (by kernel_rfl) (fun _ _ _ h => h) (.inl ⟨rfl, ?ty73⟩) hS0 ?tr73
          case ty73 => (intro _ _; go_simp; try with_reducible rfl)
          case tr73 =>
          simp only [Act.put, List.setIfInBounds_toArray, List.set_cons_succ, List.set_cons_zero]
          refine held_take 2 (v := ?tv74) rfl (by kernel_rfl) (by kernel_rfl) (by kernel_rfl) (fun _ _ _ h => h) (.inl ⟨rfl, ?ty74⟩) hS0 ?tr74
          case ty74 => (intro _ _; go_simp; try with_reducible rfl)
          case tr74 =>
          simp only [Act.put, List.setIfInBounds_toArray, List.set_cons_succ, List.set_cons_zero]
          refine held_take 3 (v := _) rfl (by kernel_rfl) (by kernel_rfl) (by kernel_rfl) (fun _ _ _ h => h) (yieldsI_loadw rfl 40 _ rfl rfl (fun w1 h => A8.out.ext ((HCC.out w1).1 h)) HAG.out hal) hS0 ?_
          simp only [Act.put, List.setIfInBounds_toArray, List.set_cons_succ, List.set_cons_zero]
          refine held_take 4 (v := _) rfl (by kernel_rfl) (by kernel_rfl) (by kernel_rfl) (fun _ _ _ h => h) (yieldsI_run rfl (fun w1 _ => exec_ask0 rfl w1)) hS0 ?_
          simp only [Act.put, List.setIfInBounds_toArray, List.set_cons_succ, List.set_cons_zero]
          have hx0 := (HCC.out _).1 hS0
          refine held_one (i := 5) (by kernel_rfl) rfl ?_
          intro Q' hQ
          go_wp2_with fail
          refine ((sameAsk_c a zeroA _ (HA8.out.ext hx0) (zeroA_ok _) HAPZ.out)).mono ?_
          rintro e wz ⟨rfl, eq9⟩
          have hS9 := hCx _ _ hS0 eq9
          go_wp2_with fail
          refine hQ _ _ hS9 ?_
          clear hQ Q' hS0 eq9
          have hS0 := hS9
          clear hS9
          try dsimp only
          try simp only [Act.put, List.setIfInBounds_toArray, List.set_cons_succ, List.set_cons_zero]
          refine held_take 6 (v := ?tv75) rfl (by kernel_rfl) (by kernel_rfl) (by kernel_rfl) (fun _ _ _ h => h) (.inl ⟨rfl, ?ty75⟩) hS0 ?tr75
          case ty75 => (intro _ _; go_simp; try with_reducible rfl)
          case tr75 =>
          simp only [Act.put, List.setIfInBounds_toArray, List.set_cons_succ, List.set_cons_zero]
          refine held_take 7 (v := ?tv76) rfl (by kernel_rfl) (by kernel_rfl) (by kernel_rfl) (fun _ _ _ h => h) (.inl ⟨rfl, ?ty76⟩) hS0 ?tr76
          case ty76 => (intro _ _; go_simp; try with_reducible rfl)
          case tr76 =>
          simp only [Act.put, List.setIfInBounds_toArray, List.set_cons_succ, List.set_cons_zero]
          refine held_take 8 (v := undef) rfl (by kernel_rfl) (by kernel_rfl) (by kernel_rfl) (fun _ _ _ h => h) (.inr ⟨rfl, rfl⟩) hS0 ?_
          simp only [Act.put, List.setIfInBounds_toArray, List.set_cons_succ, List.set_cons_zero]
          refine held_take 9 (v := undef) rfl (by kernel_rfl) (by kernel_rfl) (by kernel_rfl) (fun _ _ _ h => h) (.inr ⟨rfl, rfl⟩) hS0 ?_
          simp only [Act.put, List.setIfInBounds_toArray, List.set_cons_succ, List.set_cons_zero]
          refine held_take 10 (v := undef) rfl (by kernel_rfl) (by kernel_rfl) (by kernel_rfl) (fun _ _ _ h => h) (.inr ⟨rfl, rfl⟩) hS0 ?_
          simp only [Act.put, List.setIfInBounds_toArray, List.set_cons_succ, List.set_cons_zero]
          refine held_take 11 (v := undef) rfl (by kernel_rfl) (by kernel_rfl) (by kernel_rfl) (fun _ _ _ h => h) (.inr ⟨rfl, rfl⟩) hS0 ?_
          simp only [Act.put, List.setIfInBounds_toArray, List.set_cons_succ, List.set_cons_zero]
          refine held_take 12 (v := undef) rfl (by kernel_rfl) (by kernel_rfl) (by kernel_rfl) (fun _ _ _ h => h) (.inr ⟨rfl, rfl⟩) hS0 ?_
          simp only [Act.put, List.setIfInBounds_toArray, List.set_cons_succ, List.set_cons_zero]
          refine held_take 13 (v := undef) rfl (by kernel_rfl) (by kernel_rfl) (by kernel_rfl) (fun _ _ _ h => h) (.inr ⟨rfl, rfl⟩) hS0 ?_
          simp only [Act.put, List.setIfInBounds_toArray, List.set_cons_succ, List.set_cons_zero]
          refine held_take 14 (v := undef) rfl (by kernel_rfl) (by kernel_rfl) (by kernel_rfl) (fun _ _ _ h => h) (.inr ⟨rfl, rfl⟩) hS0 ?_
          simp only [Act.put, List.setIfInBounds_toArray, List.set_cons_succ, List.set_cons_zero]
          refine held_take 15 (v := undef) rfl (by kernel_rfl) (by kernel_rfl) (by kernel_rfl) (fun _ _ _ h => h) (.inr ⟨rfl, rfl⟩) hS0 ?_
          simp only [Act.put, List.setIfInBounds_toArray, List.set_cons_succ, List.set_cons_zero]
          refine held_take 16 (v := undef) rfl (by kernel_rfl) (by kernel_rfl) (by kernel_rfl) (fun _ _ _ h => h) (.inr ⟨rfl, rfl⟩) hS0 ?_
          simp only [Act.put, List.setIfInBounds_toArray, List.set_cons_succ, List.set_cons_zero]
          refine held_take 17 (v := ?tv77) rfl (by kernel_rfl) (by kernel_rfl) (by kernel_rfl) (fun _ _ _ h => h) (.inl ⟨rfl, ?ty77⟩) hS0 ?tr77
          case ty77 => (intro _ _; go_simp; try with_reducible rfl)
          case tr77 =>
          simp only [Act.put, List.setIfInBounds_toArray, List.set_cons_succ, List.set_cons_zero]
          refine held_take 18 (v := ?tv78) rfl (by kernel_rfl) (by kernel_rfl) (by kernel_rfl) (fun _ _ _ h => h) (.inl ⟨rfl, ?ty78⟩) hS0 ?tr78
          case ty78 => (intro _ _; go_simp; try with_reducible rfl)
          case tr78 =>
          simp only [Act.put, List.setIfInBounds_toArray, List.set_cons_succ, List.set_cons_zero]
          refine wpAnyH_done (by kernel_rfl) ?_ _
          have EZ := hid (E8.out.ext ((HCC.out _).1 hS0))
          clear hS0 hCA hCx HCC hx0
          go_wp2
          go_ret
          exact ⟨rfl, EZ.out⟩
        | some m =>
          obtain ⟨hmk, y, hy, hd, hb⟩ := HFS.out m rfl
          rw [Option.bind_some, hy] at hfirst
          have hdr : difR 0 rs qs = (true, y) := by unfold difR; rw [if_pos rfl, hfirst]
          have hdb : DB = true := by rw [← HDB.out, hdr]
          subst hdb
          obtain ⟨x, hxm⟩ : ∃ x, xs[m]? = some x := ⟨xs[m]'(by omega), by simp⟩
          have hxy : x.p = y := by
            have h9 := hy
            rw [← HPX.out, List.getElem?_map, hxm] at h9
            injection h9
          have hap : a.p = x.p := by rw [HAP.out, hdr, hxy]
          have HAPZ := hid hap
          have hneg : decide ((0 : Int) ≤ foI (some m)) = true := decide_eq_true (by show (0 : Int) ≤ (m : Int); omega)
          obtain ⟨A, rfl, hca⟩ := (AOK.out.ext E2.out).at hxm
          have HCA := hid hca
          have HXO := hid ((AOK.out.ext E2.out).ok x (List.mem_of_getElem? hxm))
          have HXL := hid (AskR.len HXO.out)
          have hal := HAL.out
          have hxl := HXL.out
          rw [show foI (some m) = (m : Int) from rfl] at hneg ⊢
          clear hdr hap HDB HAP HSB HFN HFS hfirst hca hxm hxy hy hd hb
          go_upto_region 32 with (fail)
          obtain ⟨C, hC⟩ : ∃ C : World → Prop, C = fun w' => Ext wr w' := ⟨_, rfl⟩
          have hC0 : ∀ w', C w' ↔ Ext wr w' := fun w' => by rw [hC]
          clear hC
          have HCC := hid hC0
          clear hC0
          have hCx : ∀ w w', C w → Ext w w' → C w' := fun w w' h1 h2 => (HCC.out w').2 (((HCC.out w).1 h1).ext h2)
          have hCA : C wr := (HCC.out _).2 (Ext.refl wr)
          refine wp_region_held_drew (S := C) (by kernel_rfl) (hCx _ _ hCA (Ext.refl _).drew) (fun hS0 => ?_)
          refine held_take 0 (v := ?tv79) rfl (by kernel_rfl) (by kernel_rfl) (by kernel_rfl) (fun _ _ _ h => h) (.inl ⟨rfl, ?ty79⟩) hS0 ?tr79
          case ty79 => (intro _ _; go_simp; try with_reducible rfl)
          case tr79 =>
          simp only [Act.put, List.setIfInBounds_toArray, List.set_cons_succ, List.set_cons_zero]
          refine held_take 1 (v := ?tv80) rfl (by kernel_rfl) (by kernel_rfl) (by kernel_rfl) (fun _ _ _ h => h) (.inl ⟨rfl, ?ty80⟩) hS0 ?tr80
          case ty80 => (intro _ _; go_simp; try with_reducible rfl)
          case tr80 =>
          simp only [Act.put, List.setIfInBounds_toArray, List.set_cons_succ, List.set_cons_zero]
          refine held_take 2 (v := ?tv81) rfl (by kernel_rfl) (by kernel_rfl) (by kernel_rfl) (fun _ _ _ h => h) (.inl ⟨rfl, ?ty81⟩) hS0 ?tr81
          case ty81 => (intro _ _; go_simp; try with_reducible rfl)
          case tr81 =>
          simp only [Act.put, List.setIfInBounds_toArray, List.set_cons_succ, List.set_cons_zero]
          refine held_take 3 (v := undef) rfl (by kernel_rfl) (by kernel_rfl) (by kernel_rfl) (fun _ _ _ h => h) (.inr ⟨rfl, rfl⟩) hS0 ?_
          simp only [Act.put, List.setIfInBounds_toArray, List.set_cons_succ, List.set_cons_zero]
          refine held_take 4 (v := undef) rfl (by kernel_rfl) (by kernel_rfl) (by kernel_rfl) (fun _ _ _ h => h) (.inr ⟨rfl, rfl⟩) hS0 ?_
          simp only [Act.put, List.setIfInBounds_toArray, List.set_cons_succ, List.set_cons_zero]
          refine held_take 5 (v := undef) rfl (by kernel_rfl) (by kernel_rfl) (by kernel_rfl) (fun _ _ _ h => h) (.inr ⟨rfl, rfl⟩) hS0 ?_
          simp only [Act.put, List.setIfInBounds_toArray, List.set_cons_succ, List.set_cons_zero]
          refine held_take 6 (v := ?tv82) rfl (by kernel_rfl) (by kernel_rfl) (by kernel_rfl) (fun _ _ _ h => h) (.inl ⟨rfl, ?ty82⟩) hS0 ?tr82
          case ty82 => (intro _ _; go_simp; try with_reducible rfl)
          case tr82 =>
          simp only [Act.put, List.setIfInBounds_toArray, List.set_cons_succ, List.set_cons_zero]
          refine held_take 7 (v := ?tv83) rfl (by kernel_rfl) (by kernel_rfl) (by kernel_rfl) (fun _ _ _ h => h) (.inl ⟨rfl, ?ty83⟩) hS0 ?tr83
          case ty83 => (intro _ _; go_simp; try with_reducible rfl)
          case tr83 =>
          simp only [Act.put, List.setIfInBounds_toArray, List.set_cons_succ, List.set_cons_zero]
          refine held_take 8 (v := ?tv84) rfl (by kernel_rfl) (by kernel_rfl) (by kernel_rfl) (fun _ _ _ h => h) (.inl ⟨rfl, ?ty84⟩) hS0 ?tr84
          case ty84 => (intro _ _; go_simp; try with_reducible rfl)
          case tr84 =>
          simp only [Act.put, List.setIfInBounds_toArray, List.set_cons_succ, List.set_cons_zero]
          refine held_take 9 (v := ?tv85) rfl (by kernel_rfl) (by kernel_rfl) (by kernel_rfl) (fun _ _ _ h => h) (.inl ⟨rfl, ?ty85⟩) hS0 ?tr85
          case ty85 => (intro _ _; go_simp; try with_reducible rfl)
          case tr85 =>
          simp only [Act.put, List.setIfInBounds_toArray, List.set_cons_succ, List.set_cons_zero]
          refine held_take 10 (v := _) rfl (by kernel_rfl) (by kernel_rfl) (by kernel_rfl) (fun _ _ _ h => h) (yieldsI_loadw rfl 40 _ rfl rfl (fun w1 h => A8.out.ext ((HCC.out w1).1 h)) HAG.out hal) hS0 ?_
          simp only [Act.put, List.setIfInBounds_toArray, List.set_cons_succ, List.set_cons_zero]
          refine held_take 11 (v := ?tv86) rfl (by kernel_rfl) (by kernel_rfl) (by kernel_rfl) (fun _ _ _ h => h) (.inl ⟨rfl, ?ty86⟩) hS0 ?tr86
          case ty86 => (intro _ _; go_simp; try with_reducible rfl)
          case tr86 =>
          simp only [Act.put, List.setIfInBounds_toArray, List.set_cons_succ, List.set_cons_zero]
          refine held_take 12 (v := ?tv87) rfl (by kernel_rfl) (by kernel_rfl) (by kernel_rfl) (fun _ _ _ h => h) (.inl ⟨rfl, ?ty87⟩) hS0 ?tr87
          case ty87 => (intro _ _; go_simp; try with_reducible rfl)
          case tr87 =>
          simp only [Act.put, List.setIfInBounds_toArray, List.set_cons_succ, List.set_cons_zero]
          refine held_take 13 (v := _) rfl (by kernel_rfl) (by kernel_rfl) (by kernel_rfl) (fun _ _ _ h => h) (yieldsI_run rfl (fun w1 _ => exec_index (i := m) rfl rfl rfl Tryz.underlying26 size_ask hmk w1)) hS0 ?_
          simp only [Act.put, List.setIfInBounds_toArray, List.set_cons_succ, List.set_cons_zero]
          refine held_take 14 (v := _) rfl (by kernel_rfl) (by kernel_rfl) (by kernel_rfl) (fun _ _ _ h => h) (yieldsI_run rfl (fun w1 h => exec_load_at rfl rfl (HCA.out.ext ((HCC.out w1).1 h)) HAG.out hxl)) hS0 ?_
          simp only [Act.put, List.setIfInBounds_toArray, List.set_cons_succ, List.set_cons_zero]
          have hx0 := (HCC.out _).1 hS0
          refine held_one (i := 15) (by kernel_rfl) rfl ?_
          intro Q' hQ
          go_wp2_with fail
          refine ((sameAsk_c a x _ (HA8.out.ext hx0) (HXO.out.ext hx0) HAPZ.out)).mono ?_
          rintro e wz ⟨rfl, eq9⟩
          have hS9 := hCx _ _ hS0 eq9
          go_wp2_with fail
          refine hQ _ _ hS9 ?_
          clear hQ Q' hS0 eq9
          have hS0 := hS9
          clear hS9
          try dsimp only
          try simp only [Act.put, List.setIfInBounds_toArray, List.set_cons_succ, List.set_cons_zero]
          refine held_take 16 (v := ?tv88) rfl (by kernel_rfl) (by kernel_rfl) (by kernel_rfl) (fun _ _ _ h => h) (.inl ⟨rfl, ?ty88⟩) hS0 ?tr88
          case ty88 => (intro _ _; go_simp; try with_reducible rfl)
          case tr88 =>
          simp only [Act.put, List.setIfInBounds_toArray, List.set_cons_succ, List.set_cons_zero]
          refine held_take 17 (v := ?tv89) rfl (by kernel_rfl) (by kernel_rfl) (by kernel_rfl) (fun _ _ _ h => h) (.inl ⟨rfl, ?ty89⟩) hS0 ?tr89
          case ty89 => (intro _ _; go_simp; try with_reducible rfl)
          case tr89 =>
          simp only [Act.put, List.setIfInBounds_toArray, List.set_cons_succ, List.set_cons_zero]
          refine held_take 18 (v := ?tv90) rfl (by kernel_rfl) (by kernel_rfl) (by kernel_rfl) (fun _ _ _ h => h) (.inl ⟨rfl, ?ty90⟩) hS0 ?tr90
          case ty90 => (intro _ _; go_simp; try with_reducible rfl)
          case tr90 =>
          simp only [Act.put, List.setIfInBounds_toArray, List.set_cons_succ, List.set_cons_zero]
          refine wpAnyH_done (by kernel_rfl) ?_ _
          have EZ := hid (E8.out.ext ((HCC.out _).1 hS0))
          clear hS0 hCA hCx HCC hx0
          go_wp2
          go_ret
          exact ⟨rfl, EZ.out⟩
  · have hdr : difR E rs qs = (false, zeroP) := by unfold difR; rw [if_neg h0]
    have hdb : DB = false := by rw [← HDB.out, hdr]
    subst hdb
    have hsb : SB = false := by rw [← HSB.out]; unfold strR; rw [if_neg h0]
    subst hsb
    have hap : a.p = zeroA.p := by rw [HAP.out, hdr]; rfl
    have HAPZ := hid hap
    have d0 : decide (E = 0) = false := decide_eq_false h0
    have q0 : (E == 0) = false := by simpa using h0
    clear hdr hap HDB HAP HSB HXS
    go_wp2_with (first | (refine wpg_loadw rfl 40 (.tmp 5) rfl rfl A7.out HAG.out HAL.out ?_) | (refine wpg_run rfl (exec_ask0 rfl _) ?_))
    refine (sameAsk_c a zeroA wc HA7.out (zeroA_ok _) HAPZ.out).mono ?_
    rintro e wz ⟨rfl, ez⟩
    have EZ := hid (E7.out.ext ez)
    clear ez
    go_wp2_with fail
    go_ret
    exact ⟨rfl, EZ.out⟩
end

section
open Go Go.RowKit

set_option maxRecDepth 100000 in
set_option maxHeartbeats 4000000 in
theorem otherwise_c (pa : Option Addr) (pn pc : Nat) (rs : List RuleR) (qa : Option Addr) (qn qc : Nat) (qs : List RuleR) (x : AskR) (T : Nat) (w : World) (hp : PolOk w pa pn pc rs) (hq : PolOk w qa qn qc qs) (hx : x.Ok w) (hz1 : ∀ r ∈ rs, ruleE r = 0) (hz2 : ∀ r ∈ qs, ruleE r = 0) (hT : x.time = (T : Int)) (hTb : T ≤ 1099511627776) :
    Calls Tryz.prog 46 #[.agg #[.slice pa pn pc], .agg #[.slice qa qn qc], .agg x.v.toArray] w fun e w' => e = .returned (.bool (difP rs qs x.p)) ∧ Ext w w' := by
  have HP := hid hp
  have HQ := hid hq
  have HXO := hid hx
  have HZ1 := hid hz1
  have HZ2 := hid hz2
  have HT := hid hT
  have HXL := hid (AskR.len hx)
  have HAG := hid agg_ask
  clear hp hq hx hz1 hz2 hT
  go_enter Tryz.func46, Tryz.ntmps46
  go_upto_region 1 with (fail)
  generalize hwA : World.alloc (World.alloc (World.alloc w _) _) _ = wB
  have bB : Blk wB w.heap.size [.slice pa pn pc] 24 := by rw [← hwA]; exact ((Blk.mk_alloc rfl rfl).alloc _).alloc _
  have bD : Blk wB (w.heap.size + 1) [.slice qa qn qc] 24 := by rw [← hwA]; exact (Blk.mk_alloc (size_allocW _ _).symm rfl).alloc _
  have bX : Blk wB (w.heap.size + 2) x.v 40 := by rw [← hwA]; exact Blk.mk_alloc (by rw [size_allocW, size_allocW]) rfl
  have eB : Ext w wB := by rw [← hwA]; exact (((Ext.refl w).alloc _).alloc _).alloc _
  have BB := hid bB
  have DB' := hid bD
  have BX := hid bX
  have EB := hid eB
  clear hwA bB bD bX eB
  have PB := hid (HP.out.ext EB.out)
  have QB := hid (HQ.out.ext EB.out)
  have HXB := hid (HXO.out.ext EB.out)
  have hD1 := hid (fun W (h : Ext wB W) => rdecideT_c pa pn pc rs x T W (PB.out.ext h) (HXB.out.ext h) HZ1.out HT.out hTb)
  have hD2 := hid (fun W (h : Ext wB W) => rdecideT_c qa qn qc qs x T W (QB.out.ext h) (HXB.out.ext h) HZ2.out HT.out hTb)
  obtain ⟨d1, hd1⟩ : ∃ d, decideD x rs = d := ⟨_, rfl⟩
  obtain ⟨d2, hd2⟩ : ∃ d, decideD x qs = d := ⟨_, rfl⟩
  have HDIF := hid (difP_eq rs qs x d1 d2 hd1 hd2)
  rw [hd1] at hD1
  rw [hd2] at hD2
  have hlv := HXL.out
  clear hd1 hd2
  obtain ⟨C, hC⟩ : ∃ C : World → Prop, C = fun w' => Ext wB w' := ⟨_, rfl⟩
  have hC0 : ∀ w', C w' ↔ Ext wB w' := fun w' => by rw [hC]
  clear hC
  have HCC := hid hC0
  clear hC0
  have hCx : ∀ w w', C w → Ext w w' → C w' := fun w w' h1 h2 => (HCC.out w').2 (((HCC.out w).1 h1).ext h2)
  refine wp_region_al (C := C) 8 [(6, zeroDec.v, 52), (7, zeroDec.v, 52)] wB.heap.size (by kernel_rfl) (by kernel_rfl) (by kernel_rfl)
    ((HCC.out _).2 (Ext.refl wB).drew) (fun w o h => hCx _ _ h ((Ext.refl w).alloc o)) (fun w h => ((HCC.out w).1 h).size) ?_ ?_
  · intro x hx
    simp only [List.mem_cons, List.not_mem_nil, or_false] at hx
    rcases hx with rfl | rfl
    · exact ⟨_, rfl, rfl, fun _ _ => by rfl⟩
    · exact ⟨_, rfl, rfl, fun _ _ => by rfl⟩
  simp only [List.take_succ_cons, List.take_zero, List.drop_succ_cons, List.drop_zero]
  refine wpQE_do rfl rfl _ (yieldsE_loadw _ _ rfl rfl (fun w1 h => BB.out.ext ((HCC.out w1).1 h)) agg_polW rfl) ?_
  simp only [Act.put, List.setIfInBounds_toArray, List.set_cons_succ, List.set_cons_zero]
  refine wpQE_do rfl rfl _ (yieldsE_loadw _ _ rfl rfl (fun w1 h => BX.out.ext ((HCC.out w1).1 h)) HAG.out hlv) ?_
  simp only [Act.put, List.setIfInBounds_toArray, List.set_cons_succ, List.set_cons_zero]
  refine wpQE_do rfl rfl _ (yieldsE_call rfl Tryz.call15 (by simp [Act.eval]) (fun w h => hD1.out w ((HCC.out w).1 h)) hCx) ?_
  simp only [Act.put, List.setIfInBounds_toArray, List.set_cons_succ, List.set_cons_zero]
  refine wpQE_do rfl rfl _ (yieldsE_loadw _ _ rfl rfl (fun w1 h => DB'.out.ext ((HCC.out w1).1 h)) agg_polW rfl) ?_
  simp only [Act.put, List.setIfInBounds_toArray, List.set_cons_succ, List.set_cons_zero]
  refine wpQE_do rfl rfl _ (yieldsE_loadw _ _ rfl rfl (fun w1 h => BX.out.ext ((HCC.out w1).1 h)) HAG.out hlv) ?_
  simp only [Act.put, List.setIfInBounds_toArray, List.set_cons_succ, List.set_cons_zero]
  refine wpQE_do rfl rfl _ (yieldsE_call rfl Tryz.call15 (by simp [Act.eval]) (fun w h => hD2.out w ((HCC.out w).1 h)) hCx) ?_
  simp only [Act.put, List.setIfInBounds_toArray, List.set_cons_succ, List.set_cons_zero]
  refine wpQE_al rfl ?_
  refine wpQE_al rfl ?_
  refine wpQE_nil ?_
  intro gs w2 hw2 hbl hdis
  have hb6 := hbl _ (List.mem_cons_self)
  have hb7 := hbl _ (List.mem_cons_of_mem _ List.mem_cons_self)
  have hne := hdis _ (List.mem_cons_self) _ (List.mem_cons_of_mem _ List.mem_cons_self) (by simp)
  simp only at hb6 hb7 hne
  simp only [putAl, dstOf, ptrOf, Act.put, List.getElem?_toArray, List.getElem?_cons_succ, List.getElem?_cons_zero, Option.bind_some, List.setIfInBounds_toArray, List.set_cons_succ, List.set_cons_zero]
  generalize gs 6 = gk at *
  generalize gs 7 = gv at *
  have e2 := (HCC.out w2).1 hw2
  have hgw1 : wB.heap.size ≤ gk := hb6.2
  have hgw2 : wB.heap.size ≤ gv := hb7.2
  have K2 := hid hb6.1
  have V2 := hid hb7.1
  have E2B := hid e2
  clear hbl hdis hCx HCC hw2 hb6 hb7 e2 C
  refine wpl_storew rfl _ _ _ rfl rfl rfl K2.out agg_dec rfl (DecR.len d1) (decV_one d1) ?_
  intro w3 b3 u3
  have E3B := hid (u3.ext E2B.out hgw1)
  have V3 := hid (V2.out.upd u3 (by omega))
  have K3 := hid b3
  clear b3 u3 K2 V2 E2B
  refine wpl_storew rfl _ _ _ rfl rfl rfl V3.out agg_dec rfl (DecR.len d2) (decV_one d2) ?_
  intro w4 b4 u4
  have E4B := hid (u4.ext E3B.out hgw2)
  have K4 := hid (K3.out.upd u4 (by omega))
  have V4 := hid b4
  clear b4 u4 E3B V3 K3
  refine wpList_nil ?_
  have k0 := K4.out.cell' (i := 0) rfl
  have k2 := K4.out.cell' (i := 2) rfl
  have k3 := K4.out.cell' (i := 3) rfl
  have v0 := V4.out.cell' (i := 0) rfl
  have v2 := V4.out.cell' (i := 2) rfl
  have v3 := V4.out.cell' (i := 3) rfl
  have EW := hid (EB.out.ext E4B.out)
  go_upto_region 2 with (fail)
  cases h1 : (d1.al == d2.al) with
  | false =>
    have n1 : (d1.al != d2.al) = true := by unfold bne; rw [h1]; rfl
    have hv : difP rs qs x.p = true := by rw [HDIF.out]; unfold sameD; rw [h1]; rfl
    have HV := hid hv
    clear hv HDIF
    go_wp2
    go_ret
    exact ⟨by rw [HV.out]; first | rfl | simp_all, EW.out⟩
  | true =>
    have n1 : (d1.al != d2.al) = false := by unfold bne; rw [h1]; rfl
    cases h2 : (d1.nd == d2.nd) with
    | false =>
      have n2 : (d1.nd != d2.nd) = true := by unfold bne; rw [h2]; rfl
      have hv : difP rs qs x.p = true := by rw [HDIF.out]; unfold sameD; rw [h1, h2]; rfl
      have HV := hid hv
      clear hv HDIF
      go_wp2
      go_ret
      exact ⟨by rw [HV.out]; first | rfl | simp_all, EW.out⟩
    | true =>
      have n2 : (d1.nd != d2.nd) = false := by unfold bne; rw [h2]; rfl
      cases h3 : (d1.ow.toList == d2.ow.toList) with
      | false =>
        have n3 : (d1.ow.toList != d2.ow.toList) = true := by unfold bne; rw [h3]; rfl
        have hv : difP rs qs x.p = true := by rw [HDIF.out]; unfold sameD; rw [h1, h2, h3]; rfl
        have HV := hid hv
        clear hv HDIF
        go_wp2
        go_ret
        exact ⟨by rw [HV.out]; first | rfl | simp_all, EW.out⟩
      | true =>
        have n3 : (d1.ow.toList != d2.ow.toList) = false := by unfold bne; rw [h3]; rfl
        have hv : difP rs qs x.p = false := by rw [HDIF.out]; unfold sameD; rw [h1, h2, h3]; rfl
        have HV := hid hv
        clear hv HDIF
        go_wp2
        go_ret
        exact ⟨by rw [HV.out]; first | rfl | simp_all, EW.out⟩
end
end Go.Proofs.YthfddfgncolnbaaGreat
