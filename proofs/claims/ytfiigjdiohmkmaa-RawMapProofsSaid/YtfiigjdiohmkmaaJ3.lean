/- Contracts and laws that the claim's row leans on (12 texts, joined): lead: the root to which a path leads; conditions: place, size, the rows' lengths. sides: on which side each sum of a path stands; conditions: place and size. RootBy: the root to which a proof leads, of any proof; conditions: the rows' lengths. Worlds in which one block has turned; no condition. The reference's RootBy, of any proof; conditions: the rows' lengths. Proved, of any proof; conditions: the rows' lengths. Moves for regions whose order is drawn, where late operations need not keep what the early ones read; no condition. How many sums a proof of growth has; the ends of functions with two or three results; conditions: the sizes. follow: the two roots that follow from a proof of growth; conditions: the sizes, the rows' lengths. The reference's grow: what it computes of any path; conditions: the sizes, the rows' lengths. Grown, of any proof; conditions: the rows' lengths. The reference's Grown, of any proof; conditions: the rows' lengths. -/
import Derived.Test.YtfiigjdiohmkmaaJ2
import Derived.IntWalk
namespace Go.Proofs.Ytfiigjdiohmkmaa
section
open Go Go.RowKit

theorem size_apisum : (Try.prog.info? 36).map (·.size) = some 32 := by kernel_rfl

set_option maxRecDepth 100000 in
set_option maxHeartbeats 1000000 in
theorem lead_c : ∀ (n i : Nat) (x : List UInt8) (ls : List (List UInt8)) (m c : Nat) (a : Option Addr) (w : World), i < n → n ≤ 65536 → x.length = 32 → All32 ls → ls.length = m → m = (sidesL i n).length → m ≤ c → Cells w a (rows ls) →
    Calls Try.prog 52 #[.agg (x.map u8v).toArray, .int .i64 (i : Int), .int .i64 (n : Int), .slice a m c] w fun e w' => e = .returned (.agg ((leadS nodeL x (sidesL i n) ls).map u8v).toArray) ∧ Ext w w' := by
  intro n
  induction n using Nat.strongRecOn with
  | ind n ih =>
  intro i x ls m c a w h1 h2 hx h32 hm hml hmc hcl
  have HIH := hid ih
  have HX : Hid ((x.map u8v).length = 32) := hid (by rw [List.length_map, hx])
  have HX0 := hid hx
  have o0 := one_u8 x
  clear ih
  by_cases hn : n = 1
  · subst hn
    have hv : leadS nodeL x (sidesL i 1) ls = x := by rw [sidesL_one _ _ (by omega), leadS_nil]
    rw [hv]
    clear hv hml hm hcl h32 hmc hx
    generalize x.map u8v = xv at *
    go_enter Try.func52, Try.ntmps52
    go_wp2_with (first | (refine wpl_loadw rfl _ _ rfl rfl ((Blk.mk_alloc rfl rfl).alloc _) agg_apisum HX.out ?_) | (refine wpl_storew rfl _ _ _ rfl rfl rfl (Blk.mk_alloc (vs := List.replicate 32 (.int .u8 0)) (by simp) rfl) agg_apisum (by simp) HX.out o0 ?_))
    intro w5 b5 u5
    go_wp2
    refine ret_row rfl rfl b5 agg_apisum HX.out rfl ⟨rfl, u5.ext (((Ext.refl w).alloc _).alloc _) (by simp <;> omega)⟩
  · have hsp := splitN_spec (n := n) (by omega)
    have hc := hid (fun w => split_c n w (by omega) (by omega))
    obtain ⟨V, hV⟩ : ∃ V, leadS nodeL x (sidesL i n) ls = V := ⟨_, rfl⟩
    have hlen : 0 < (sidesL i n).length := by
      by_cases hik : i < splitN n
      · rw [sidesL_left (by omega) hik]; simp
      · rw [sidesL_right (by omega) hik]; simp
    obtain ⟨rest, last, rfl⟩ : ∃ rest last, ls = rest ++ [last] := by
      have hne : ls ≠ [] := by intro h; rw [h] at hm; simp at hm; omega
      exact ⟨ls.dropLast, ls.getLast hne, (List.dropLast_concat_getLast hne).symm⟩
    obtain ⟨r, rfl⟩ : ∃ r, m = r + 1 := ⟨m - 1, by omega⟩
    have hr : rest.length = r := by simpa using hm
    have hlast : (rest ++ [last])[r]? = some last := by rw [← hr]; simp
    have hr32 : All32 rest := fun l hl => h32 l (by simp [hl])
    have hl32 : last.length = 32 := h32 last (by simp)
    obtain ⟨A, hA, hca⟩ : ∃ A, a = some A ∧ CellsAt w (A.add (r * 32)) (last.map u8v) := by
      cases a with
      | none => rcases hcl with h | ⟨_, _, h, _⟩
                · have := rows_length h32; rw [h] at this; simp at this
                · cases h
      | some A => exact ⟨A, rfl, hcl.rowAt h32 hlast⟩
    subst hA
    have hcr : Cells w (some A) (rows rest) := by
      have := hcl.rowsTake h32 r
      rwa [← hr, List.take_left' rfl] at this
    rw [hV]
    have HV := hid hV
    have HR := hid hr
    have HR32 := hid hr32
    have HL : Hid ((last.map u8v).length = 32) := hid (by rw [List.length_map, hl32])
    have HL32 := hid hl32
    have o1 := one_u8 last
    have HCA := hid hca
    have HCR := hid hcr
    have HML := hid hml
    have hrc : r ≤ c := by omega
    have hrb : r < 65536 := by have := sidesL_le i n; omega
    clear hV hr hr32 hl32 hca hcr hml hm h32 hcl hlast hlen hx
    obtain ⟨k, hk⟩ : ∃ k, splitN n = k := ⟨_, rfl⟩
    have HK := hid hk
    rw [hk] at hsp hc
    clear hk
    obtain ⟨k1, k2, k3⟩ := hsp
    go_enter Try.func52, Try.ntmps52
    go_wp2_with (go_at_call 73; refine (hc.out _).mono ?_; rintro e w' ⟨rfl, rfl⟩)
    generalize hwA : World.alloc (World.alloc w _) _ = wA
    have xA : Blk wA w.heap.size (x.map u8v) 36 := by rw [← hwA]; exact (Blk.mk_alloc rfl rfl).alloc _
    have zA : Blk wA (w.heap.size + 1) (List.replicate 32 (.int .u8 0)) 36 := by rw [← hwA]; exact Blk.mk_alloc (by simp) rfl
    have eA : Ext w wA := by rw [← hwA]; exact ((Ext.refl w).alloc _).alloc _
    have hwl : w.heap.size ≤ wA.heap.size := eA.size
    clear hwA
    have XA := hid xA
    have ZA := hid zA
    have hzl : w.heap.size + 1 < wA.heap.size := zA.lt
    have EA := hid eA
    clear xA zA eA
    obtain ⟨C, hC⟩ : ∃ C : World → Prop, C = Cls w wA [w.heap.size] [(w.heap.size + 1, 32, 36)] := ⟨_, rfl⟩
    have hC0 : ∀ w', C w' ↔ Cls w wA [w.heap.size] [(w.heap.size + 1, 32, 36)] w' := fun w' => by rw [hC]
    clear hC
    have HCC := hid hC0
    clear hC0
    have hCx : ∀ w w', C w → Ext w w' → C w' := fun w w' h1 h2 => (HCC.out w').2 (((HCC.out w).1 h1).ext h2)
    have hCA : C wA := (HCC.out _).2 (Cls.one_room EA.out (Kept.one XA.out.lt) ZA.out (by simp))
    have hca : ∀ w1, C w1 → CellsAt w1 (A.add (r * 32)) (last.map u8v) := fun w1 h1 => HCA.out.ext ((HCC.out w1).1 h1).base
    have hwr : IntKind.i64.wrap (r : Int) = (r : Int) := IntWalk.i64_in _ (by omega)
    refine wp_region_held_drew (S := C) (by kernel_rfl) (hCx _ _ hCA (Ext.refl _).drew) (fun hS0 => ?_)
    refine held_take 0 (v := ?tv1) rfl (by kernel_rfl) (by kernel_rfl) (by kernel_rfl) (fun _ _ _ h => h) (.inl ⟨rfl, ?ty1⟩) hS0 ?tr1
    case ty1 => (intro _ _; go_simp; try with_reducible rfl)
    case tr1 =>
    simp only [Act.put, List.setIfInBounds_toArray, List.set_cons_succ, List.set_cons_zero]
    refine held_take 1 (v := ?tv2) rfl (by kernel_rfl) (by kernel_rfl) (by kernel_rfl) (fun _ _ _ h => h) (.inl ⟨rfl, ?ty2⟩) hS0 ?tr2
    case ty2 => (intro _ _; go_simp; try with_reducible rfl)
    case tr2 =>
    simp only [Act.put, List.setIfInBounds_toArray, List.set_cons_succ, List.set_cons_zero]
    refine held_take 2 (v := ?tv3) rfl (by kernel_rfl) (by kernel_rfl) (by kernel_rfl) (fun _ _ _ h => h) (.inl ⟨rfl, ?ty3⟩) hS0 ?tr3
    case ty3 => (intro _ _; go_simp; try with_reducible rfl)
    case tr3 =>
    simp only [Act.put, List.setIfInBounds_toArray, List.set_cons_succ, List.set_cons_zero]
    refine held_take 3 (v := ?tv4) rfl (by kernel_rfl) (by kernel_rfl) (by kernel_rfl) (fun _ _ _ h => h) (.inl ⟨rfl, ?ty4⟩) hS0 ?tr4
    case ty4 => (intro _ _; go_simp; try with_reducible rfl)
    case tr4 =>
    simp only [Act.put, List.setIfInBounds_toArray, List.set_cons_succ, List.set_cons_zero]
    refine held_take 4 (v := _) rfl (by kernel_rfl) (by kernel_rfl) (by kernel_rfl) (fun _ _ _ h => h) (yieldsI_run rfl (fun w1 _ => exec_index (i := r) rfl rfl rfl Try.underlying22 size_apisum (by omega) w1)) hS0 ?_
    simp only [Act.put, List.setIfInBounds_toArray, List.set_cons_succ, List.set_cons_zero]
    refine held_take 5 (v := _) rfl (by kernel_rfl) (by kernel_rfl) (by kernel_rfl) (fun _ _ _ h => h) (yieldsI_run rfl (fun w1 h => exec_load_at rfl rfl (hca w1 h) agg_apisum HL.out)) hS0 ?_
    simp only [Act.put, List.setIfInBounds_toArray, List.set_cons_succ, List.set_cons_zero]
    refine held_take 6 (v := ?tv5) rfl (by kernel_rfl) (by kernel_rfl) (by kernel_rfl) (fun _ _ _ h => h) (.inl ⟨rfl, ?ty5⟩) hS0 ?tr5
    case ty5 => (intro _ _; go_simp; try with_reducible rfl)
    case tr5 =>
    simp only [Act.put, List.setIfInBounds_toArray, List.set_cons_succ, List.set_cons_zero]
    refine held_take 7 (v := ?tv6) rfl (by kernel_rfl) (by kernel_rfl) (by kernel_rfl) (fun _ _ _ h => h) (.inl ⟨rfl, ?ty6⟩) hS0 ?tr6
    case ty6 => (intro _ _; go_simp; try with_reducible rfl)
    case tr6 =>
    simp only [Act.put, List.setIfInBounds_toArray, List.set_cons_succ, List.set_cons_zero]
    refine held_take 8 (v := ?tv7) rfl (by kernel_rfl) (by kernel_rfl) (by kernel_rfl) (fun _ _ _ h => h) (.inl ⟨rfl, ?ty7⟩) hS0 ?tr7
    case ty7 => (intro _ _; go_simp; try with_reducible rfl)
    case tr7 =>
    simp only [Act.put, List.setIfInBounds_toArray, List.set_cons_succ, List.set_cons_zero]
    refine held_take 9 (v := ?tv8) rfl (by kernel_rfl) (by kernel_rfl) (by kernel_rfl) (fun _ _ _ h => h) (.inl ⟨rfl, ?ty8⟩) hS0 ?tr8
    case ty8 => (intro _ _; go_simp; try with_reducible rfl)
    case tr8 =>
    simp only [Act.put, List.setIfInBounds_toArray, List.set_cons_succ, List.set_cons_zero]
    refine held_take 10 (v := _) rfl (by kernel_rfl) (by kernel_rfl) (by kernel_rfl) (fun _ _ _ h => h) (yieldsI_run rfl (fun w1 _ => exec_high (k := r) rfl rfl rfl Try.underlying22 size_apisum (by omega) w1)) hS0 ?_
    simp only [Act.put, List.setIfInBounds_toArray, List.set_cons_succ, List.set_cons_zero]
    clear hwr
    generalize wA.drew = wD at *
    have hwd : wA.heap.size ≤ wD.heap.size := ((HCC.out wD).1 hS0).kept.1
    refine held_one (i := 11) (by kernel_rfl) rfl ?_
    intro Q' hQ
    go_wp2_with fail
    refine hQ _ _ (hCx _ _ hS0 ((Ext.refl _).alloc _)) ?_
    clear hQ Q'
    generalize hwE : wD.alloc _ = wE
    have bE : Blk wE wD.heap.size (List.replicate 32 (.int .u8 0)) 36 := by rw [← hwE]; exact Blk.mk_alloc rfl rfl
    have hCE : C wE := by rw [← hwE]; exact hCx _ _ hS0 ((Ext.refl _).alloc _)
    clear hwE hS0
    have BE := hid bE
    have HCE := hid hCE
    clear bE hCE
    generalize wD.heap.size = gl at *
    try dsimp only
    try simp only [Act.put, List.setIfInBounds_toArray, List.set_cons_succ, List.set_cons_zero]
    refine held_one (i := 12) (by kernel_rfl) rfl ?_
    intro Q' hQ
    go_wp2_with (refine wpl_storew rfl _ _ _ rfl rfl rfl BE.out agg_apisum (by simp) HL.out o1 ?_)
    intro wF bF uF
    have hCF : C wF := (HCC.out wF).2 (((HCC.out wE).1 HCE.out).upd uF hwd hwl)
    go_wp2_with fail
    refine hQ _ _ hCF ?_
    clear hQ Q' uF BE HCE
    try dsimp only
    try simp only [Act.put, List.setIfInBounds_toArray, List.set_cons_succ, List.set_cons_zero]
    refine held_one (i := 13) (by kernel_rfl) rfl ?_
    intro Q' hQ
    go_wp2_with fail
    refine hQ _ _ hCF ?_
    clear hQ Q'
    refine wpAnyH_done (by kernel_rfl) ?_ _
    have XF := hid (((HCC.out wF).1 hCF).blk XA.out (by simp))
    have EF := hid ((HCC.out wF).1 hCF).base
    obtain ⟨vz, hvz, zF⟩ := ((HCC.out wF).1 hCF).at_room (r := w.heap.size + 1) (n := 32) (T := 36) (by simp)
    have ZF := hid zF
    have HVZ := hid hvz
    have BF := hid bF
    have hgl : gl < wF.heap.size := bF.lt
    have hwf : w.heap.size ≤ wF.heap.size := EF.out.size
    clear hCF zF hvz bF HCC hCx hCA hca XA ZA EA hwl
    clear HCA
    by_cases hik : i < k
    · have hlead := HIH.out k k2 i x rest r c (some A)
      have hml := HML.out
      have hv := HV.out
      rw [← HK.out] at hik hlead
      rw [sidesL_left (by omega) hik, List.length_append] at hml
      simp only [List.length_cons, List.length_nil] at hml
      rw [sidesL_left (by omega) hik, leadS_snoc _ _ _ _ _ _ (by rw [HR.out]; omega), if_neg (by decide)] at hv
      have hlead := fun w' hc' => hlead w' hik (by rw [HK.out]; omega) HX0.out HR32.out HR.out (by omega) hrc hc'
      have hy : (leadS nodeL x (sidesL i (splitN n)) rest).length = 32 := leadS_length _ nodeL_length _ _ _ HX0.out
      rw [HK.out] at hlead hik hy hv
      generalize leadS nodeL x (sidesL i k) rest = y at *
      have HLD := hid hlead
      have HY := hid hy
      have hnode := fun w' => node_c y last w' HY.out HL32.out
      rw [hv] at hnode
      have HND := hid hnode
      have HVL : Hid ((V.map u8v).length = 32) := hid (by rw [List.length_map, ← hv, nodeL_length])
      have o2 := one_u8 V
      clear hlead hy hnode hml hv HML HV HK HIH hc
      go_wp2
      obtain ⟨C, hC⟩ : ∃ C : World → Prop, C = Cls w wF [w.heap.size, gl] [(w.heap.size + 1, 32, 36)] := ⟨_, rfl⟩
      have hC0 : ∀ w', C w' ↔ Cls w wF [w.heap.size, gl] [(w.heap.size + 1, 32, 36)] w' := fun w' => by rw [hC]
      clear hC
      have HCC := hid hC0
      clear hC0
      have hCx : ∀ w w', C w → Ext w w' → C w' := fun w w' h1 h2 => (HCC.out w').2 (((HCC.out w).1 h1).ext h2)
      have hCA : C wF := (HCC.out _).2 (Cls.one_room EF.out (Kept.two XF.out.lt BF.out.lt) ZF.out HVZ.out)
      have hs1 : ∀ w1, C w1 → Blk w1 w.heap.size (x.map u8v) 36 := fun w1 h1 => ((HCC.out w1).1 h1).blk XF.out (by simp)
      have hs2 : ∀ w1, C w1 → Blk w1 gl (last.map u8v) 36 := fun w1 h1 => ((HCC.out w1).1 h1).blk BF.out (by simp)
      refine wp_region_held_drew (S := C) (by kernel_rfl) (hCx _ _ hCA (Ext.refl _).drew) (fun hS0 => ?_)
      refine held_take 0 (v := _) rfl (by kernel_rfl) (by kernel_rfl) (by kernel_rfl) (fun _ _ _ h => h) (yieldsI_loadw rfl _ _ rfl rfl hs1 agg_apisum HX.out) hS0 ?_
      simp only [Act.put, List.setIfInBounds_toArray, List.set_cons_succ, List.set_cons_zero]
      refine held_take 1 (v := ?tv9) rfl (by kernel_rfl) (by kernel_rfl) (by kernel_rfl) (fun _ _ _ h => h) (.inl ⟨rfl, ?ty9⟩) hS0 ?tr9
      case ty9 => (intro _ _; go_simp; try with_reducible rfl)
      case tr9 =>
      simp only [Act.put, List.setIfInBounds_toArray, List.set_cons_succ, List.set_cons_zero]
      refine held_take 2 (v := ?tv10) rfl (by kernel_rfl) (by kernel_rfl) (by kernel_rfl) (fun _ _ _ h => h) (.inl ⟨rfl, ?ty10⟩) hS0 ?tr10
      case ty10 => (intro _ _; go_simp; try with_reducible rfl)
      case tr10 =>
      simp only [Act.put, List.setIfInBounds_toArray, List.set_cons_succ, List.set_cons_zero]
      refine held_take 3 (v := ?tv11) rfl (by kernel_rfl) (by kernel_rfl) (by kernel_rfl) (fun _ _ _ h => h) (.inl ⟨rfl, ?ty11⟩) hS0 ?tr11
      case ty11 => (intro _ _; go_simp; try with_reducible rfl)
      case tr11 =>
      simp only [Act.put, List.setIfInBounds_toArray, List.set_cons_succ, List.set_cons_zero]
      refine held_take 5 (v := _) rfl (by kernel_rfl) (by kernel_rfl) (by kernel_rfl) (fun _ _ _ h => h) (yieldsI_loadw rfl _ _ rfl rfl hs2 agg_apisum HL.out) hS0 ?_
      simp only [Act.put, List.setIfInBounds_toArray, List.set_cons_succ, List.set_cons_zero]
      generalize wF.drew = wG at *
      have eG : Ext w wG := ((HCC.out wG).1 hS0).base
      refine held_one (i := 4) (by kernel_rfl) rfl ?_
      intro Q' hQ
      go_wp2_with fail
      refine (HLD.out wG (HCR.out.ext eG)).mono ?_
      rintro e wH ⟨rfl, eH⟩
      have hCH := hCx _ _ hS0 eH
      go_wp2_with fail
      refine hQ _ _ hCH ?_
      clear hQ Q' hS0 eH eG HLD HCR
      try dsimp only
      try simp only [Act.put, List.setIfInBounds_toArray, List.set_cons_succ, List.set_cons_zero]
      refine held_one (i := 6) (by kernel_rfl) rfl ?_
      intro Q' hQ
      go_wp2_with fail
      refine (HND.out wH).mono ?_
      rintro e wI ⟨rfl, eI⟩
      have hCI := hCx _ _ hCH eI
      go_wp2_with fail
      refine hQ _ _ hCI ?_
      clear hQ Q' hCH eI HND hs1 hs2
      obtain ⟨vy, hvy, zI⟩ := ((HCC.out wI).1 hCI).at_room (r := w.heap.size + 1) (n := 32) (T := 36) (by simp)
      have ZI := hid zI
      have HVY := hid hvy
      have HCI := hid hCI
      clear zI hvy hCI
      try dsimp only
      try simp only [Act.put, List.setIfInBounds_toArray, List.set_cons_succ, List.set_cons_zero]
      refine held_one (i := 7) (by kernel_rfl) rfl ?_
      intro Q' hQ
      go_wp2_with (refine wpl_storew rfl _ _ _ rfl rfl rfl ZI.out agg_apisum HVY.out HVL.out o2 ?_)
      intro wJ bJ uJ
      have hCJ : C wJ := (HCC.out wJ).2 (((HCC.out wI).1 HCI.out).store uJ bJ (by simp [HVL.out]) (by omega) (by simp <;> omega))
      go_wp2_with fail
      refine hQ _ _ hCJ ?_
      clear hQ Q'
      have EJ := hid ((HCC.out wJ).1 hCJ).base
      refine wpAnyH_done (by kernel_rfl) ?_ _
      go_wp2
      refine ret_row rfl rfl bJ agg_apisum HVL.out rfl ⟨rfl, EJ.out⟩
    · have hlead := HIH.out (n - k) (by omega) (i - k) x rest r c (some A)
      have hml := HML.out
      have hv := HV.out
      rw [← HK.out] at hik hlead
      rw [sidesL_right (by omega) hik, List.length_append] at hml
      simp only [List.length_cons, List.length_nil] at hml
      rw [sidesL_right (by omega) hik, leadS_snoc _ _ _ _ _ _ (by rw [HR.out]; omega), if_pos rfl] at hv
      have hlead := fun w' hc' => hlead w' (by rw [HK.out]; omega) (by rw [HK.out]; omega) HX0.out HR32.out HR.out (by omega) hrc hc'
      have hy : (leadS nodeL x (sidesL (i - splitN n) (n - splitN n)) rest).length = 32 := leadS_length _ nodeL_length _ _ _ HX0.out
      rw [HK.out] at hlead hik hy hv
      generalize leadS nodeL x (sidesL (i - k) (n - k)) rest = y at *
      have HLD := hid hlead
      have HY := hid hy
      have hnode := fun w' => node_c last y w' HL32.out HY.out
      rw [hv] at hnode
      have HND := hid hnode
      have HVL : Hid ((V.map u8v).length = 32) := hid (by rw [List.length_map, ← hv, nodeL_length])
      have o2 := one_u8 V
      clear hlead hy hnode hml hv HML HV HK HIH hc
      have hd1 : ((i : Int) - (k : Int)) = ((i - k : Nat) : Int) := by omega
      have hd2 : ((n : Int) - (k : Int)) = ((n - k : Nat) : Int) := by omega
      have HD1 := hid hd1
      have HD2 := hid hd2
      clear hd1 hd2
      go_wp2
      have hd1 : IntKind.i64.wrap ((i : Int) - (k : Int)) = ((i - k : Nat) : Int) := by rw [IntWalk.i64_in _ (by omega)]; omega
      have hd2 : IntKind.i64.wrap ((n : Int) - (k : Int)) = ((n - k : Nat) : Int) := by rw [IntWalk.i64_in _ (by omega)]; omega
      obtain ⟨C, hC⟩ : ∃ C : World → Prop, C = Cls w wF [w.heap.size, gl] [(w.heap.size + 1, 32, 36)] := ⟨_, rfl⟩
      have hC0 : ∀ w', C w' ↔ Cls w wF [w.heap.size, gl] [(w.heap.size + 1, 32, 36)] w' := fun w' => by rw [hC]
      clear hC
      have HCC := hid hC0
      clear hC0
      have hCx : ∀ w w', C w → Ext w w' → C w' := fun w w' h1 h2 => (HCC.out w').2 (((HCC.out w).1 h1).ext h2)
      have hCA : C wF := (HCC.out _).2 (Cls.one_room EF.out (Kept.two XF.out.lt BF.out.lt) ZF.out HVZ.out)
      have hs1 : ∀ w1, C w1 → Blk w1 w.heap.size (x.map u8v) 36 := fun w1 h1 => ((HCC.out w1).1 h1).blk XF.out (by simp)
      have hs2 : ∀ w1, C w1 → Blk w1 gl (last.map u8v) 36 := fun w1 h1 => ((HCC.out w1).1 h1).blk BF.out (by simp)
      refine wp_region_held_drew (S := C) (by kernel_rfl) (hCx _ _ hCA (Ext.refl _).drew) (fun hS0 => ?_)
      refine held_take 0 (v := _) rfl (by kernel_rfl) (by kernel_rfl) (by kernel_rfl) (fun _ _ _ h => h) (yieldsI_loadw rfl _ _ rfl rfl hs2 agg_apisum HL.out) hS0 ?_
      simp only [Act.put, List.setIfInBounds_toArray, List.set_cons_succ, List.set_cons_zero]
      refine held_take 1 (v := _) rfl (by kernel_rfl) (by kernel_rfl) (by kernel_rfl) (fun _ _ _ h => h) (yieldsI_loadw rfl _ _ rfl rfl hs1 agg_apisum HX.out) hS0 ?_
      simp only [Act.put, List.setIfInBounds_toArray, List.set_cons_succ, List.set_cons_zero]
      refine held_take 2 (v := ?tv12) rfl (by kernel_rfl) (by kernel_rfl) (by kernel_rfl) (fun _ _ _ h => h) (.inl ⟨rfl, ?ty12⟩) hS0 ?tr12
      case ty12 => (intro _ _; go_simp; try with_reducible rfl)
      case tr12 =>
      simp only [Act.put, List.setIfInBounds_toArray, List.set_cons_succ, List.set_cons_zero]
      refine held_take 3 (v := ?tv13) rfl (by kernel_rfl) (by kernel_rfl) (by kernel_rfl) (fun _ _ _ h => h) (.inl ⟨rfl, ?ty13⟩) hS0 ?tr13
      case ty13 => (intro _ _; go_simp; try with_reducible rfl)
      case tr13 =>
      simp only [Act.put, List.setIfInBounds_toArray, List.set_cons_succ, List.set_cons_zero]
      refine held_take 4 (v := ?tv14) rfl (by kernel_rfl) (by kernel_rfl) (by kernel_rfl) (fun _ _ _ h => h) (.inl ⟨rfl, ?ty14⟩) hS0 ?tr14
      case ty14 => (intro _ _; go_simp; try with_reducible rfl)
      case tr14 =>
      simp only [Act.put, List.setIfInBounds_toArray, List.set_cons_succ, List.set_cons_zero]
      refine held_take 5 (v := ?tv15) rfl (by kernel_rfl) (by kernel_rfl) (by kernel_rfl) (fun _ _ _ h => h) (.inl ⟨rfl, ?ty15⟩) hS0 ?tr15
      case ty15 => (intro _ _; go_simp; try with_reducible rfl)
      case tr15 =>
      simp only [Act.put, List.setIfInBounds_toArray, List.set_cons_succ, List.set_cons_zero]
      refine held_take 6 (v := ?tv16) rfl (by kernel_rfl) (by kernel_rfl) (by kernel_rfl) (fun _ _ _ h => h) (.inl ⟨rfl, ?ty16⟩) hS0 ?tr16
      case ty16 => (intro _ _; go_simp; try with_reducible rfl)
      case tr16 =>
      simp only [Act.put, List.setIfInBounds_toArray, List.set_cons_succ, List.set_cons_zero]
      refine held_take 7 (v := ?tv17) rfl (by kernel_rfl) (by kernel_rfl) (by kernel_rfl) (fun _ _ _ h => h) (.inl ⟨rfl, ?ty17⟩) hS0 ?tr17
      case ty17 => (intro _ _; go_simp; try with_reducible rfl)
      case tr17 =>
      simp only [Act.put, List.setIfInBounds_toArray, List.set_cons_succ, List.set_cons_zero]
      refine held_take 8 (v := ?tv18) rfl (by kernel_rfl) (by kernel_rfl) (by kernel_rfl) (fun _ _ _ h => h) (.inl ⟨rfl, ?ty18⟩) hS0 ?tr18
      case ty18 => (intro _ _; go_simp; try with_reducible rfl)
      case tr18 =>
      simp only [Act.put, List.setIfInBounds_toArray, List.set_cons_succ, List.set_cons_zero]
      clear hd1 hd2
      generalize wF.drew = wG at *
      have eG : Ext w wG := ((HCC.out wG).1 hS0).base
      refine held_one (i := 9) (by kernel_rfl) rfl ?_
      intro Q' hQ
      go_wp2_with fail
      refine (HLD.out wG (HCR.out.ext eG)).mono ?_
      rintro e wH ⟨rfl, eH⟩
      have hCH := hCx _ _ hS0 eH
      go_wp2_with fail
      refine hQ _ _ hCH ?_
      clear hQ Q' hS0 eH eG HLD HCR
      try dsimp only
      try simp only [Act.put, List.setIfInBounds_toArray, List.set_cons_succ, List.set_cons_zero]
      refine held_one (i := 10) (by kernel_rfl) rfl ?_
      intro Q' hQ
      go_wp2_with fail
      refine (HND.out wH).mono ?_
      rintro e wI ⟨rfl, eI⟩
      have hCI := hCx _ _ hCH eI
      go_wp2_with fail
      refine hQ _ _ hCI ?_
      clear hQ Q' hCH eI HND hs1 hs2
      obtain ⟨vy, hvy, zI⟩ := ((HCC.out wI).1 hCI).at_room (r := w.heap.size + 1) (n := 32) (T := 36) (by simp)
      have ZI := hid zI
      have HVY := hid hvy
      have HCI := hid hCI
      clear zI hvy hCI
      try dsimp only
      try simp only [Act.put, List.setIfInBounds_toArray, List.set_cons_succ, List.set_cons_zero]
      refine held_one (i := 11) (by kernel_rfl) rfl ?_
      intro Q' hQ
      go_wp2_with (refine wpl_storew rfl _ _ _ rfl rfl rfl ZI.out agg_apisum HVY.out HVL.out o2 ?_)
      intro wJ bJ uJ
      have hCJ : C wJ := (HCC.out wJ).2 (((HCC.out wI).1 HCI.out).store uJ bJ (by simp [HVL.out]) (by omega) (by simp <;> omega))
      go_wp2_with fail
      refine hQ _ _ hCJ ?_
      clear hQ Q'
      have EJ := hid ((HCC.out wJ).1 hCJ).base
      refine wpAnyH_done (by kernel_rfl) ?_ _
      go_wp2
      refine ret_row rfl rfl bJ agg_apisum HVL.out rfl ⟨rfl, EJ.out⟩
end

section
open Go Go.RowKit

theorem info_bool : (Try.prog.info? 4).map (fun i => (i.zero, i.size, i.bytes)) = some (some (.bool false), 1, 1) := by kernel_rfl
theorem own_sliceT {w : World} {B : Nat} {T : TypeId} {z : Nat} {v : Value} {n : Nat} {xs : List Value} (hz : 0 < z) (h : w.ownsRow B T z v n xs) :
    ∃ a c, v = .slice a n c ∧ n ≤ c ∧ c ≤ maxLen ∧ (a = none → c = 0) ∧ Cells w a xs := by
  obtain ⟨hl, h⟩ := h
  rcases h with ⟨rfl, rfl⟩ | ⟨g, cap, cur, rfl, hb, hg, h1, h2, h3, h4⟩
  · refine ⟨none, 0, rfl, Nat.le_refl _, by unfold maxLen; omega, fun _ => rfl, .inl ?_⟩
    exact List.length_eq_zero_iff.1 (by omega)
  · refine ⟨_, cap, rfl, h1, h2, (fun h => by cases h), .inr ⟨g, 0, rfl, fun i u hu => ?_⟩⟩
    rw [← h4] at hu
    have hi : i < n * z := by
      have := (List.getElem?_eq_some_iff.1 hu).1
      simp only [List.length_take] at this; omega
    rw [List.getElem?_take_of_lt hi] at hu
    rw [Nat.zero_add]
    exact Blk.cell' (vs := cur.toList) (T := T) (by simpa [Blk] using hg) hu

set_option maxRecDepth 100000 in
set_option maxHeartbeats 1000000 in
theorem sides_c : ∀ (n i : Nat) (w : World), i < n → n ≤ 65536 →
    Calls Try.prog 53 #[.int .i64 (i : Int), .int .i64 (n : Int)] w fun e w' => ∃ v, e = .returned v ∧ w'.ownsRow w.heap.size 4 1 v (sidesL i n).length ((sidesL i n).map Value.bool) ∧ Ext w w' := by
  intro n
  induction n using Nat.strongRecOn with
  | ind n ih =>
  intro i w h1 h2
  have HIH := hid ih
  clear ih
  obtain ⟨i0, hi, hz, hsz, hb1⟩ := info_parts info_bool
  by_cases hn : n = 1
  · subst hn
    have hs : sidesL i 1 = [] := sidesL_one _ _ (by omega)
    rw [hs]
    clear hs HIH
    go_enter Try.func53, Try.ntmps53
    go_wp2
    go_ret
    exact ⟨_, rfl, ⟨rfl, .inl ⟨rfl, rfl⟩⟩, Ext.refl w⟩
  · have hsp := splitN_spec (n := n) (by omega)
    have hc := hid (fun w => half_c n w (by omega) (by omega))
    have hle := sidesL_le i n
    have hl := hid (fun h => sidesL_left (i := i) (n := n) (by omega) h)
    have hr := hid (fun h => sidesL_right (i := i) (n := n) (by omega) h)
    obtain ⟨L, hL⟩ : ∃ L, sidesL i n = L := ⟨_, rfl⟩
    rw [hL] at hl hr hle ⊢
    clear hL
    obtain ⟨k, hk⟩ : ∃ k, splitN n = k := ⟨_, rfl⟩
    rw [hk] at hsp hc hl hr
    clear hk
    obtain ⟨k1, k2, k3⟩ := hsp
    by_cases hik : i < k
    · have hrec := hid (fun w => HIH.out k k2 i w hik (by omega))
      have hLs := hl.out hik
      generalize sidesL i k = L' at *
      subst hLs
      rw [List.length_append, List.map_append] at *
      simp only [List.length_cons, List.length_nil, List.map_cons, List.map_nil] at *
      clear hl hr HIH
      go_enter Try.func53, Try.ntmps53
      go_wp2_with (first | (go_at_call 47; refine (hc.out _).mono ?_; rintro e w' ⟨rfl, rfl⟩))
      refine (hrec.out w).mono ?_
      rintro e w1 ⟨v1, rfl, own1, e1⟩
      have zB : Blk (w1.alloc (.cells #[.bool false] 4)) w1.heap.size [.bool false] 4 := Blk.mk_alloc rfl rfl
      have e2 : Ext w1 (w1.alloc (.cells #[.bool false] 4)) := (Ext.refl w1).alloc _
      have O2 := hid (ownsRow_ext own1 e2)
      have E2 := hid (e1.ext e2)
      have N2 := hid (news_blk zB)
      have hb2 : w.heap.size ≤ (w1.alloc (.cells #[.bool false] 4)).heap.size := E2.out.size
      clear own1 e1 zB e2
      go_wp2_with (first | (at_builtin; refine wpList_append_own _ rfl _ _ 75 rfl w.heap.size 4 i0 (.bool false) 1 1 Try.underlying75 hi hz hsz hb1 rfl (by decide) v1 L'.length _ rfl O2.out ⟨w1.heap.size, 0, none⟩ 1 1 [.bool false] rfl rfl N2.out (by simp [Value.oneCell']) (by unfold maxLen; omega) (by omega) hb2 ?_))
      intro v3 w3 own3 g3 _
      have hv3 := own_block_ge O2.out
      have E3 := hid (E2.out.grown g3 (by intro q hq; exact hv3 _ hq))
      have O3 := hid own3
      clear own3 g3 hv3 O2 E2 N2 hb2
      go_wp2
      go_ret
      exact ⟨_, rfl, O3.out, E3.out⟩
    · have hrec := hid (fun w => HIH.out (n - k) (by omega) (i - k) w (by omega) (by omega))
      have hLs := hr.out hik
      have hd1 : ((i : Int) - (k : Int)) = ((i - k : Nat) : Int) := by omega
      have hd2 : ((n : Int) - (k : Int)) = ((n - k : Nat) : Int) := by omega
      have HD1 := hid hd1
      have HD2 := hid hd2
      clear hd1 hd2
      generalize sidesL (i - k) (n - k) = L' at *
      subst hLs
      rw [List.length_append, List.map_append] at *
      simp only [List.length_cons, List.length_nil, List.map_cons, List.map_nil] at *
      clear hl hr HIH
      go_enter Try.func53, Try.ntmps53
      go_wp2_with (first | (go_at_call 47; refine (hc.out _).mono ?_; rintro e w' ⟨rfl, rfl⟩))
      rw [HD1.out, HD2.out]
      refine (hrec.out w).mono ?_
      rintro e w1 ⟨v1, rfl, own1, e1⟩
      have zB : Blk (w1.alloc (.cells #[.bool true] 4)) w1.heap.size [.bool true] 4 := Blk.mk_alloc rfl rfl
      have e2 : Ext w1 (w1.alloc (.cells #[.bool true] 4)) := (Ext.refl w1).alloc _
      have O2 := hid (ownsRow_ext own1 e2)
      have E2 := hid (e1.ext e2)
      have N2 := hid (news_blk zB)
      have hb2 : w.heap.size ≤ (w1.alloc (.cells #[.bool true] 4)).heap.size := E2.out.size
      clear own1 e1 zB e2
      go_wp2_with (first | (at_builtin; refine wpList_append_own _ rfl _ _ 75 rfl w.heap.size 4 i0 (.bool false) 1 1 Try.underlying75 hi hz hsz hb1 rfl (by decide) v1 L'.length _ rfl O2.out ⟨w1.heap.size, 0, none⟩ 1 1 [.bool true] rfl rfl N2.out (by simp [Value.oneCell']) (by unfold maxLen; omega) (by omega) hb2 ?_))
      intro v3 w3 own3 g3 _
      have hv3 := own_block_ge O2.out
      have E3 := hid (E2.out.grown g3 (by intro q hq; exact hv3 _ hq))
      have O3 := hid own3
      clear own3 g3 hv3 O2 E2 N2 hb2
      go_wp2
      go_ret
      exact ⟨_, rfl, O3.out, E3.out⟩
end

section
open Go Go.RowKit

def zero32 : List UInt8 := List.replicate 32 0
theorem zero32_map : zero32.map u8v = List.replicate 32 (.int .u8 0) := by simp [zero32, u8v]
theorem zero32_length : zero32.length = 32 := by simp [zero32]
def rootByL (x : List UInt8) (I Z : Int) (ls : List (List UInt8)) : List UInt8 × Int :=
  if Z < 1 ∨ 65536 < Z then (zero32, 4) else if I < 0 ∨ Z ≤ I then (zero32, 7) else if ls.length = (sidesL I.toNat Z.toNat).length then (leadS nodeL x (sidesL I.toNat Z.toNat) ls, 0) else (zero32, 12)
def sumErr (p : List UInt8 × Int) : Value := .tuple #[.agg (p.1.map u8v).toArray, .int .i64 p.2]

set_option maxRecDepth 100000 in
set_option maxHeartbeats 1000000 in
theorem rootBy_c (x : List UInt8) (I Z : Int) (ls : List (List UInt8)) (m c : Nat) (a : Option Addr) (w : World) (hx : x.length = 32) (h32 : All32 ls) (hm : ls.length = m) (hmc : m ≤ c) (hcl : Cells w a (rows ls)) :
    Calls Try.prog 22 #[.agg (x.map u8v).toArray, .agg #[.int .i64 I, .int .i64 Z, .slice a m c]] w fun e w' => e = .returned (sumErr (rootByL x I Z ls)) ∧ Ext w w' := by
  have HX : Hid ((x.map u8v).length = 32) := hid (by rw [List.length_map, hx])
  have HX0 := hid hx
  obtain ⟨V, hV⟩ : ∃ V, rootByL x I Z ls = V := ⟨_, rfl⟩
  rw [hV]
  have HV := hid hV
  have H32 := hid h32
  have HM := hid hm
  have HC := hid hcl
  clear hV hx h32 hm hcl
  go_enter Try.func22, Try.ntmps22
  go_upto_region 1 with (fail)
  generalize hwA : World.alloc (World.alloc (World.alloc w _) _) _ = wA
  have xA : Blk wA w.heap.size (x.map u8v) 36 := by rw [← hwA]; exact ((Blk.mk_alloc rfl rfl).alloc _).alloc _
  have pA : Blk wA (w.heap.size + 1) [.int .i64 I, .int .i64 Z, .slice a m c] 24 := by rw [← hwA]; exact (Blk.mk_alloc (by simp) rfl).alloc _
  have zA : Blk wA (w.heap.size + 2) (List.replicate 32 (.int .u8 0)) 36 := by rw [← hwA]; exact Blk.mk_alloc (by simp) rfl
  have eA : Ext w wA := by rw [← hwA]; exact ((((Ext.refl w).alloc _).alloc _).alloc _)
  have hwl : w.heap.size ≤ wA.heap.size := eA.size
  have hzl : w.heap.size + 2 < wA.heap.size := zA.lt
  clear hwA
  have c0 : wA.cell? ⟨w.heap.size + 1, 0, none⟩ = some (.int .i64 I) := pA.cell' rfl
  have c1 : wA.cell? ⟨w.heap.size + 1, 1, none⟩ = some (.int .i64 Z) := pA.cell' rfl
  have c2 : wA.cell? ⟨w.heap.size + 1, 2, none⟩ = some (.slice a m c) := pA.cell' rfl
  have XA := hid xA
  have PA := hid pA
  have ZA := hid zA
  have EA := hid eA
  clear xA zA eA pA
  have hv := HV.out
  unfold rootByL at hv
  clear HV
  by_cases a1 : Z < 1
  · rw [if_pos (.inl a1)] at hv
    have d1 : decide (Z < 1) = true := decide_eq_true a1
    go_wp2_with (refine wpl_storew rfl _ _ _ rfl rfl rfl ZA.out agg_apisum (by simp) (xs := List.replicate 32 (.int .u8 0)) (by simp) (one_zeros 32) ?_)
    intro w4 b4 u4
    go_wp2
    refine ret_row2 rfl rfl b4 agg_apisum (by simp) rfl ⟨by rw [← hv]; unfold sumErr; rw [zero32_map]; rfl, u4.ext EA.out (by omega)⟩
  by_cases a2 : 65536 < Z
  · rw [if_pos (.inr a2)] at hv
    have d1 : decide (Z < 1) = false := decide_eq_false a1
    have d2 : decide (65536 < Z) = true := decide_eq_true a2
    go_wp2_with (refine wpl_storew rfl _ _ _ rfl rfl rfl ZA.out agg_apisum (by simp) (xs := List.replicate 32 (.int .u8 0)) (by simp) (one_zeros 32) ?_)
    intro w4 b4 u4
    go_wp2
    refine ret_row2 rfl rfl b4 agg_apisum (by simp) rfl ⟨by rw [← hv]; unfold sumErr; rw [zero32_map]; rfl, u4.ext EA.out (by omega)⟩
  rw [if_neg (by omega)] at hv
  have d1 : decide (Z < 1) = false := decide_eq_false a1
  have d2 : decide (65536 < Z) = false := decide_eq_false a2
  by_cases b1 : I < 0
  · rw [if_pos (.inl b1)] at hv
    have d3 : decide (I < 0) = true := decide_eq_true b1
    go_wp2_with (refine wpl_storew rfl _ _ _ rfl rfl rfl ZA.out agg_apisum (by simp) (xs := List.replicate 32 (.int .u8 0)) (by simp) (one_zeros 32) ?_)
    intro w4 b4 u4
    go_wp2
    refine ret_row2 rfl rfl b4 agg_apisum (by simp) rfl ⟨by rw [← hv]; unfold sumErr; rw [zero32_map]; rfl, u4.ext EA.out (by omega)⟩
  have d3 : decide (I < 0) = false := decide_eq_false b1
  by_cases b2 : Z ≤ I
  · rw [if_pos (.inr b2)] at hv
    have d4 : decide (Z ≤ I) = true := decide_eq_true b2
    go_wp2_with (refine wpl_storew rfl _ _ _ rfl rfl rfl ZA.out agg_apisum (by simp) (xs := List.replicate 32 (.int .u8 0)) (by simp) (one_zeros 32) ?_)
    intro w4 b4 u4
    go_wp2
    refine ret_row2 rfl rfl b4 agg_apisum (by simp) rfl ⟨by rw [← hv]; unfold sumErr; rw [zero32_map]; rfl, u4.ext EA.out (by omega)⟩
  have d4 : decide (Z ≤ I) = false := decide_eq_false b2
  rw [if_neg (by omega)] at hv
  obtain ⟨i, rfl⟩ := Int.eq_ofNat_of_zero_le (show 0 ≤ I by omega)
  obtain ⟨n, rfl⟩ := Int.eq_ofNat_of_zero_le (show 0 ≤ Z by omega)
  rw [Int.toNat_natCast, Int.toNat_natCast, HM.out] at hv
  have hst := hid (fun w => steps_c i n w (by omega) (by omega))
  have hld := hid (fun h w' hc => lead_c n i x ls m c a w' (by omega) (by omega) HX0.out H32.out HM.out h hmc hc)
  have hyl := hid (leadS_length nodeL nodeL_length x (sidesL i n) ls HX0.out)
  have HNle := sidesL_le i n
  generalize leadS nodeL x (sidesL i n) ls = y at *
  generalize (sidesL i n).length = N at *
  have HV2 := hid hv
  clear hv
  have d5 : decide (n ≤ i) = false := decide_eq_false (by omega)
  have d6 : decide (65536 < n) = false := decide_eq_false (by omega)
  have d7 : decide (n < 1) = false := decide_eq_false (by omega)
  go_wp2
  obtain ⟨C, hC⟩ : ∃ C : World → Prop, C = Cls w wA [w.heap.size, w.heap.size + 1] [(w.heap.size + 2, 32, 36)] := ⟨_, rfl⟩
  have hC0 : ∀ w', C w' ↔ Cls w wA [w.heap.size, w.heap.size + 1] [(w.heap.size + 2, 32, 36)] w' := fun w' => by rw [hC]
  clear hC
  have HCC := hid hC0
  clear hC0
  have hCx : ∀ w w', C w → Ext w w' → C w' := fun w w' h1 h2 => (HCC.out w').2 (((HCC.out w).1 h1).ext h2)
  have hCA : C wA := (HCC.out _).2 (Cls.one_room EA.out (Kept.two XA.out.lt PA.out.lt) ZA.out (by simp))
  have e0 : ∀ w1, C w1 → w1.cell? ⟨w.heap.size + 1, 0, none⟩ = some (.int .i64 (i : Int)) := fun w1 h1 => (((HCC.out w1).1 h1).blk PA.out (by simp)).cell' rfl
  have e1 : ∀ w1, C w1 → w1.cell? ⟨w.heap.size + 1, 1, none⟩ = some (.int .i64 (n : Int)) := fun w1 h1 => (((HCC.out w1).1 h1).blk PA.out (by simp)).cell' rfl
  have e2 : ∀ w1, C w1 → w1.cell? ⟨w.heap.size + 1, 2, none⟩ = some (.slice a m c) := fun w1 h1 => (((HCC.out w1).1 h1).blk PA.out (by simp)).cell' rfl
  refine wp_region_held_drew (S := C) (by kernel_rfl) (hCx _ _ hCA (Ext.refl _).drew) (fun hS0 => ?_)
  clear c0 c1 c2
  refine held_take 0 (v := ?tv1) rfl (by kernel_rfl) (by kernel_rfl) (by kernel_rfl) (fun _ _ _ h => h) (.inl ⟨rfl, ?ty1⟩) hS0 ?tr1
  case ty1 => (intro _ _; go_simp; try with_reducible rfl)
  case tr1 =>
  simp only [Act.put, List.setIfInBounds_toArray, List.set_cons_succ, List.set_cons_zero]
  refine held_take 1 (v := ?tv2) rfl (by kernel_rfl) (by kernel_rfl) (by kernel_rfl) (fun _ _ _ h => h) (.inl ⟨rfl, ?ty2⟩) hS0 ?tr2
  case ty2 => (intro wq hwq; have hcq := (e2) wq hwq; go_simp; try with_reducible rfl)
  case tr2 =>
  simp only [Act.put, List.setIfInBounds_toArray, List.set_cons_succ, List.set_cons_zero]
  refine held_take 2 (v := ?tv3) rfl (by kernel_rfl) (by kernel_rfl) (by kernel_rfl) (fun _ _ _ h => h) (.inl ⟨rfl, ?ty3⟩) hS0 ?tr3
  case ty3 => (intro _ _; go_simp; try with_reducible rfl)
  case tr3 =>
  simp only [Act.put, List.setIfInBounds_toArray, List.set_cons_succ, List.set_cons_zero]
  refine held_take 3 (v := ?tv4) rfl (by kernel_rfl) (by kernel_rfl) (by kernel_rfl) (fun _ _ _ h => h) (.inl ⟨rfl, ?ty4⟩) hS0 ?tr4
  case ty4 => (intro _ _; go_simp; try with_reducible rfl)
  case tr4 =>
  simp only [Act.put, List.setIfInBounds_toArray, List.set_cons_succ, List.set_cons_zero]
  refine held_take 4 (v := ?tv5) rfl (by kernel_rfl) (by kernel_rfl) (by kernel_rfl) (fun _ _ _ h => h) (.inl ⟨rfl, ?ty5⟩) hS0 ?tr5
  case ty5 => (intro wq hwq; have hcq := (e0) wq hwq; go_simp; try with_reducible rfl)
  case tr5 =>
  simp only [Act.put, List.setIfInBounds_toArray, List.set_cons_succ, List.set_cons_zero]
  refine held_take 5 (v := ?tv6) rfl (by kernel_rfl) (by kernel_rfl) (by kernel_rfl) (fun _ _ _ h => h) (.inl ⟨rfl, ?ty6⟩) hS0 ?tr6
  case ty6 => (intro _ _; go_simp; try with_reducible rfl)
  case tr6 =>
  simp only [Act.put, List.setIfInBounds_toArray, List.set_cons_succ, List.set_cons_zero]
  refine held_take 6 (v := ?tv7) rfl (by kernel_rfl) (by kernel_rfl) (by kernel_rfl) (fun _ _ _ h => h) (.inl ⟨rfl, ?ty7⟩) hS0 ?tr7
  case ty7 => (intro wq hwq; have hcq := (e1) wq hwq; go_simp; try with_reducible rfl)
  case tr7 =>
  simp only [Act.put, List.setIfInBounds_toArray, List.set_cons_succ, List.set_cons_zero]
  generalize wA.drew = wD at *
  refine held_one (i := 7) (by kernel_rfl) rfl ?_
  intro Q' hQ
  go_wp2_with fail
  refine (hst.out wD).mono ?_
  rintro e w' ⟨rfl, rfl⟩
  go_wp2_with fail
  refine hQ _ _ hS0 ?_
  clear hQ Q'
  by_cases hmn : m = N
  · have hv := HV2.out
    rw [if_pos hmn] at hv
    have hlead := hid (hld.out hmn)
    have g1 : ((m : Int) != (N : Int)) = false := by simp [hmn]
    have g2 : (m != N) = false := by simp [hmn]
    have HV := hid hv
    clear hv HV2 hld hst hmn
    try dsimp only
    try simp only [Act.put, List.setIfInBounds_toArray, List.set_cons_succ, List.set_cons_zero]
    refine held_take 8 (v := ?tv8) rfl (by kernel_rfl) (by kernel_rfl) (by kernel_rfl) (fun _ _ _ h => h) (.inl ⟨rfl, ?ty8⟩) hS0 ?tr8
    case ty8 => (intro _ _; go_simp; try with_reducible rfl)
    case tr8 =>
    simp only [Act.put, List.setIfInBounds_toArray, List.set_cons_succ, List.set_cons_zero]
    refine held_one (i := 9) (by kernel_rfl) rfl ?_
    intro Q' hQ
    go_wp2_with fail
    refine hQ _ _ hS0 ?_
    clear hQ Q'
    refine wpAnyH_done (by kernel_rfl) ?_ _
    have XD := hid (((HCC.out wD).1 hS0).blk XA.out (by simp))
    have ED := hid ((HCC.out wD).1 hS0).base
    obtain ⟨vz, hvz, zD⟩ := ((HCC.out wD).1 hS0).at_room (r := w.heap.size + 2) (n := 32) (T := 36) (by simp)
    have ZD := hid zD
    have HVZ := hid hvz
    have f0 := e0 wD hS0
    have f1 := e1 wD hS0
    have f2 := e2 wD hS0
    clear zD hvz e0 e1 e2 hCx hCA
    go_wp2_with (first | (refine wpl_loadw rfl 36 _ rfl rfl XD.out agg_apisum HX.out ?_))
    refine (hlead.out wD (HC.out.ext ED.out)).mono ?_
    rintro e wE ⟨rfl, eE⟩
    have ZE := hid (ZD.out.ext eE)
    have EE := hid (ED.out.ext eE)
    have hyv : Hid ((y.map u8v).length = 32) := hid (by rw [List.length_map, hyl.out])
    have o2 := one_u8 y
    clear eE hS0 f0 f1 f2 hlead
    go_wp2_with (first | (refine wpl_storew rfl _ _ _ rfl rfl rfl ZE.out agg_apisum HVZ.out hyv.out o2 ?_))
    intro w4 b4 u4
    go_wp2
    refine ret_row2 rfl rfl b4 agg_apisum hyv.out rfl ⟨by rw [← HV.out]; rfl, u4.ext EE.out (by omega)⟩
  · have hv := HV2.out
    rw [if_neg hmn] at hv
    have g1 : ((m : Int) != (N : Int)) = true := by simp; omega
    have g2 : (m != N) = true := by simp [hmn]
    have HV := hid hv
    clear hv HV2 hld hst hmn
    try dsimp only
    try simp only [Act.put, List.setIfInBounds_toArray, List.set_cons_succ, List.set_cons_zero]
    refine held_take 8 (v := ?tv9) rfl (by kernel_rfl) (by kernel_rfl) (by kernel_rfl) (fun _ _ _ h => h) (.inl ⟨rfl, ?ty9⟩) hS0 ?tr9
    case ty9 => (intro _ _; go_simp; try with_reducible rfl)
    case tr9 =>
    simp only [Act.put, List.setIfInBounds_toArray, List.set_cons_succ, List.set_cons_zero]
    refine held_one (i := 9) (by kernel_rfl) rfl ?_
    intro Q' hQ
    go_wp2_with fail
    refine hQ _ _ hS0 ?_
    clear hQ Q'
    refine wpAnyH_done (by kernel_rfl) ?_ _
    have ED := hid ((HCC.out wD).1 hS0).base
    obtain ⟨vz, hvz, zD⟩ := ((HCC.out wD).1 hS0).at_room (r := w.heap.size + 2) (n := 32) (T := 36) (by simp)
    have ZD := hid zD
    have HVZ := hid hvz
    clear zD hvz e0 e1 e2 hCx hCA hS0
    go_wp2_with (refine wpl_storew rfl _ _ _ rfl rfl rfl ZD.out agg_apisum HVZ.out (xs := List.replicate 32 (.int .u8 0)) (by simp) (one_zeros 32) ?_)
    intro w4 b4 u4
    go_wp2
    refine ret_row2 rfl rfl b4 agg_apisum (by simp) rfl ⟨by rw [← HV.out]; unfold sumErr; rw [zero32_map]; rfl, u4.ext ED.out (by omega)⟩
end

section
open Go Go.RowKit

theorem gby_self (w : World) (r : Option Nat) : w.grownBy w r := ⟨rfl, rfl, rfl, Nat.le_refl _, fun _ _ _ => rfl⟩
theorem gby_ext {w w1 w2 : World} {r : Option Nat} (h : w.grownBy w1 r) (e : Ext w1 w2) : w.grownBy w2 r :=
  ⟨e.os.trans h.os, e.tape.trans h.tape, e.output.trans h.output, Nat.le_trans h.size e.size, fun k hk hn => (e.block k (Nat.lt_of_lt_of_le hk h.size)).trans (h.block k hk hn)⟩
theorem gby_upd {w w1 w2 : World} {g : Nat} (h : w.grownBy w1 (some g)) (u : Upd w1 g w2) : w.grownBy w2 (some g) :=
  ⟨u.os.trans h.os, u.tape.trans h.tape, u.output.trans h.output, by rw [u.size]; exact h.size, fun k hk hn => (u.block k (fun e => hn (by rw [e]))).trans (h.block k hk hn)⟩
theorem gby_new {w w1 w2 : World} {g : Nat} {r : Option Nat} (h : w.grownBy w1 r) (u : Upd w1 g w2) (hg : w.heap.size ≤ g) : w.grownBy w2 r :=
  ⟨u.os.trans h.os, u.tape.trans h.tape, u.output.trans h.output, by rw [u.size]; exact h.size, fun k hk hn => (u.block k (by omega)).trans (h.block k hk hn)⟩
/-- the cells behind a slice's address, and none of them in block g -/
def CellsOff (w : World) (g : Nat) (a : Option Addr) (xs : List Value) : Prop := xs = [] ∨ ∃ b off, a = some ⟨b, off, none⟩ ∧ b ≠ g ∧ ∀ i u, xs[i]? = some u → w.cell? ⟨b, off + i, none⟩ = some u
theorem CellsOff.cells {w : World} {g : Nat} {a : Option Addr} {xs : List Value} (h : CellsOff w g a xs) : Cells w a xs := by
  rcases h with h | ⟨b, off, ha, _, h⟩
  · exact .inl h
  · exact .inr ⟨b, off, ha, h⟩
theorem CellsOff.grown {w w' : World} {g : Nat} {a : Option Addr} {xs : List Value} (h : CellsOff w g a xs) (k : w.grownBy w' (some g)) : CellsOff w' g a xs := by
  rcases h with h | ⟨b, off, ha, hb, h⟩
  · exact .inl h
  · exact .inr ⟨b, off, ha, hb, fun i u hu => k.cell (h i u hu) (by simpa using hb)⟩
theorem CellsOff.ext {w w' : World} {g : Nat} {a : Option Addr} {xs : List Value} (h : CellsOff w g a xs) (k : Ext w w') : CellsOff w' g a xs := by
  rcases h with h | ⟨b, off, ha, hb, h⟩
  · exact .inl h
  · refine .inr ⟨b, off, ha, hb, fun i u hu => ?_⟩
    have h1 := h i u hu
    have hb := block_lt_of_cell h1
    have := k.cell (p := ⟨b, off + i, none⟩) hb
    rw [this]; exact h1
theorem own_off {w : World} {B g : Nat} {T : TypeId} {z : Nat} {v : Value} {n : Nat} {xs : List Value} (hz : 0 < z) (h : w.ownsRow B T z v n xs) (hg : g < B) :
    ∃ a c, v = .slice a n c ∧ n ≤ c ∧ c ≤ maxLen ∧ (a = none → c = 0) ∧ CellsOff w g a xs := by
  obtain ⟨hl, h⟩ := h
  rcases h with ⟨rfl, rfl⟩ | ⟨gr, cap, cur, rfl, hb, hgr, h1, h2, h3, h4⟩
  · refine ⟨none, 0, rfl, Nat.le_refl _, by unfold maxLen; omega, fun _ => rfl, .inl ?_⟩
    exact List.length_eq_zero_iff.1 (by omega)
  · refine ⟨_, cap, rfl, h1, h2, (fun h => by cases h), .inr ⟨gr, 0, rfl, by omega, fun i u hu => ?_⟩⟩
    rw [← h4] at hu
    have hi : i < n * z := by
      have := (List.getElem?_eq_some_iff.1 hu).1
      simp only [List.length_take] at this; omega
    rw [List.getElem?_take_of_lt hi] at hu
    rw [Nat.zero_add]
    exact Blk.cell' (vs := cur.toList) (T := T) (by simpa [Blk] using hgr) hu
theorem CellsOff.at {w : World} {g : Nat} {a : Option Addr} {xs : List Value} (h : CellsOff w g a xs) {i : Nat} {u : Value} (hu : xs[i]? = some u) :
    ∃ b off, a = some ⟨b, off, none⟩ ∧ w.cell? ⟨b, off + i, none⟩ = some u := by
  rcases h with rfl | ⟨b, off, ha, _, h⟩
  · simp at hu
  · exact ⟨b, off, ha, h i u hu⟩
theorem CellsOff.of {w w' : World} {g : Nat} {a : Option Addr} {xs : List Value} (h : Cells w a xs) (hg : w.heap.size ≤ g) (e : Ext w w') : CellsOff w' g a xs := by
  rcases h.ext e with h' | ⟨b, off, ha, h'⟩
  · exact .inl h'
  · rcases h with h | ⟨b2, off2, ha2, h2⟩
    · exact .inl h
    · rw [ha] at ha2
      cases ha2
      by_cases h0 : xs = []
      · exact .inl h0
      · refine .inr ⟨b, off, ha, ?_, h'⟩
        obtain ⟨u, hu⟩ : ∃ u, xs[0]? = some u := ⟨xs[0]'(List.length_pos_iff.2 h0), by simp⟩
        have := block_lt_of_cell (h2 0 u hu)
        simp only at this
        omega

section
variable {P : Program} {ops : Array Oper} {rest : List Oper} {o : Oper} {a : Act} {C : World → Prop}
theorem yieldsE_run {v : Value} (hr : ∀ w, C w → (execOp a.eval o).run P w = .ok (.value v) w) : yieldsE P C o a v := by
  intro w hw
  rw [hr w hw]
  first | exact ⟨rfl, rfl⟩ | exact ⟨rfl, hw⟩
end
end

section
open Go Go.RowKit

set_option maxRecDepth 100000 in
set_option maxHeartbeats 1000000 in
theorem rrootBy_c (x : List UInt8) (I Z : Int) (ls : List (List UInt8)) (m c : Nat) (a : Option Addr) (w : World) (hx : x.length = 32) (h32 : All32 ls) (hm : ls.length = m) (hmc : m ≤ c) (hcl : Cells w a (rows ls)) :
    Calls Try.prog 23 #[.agg (x.map u8v).toArray, .agg #[.int .i64 I, .int .i64 Z, .slice a m c]] w fun e w' => e = .returned (sumErr (rootByL x I Z ls)) ∧ Ext w w' := by
  have HX : Hid ((x.map u8v).length = 32) := hid (by rw [List.length_map, hx])
  have HX0 := hid hx
  obtain ⟨V, hV⟩ : ∃ V, rootByL x I Z ls = V := ⟨_, rfl⟩
  rw [hV]
  have HV := hid hV
  have H32 := hid h32
  have HM := hid hm
  have HC := hid hcl
  clear hV hx h32 hm hcl
  go_enter Try.func23, Try.ntmps23
  go_upto_region 1 with (fail)
  generalize hwA : World.alloc (World.alloc (World.alloc w _) _) _ = wA
  have xA : Blk wA w.heap.size (x.map u8v) 36 := by rw [← hwA]; exact ((Blk.mk_alloc rfl rfl).alloc _).alloc _
  have pA : Blk wA (w.heap.size + 1) [.int .i64 I, .int .i64 Z, .slice a m c] 24 := by rw [← hwA]; exact (Blk.mk_alloc (by simp) rfl).alloc _
  have zA : Blk wA (w.heap.size + 2) (List.replicate 32 (.int .u8 0)) 36 := by rw [← hwA]; exact Blk.mk_alloc (by simp) rfl
  have eA : Ext w wA := by rw [← hwA]; exact ((((Ext.refl w).alloc _).alloc _).alloc _)
  have hwl : w.heap.size ≤ wA.heap.size := eA.size
  have hzl : w.heap.size + 2 < wA.heap.size := zA.lt
  clear hwA
  have c0 : wA.cell? ⟨w.heap.size + 1, 0, none⟩ = some (.int .i64 I) := pA.cell' rfl
  have c1 : wA.cell? ⟨w.heap.size + 1, 1, none⟩ = some (.int .i64 Z) := pA.cell' rfl
  have c2 : wA.cell? ⟨w.heap.size + 1, 2, none⟩ = some (.slice a m c) := pA.cell' rfl
  have XA := hid xA
  have PA := hid pA
  have ZA := hid zA
  have EA := hid eA
  clear xA zA eA pA
  have hv := HV.out
  unfold rootByL at hv
  clear HV
  by_cases a1 : Z < 1
  · rw [if_pos (.inl a1)] at hv
    have d1 : decide (Z < 1) = true := decide_eq_true a1
    go_wp2_with (refine wpl_storew rfl _ _ _ rfl rfl rfl ZA.out agg_apisum (by simp) (xs := List.replicate 32 (.int .u8 0)) (by simp) (one_zeros 32) ?_)
    intro w4 b4 u4
    go_wp2
    refine ret_row2 rfl rfl b4 agg_apisum (by simp) rfl ⟨by rw [← hv]; unfold sumErr; rw [zero32_map]; rfl, u4.ext EA.out (by omega)⟩
  by_cases a2 : 65536 < Z
  · rw [if_pos (.inr a2)] at hv
    have d1 : decide (Z < 1) = false := decide_eq_false a1
    have d2 : decide (65536 < Z) = true := decide_eq_true a2
    go_wp2_with (refine wpl_storew rfl _ _ _ rfl rfl rfl ZA.out agg_apisum (by simp) (xs := List.replicate 32 (.int .u8 0)) (by simp) (one_zeros 32) ?_)
    intro w4 b4 u4
    go_wp2
    refine ret_row2 rfl rfl b4 agg_apisum (by simp) rfl ⟨by rw [← hv]; unfold sumErr; rw [zero32_map]; rfl, u4.ext EA.out (by omega)⟩
  rw [if_neg (by omega)] at hv
  have d1 : decide (Z < 1) = false := decide_eq_false a1
  have d2 : decide (65536 < Z) = false := decide_eq_false a2
  by_cases b1 : I < 0
  · rw [if_pos (.inl b1)] at hv
    have d3 : decide (I < 0) = true := decide_eq_true b1
    go_wp2_with (refine wpl_storew rfl _ _ _ rfl rfl rfl ZA.out agg_apisum (by simp) (xs := List.replicate 32 (.int .u8 0)) (by simp) (one_zeros 32) ?_)
    intro w4 b4 u4
    go_wp2
    refine ret_row2 rfl rfl b4 agg_apisum (by simp) rfl ⟨by rw [← hv]; unfold sumErr; rw [zero32_map]; rfl, u4.ext EA.out (by omega)⟩
  have d3 : decide (I < 0) = false := decide_eq_false b1
  by_cases b2 : Z ≤ I
  · rw [if_pos (.inr b2)] at hv
    have d4 : decide (Z ≤ I) = true := decide_eq_true b2
    go_wp2_with (refine wpl_storew rfl _ _ _ rfl rfl rfl ZA.out agg_apisum (by simp) (xs := List.replicate 32 (.int .u8 0)) (by simp) (one_zeros 32) ?_)
    intro w4 b4 u4
    go_wp2
    refine ret_row2 rfl rfl b4 agg_apisum (by simp) rfl ⟨by rw [← hv]; unfold sumErr; rw [zero32_map]; rfl, u4.ext EA.out (by omega)⟩
  have d4 : decide (Z ≤ I) = false := decide_eq_false b2
  rw [if_neg (by omega)] at hv
  obtain ⟨i, rfl⟩ := Int.eq_ofNat_of_zero_le (show 0 ≤ I by omega)
  obtain ⟨n, rfl⟩ := Int.eq_ofNat_of_zero_le (show 0 ≤ Z by omega)
  rw [Int.toNat_natCast, Int.toNat_natCast, HM.out] at hv
  have hsd := hid (fun w => sides_c n i w (by omega) (by omega))
  have hls := hid (fun (h : m = (sidesL i n).length) => (h : m = (sidesL i n).length))
  have HNle := sidesL_le i n
  generalize sidesL i n = L at *
  obtain ⟨N, hN⟩ : ∃ N, L.length = N := ⟨_, rfl⟩
  rw [hN] at hv hsd HNle hls
  have HN := hid hN
  clear hN
  have HV2 := hid hv
  clear hv hls
  have d5 : decide (n ≤ i) = false := decide_eq_false (by omega)
  have d6 : decide (65536 < n) = false := decide_eq_false (by omega)
  have d7 : decide (n < 1) = false := decide_eq_false (by omega)
  go_wp2_with fail
  refine (hsd.out wA).mono ?_
  rintro e wB ⟨vB, rfl, ownB, eB⟩
  obtain ⟨ab, cb, rfl, hnc, hcm, hab, hcb⟩ := own_off (g := w.heap.size) (by omega) ownB (by omega)
  have CB := hid hcb
  have EB := hid (EA.out.ext eB)
  have XB := hid (XA.out.ext eB)
  have PB := hid (PA.out.ext eB)
  have ZB := hid (ZA.out.ext eB)
  have c0 : wB.cell? ⟨w.heap.size + 1, 0, none⟩ = some (.int .i64 (i : Int)) := PB.out.cell' rfl
  have c1 : wB.cell? ⟨w.heap.size + 1, 1, none⟩ = some (.int .i64 (n : Int)) := PB.out.cell' rfl
  have c2 : wB.cell? ⟨w.heap.size + 1, 2, none⟩ = some (.slice a m c) := PB.out.cell' rfl
  have hAB := eB.size
  clear ownB eB hcb XA PA ZA EA hsd
  by_cases hmn : m = N
  · have hv := HV2.out
    rw [if_pos hmn] at hv
    subst hmn
    have g1 : ((m : Int) != (m : Int)) = false := by simp
    have g2 : (m != m) = false := by simp
    have HV := hid hv
    clear hv HV2
    go_wp2
    go_loopw [45] (fun t wr => ∃ k : Nat, k ≤ m ∧ t = .int .i64 (k : Int) ∧ wB.grownBy wr (some w.heap.size) ∧ Blk wr w.heap.size ((leadS nodeL x (L.take k) (ls.take k)).map u8v) 36) (fun t _ => m - (intOf t).toNat)
    case atStart => exact ⟨0, by omega, rfl, gby_self _ _, by simpa [leadS] using XB.out⟩
    case round =>
      obtain ⟨k, hk, rfl, hg, hb⟩ := hrel
      have HG := hid hg
      have HB := hid hb
      clear hg hb
      by_cases hlt : k < m
      · obtain ⟨bb, hbb⟩ : ∃ bb, L[k]? = some bb := ⟨L[k]'(by rw [HN.out]; exact hlt), by simp⟩
        obtain ⟨pk, hpk⟩ : ∃ pk, ls[k]? = some pk := ⟨ls[k]'(by rw [HM.out]; exact hlt), by simp⟩
        obtain ⟨gb, ob, rfl, hcell⟩ := (CB.out.grown HG.out).at (i := k) (u := .bool bb) (by rw [List.getElem?_map, hbb]; rfl)
        have hnx := leadS_take nodeL x L ls k (by rw [HN.out]; exact hlt) (by rw [HM.out]; exact hlt)
        have hL2 : L[k]'(by rw [HN.out]; exact hlt) = bb := by have := (List.getElem?_eq_some_iff.1 hbb).2; exact this
        have hp2 : ls[k]'(by rw [HM.out]; exact hlt) = pk := by have := (List.getElem?_eq_some_iff.1 hpk).2; exact this
        rw [hL2, hp2] at hnx
        have hyl := leadS_length nodeL nodeL_length x (L.take k) (ls.take k) HX0.out
        generalize leadS nodeL x (L.take k) (ls.take k) = y at *
        have hpl := H32.out.at hpk
        have EW : Ext w wr := EB.out.grown HG.out (by intro q hq; cases hq; exact Nat.le_refl _)
        obtain ⟨A, rfl, hca⟩ : ∃ A, a = some A ∧ CellsAt wr (A.add (k * 32)) (pk.map u8v) := by
          cases a with
          | none => rcases HC.out with h | ⟨_, _, h, _⟩
                    · have := rows_length H32.out; rw [h, HM.out] at this; simp at this; omega
                    · cases h
          | some A => exact ⟨A, rfl, (HC.out.rowAt H32.out hpk).ext EW⟩
        have HCA := hid hca
        have PR := hid (PB.out.grown HG.out (by simp))
        have HYL : Hid ((y.map u8v).length = 32) := hid (by rw [List.length_map, hyl])
        have HPL : Hid ((pk.map u8v).length = 32) := hid (by rw [List.length_map, hpl])
        have HYL0 := hid hyl
        have HPL0 := hid hpl
        clear hyl hpl hL2 hp2 hpk hbb hca EW c0 c1 c2
        cases bb with
        | true =>
          rw [if_pos rfl] at hnx
          have HNX := hid hnx
          clear hnx
          go_wp2
          obtain ⟨C, hC⟩ : ∃ C : World → Prop, C = Cls wr wr [w.heap.size, w.heap.size + 1] [] := ⟨_, rfl⟩
          have hC0 : ∀ w', C w' ↔ Cls wr wr [w.heap.size, w.heap.size + 1] [] w' := fun w' => by rw [hC]
          clear hC
          have HCC := hid hC0
          clear hC0
          have hCx : ∀ w w', C w → Ext w w' → C w' := fun w w' h1 h2 => (HCC.out w').2 (((HCC.out w).1 h1).ext h2)
          have hCA : C wr := (HCC.out _).2 (Cls.no_room (Ext.refl _) (Kept.two HB.out.lt PR.out.lt))
          have hs1 : ∀ w1, C w1 → Blk w1 w.heap.size (y.map u8v) 36 := fun w1 h1 => ((HCC.out w1).1 h1).blk HB.out (by simp)
          have e2 : ∀ w1, C w1 → w1.cell? ⟨w.heap.size + 1, 2, none⟩ = some (.slice (some A) m c) := fun w1 h1 => (((HCC.out w1).1 h1).blk PR.out (by simp)).cell' rfl
          have hca : ∀ w1, C w1 → CellsAt w1 (A.add (k * 32)) (pk.map u8v) := fun w1 h1 => HCA.out.ext ((HCC.out w1).1 h1).base
          refine wp_region_al (C := C) 7 [] (World.heap wr |>.size) (by kernel_rfl) (by kernel_rfl) (by kernel_rfl) (hCx _ _ hCA (Ext.refl _).drew) (fun w o h => hCx _ _ h ((Ext.refl w).alloc o)) (fun w h => ((HCC.out w).1 h).kept.1) (by simp) ?_
          simp only [List.take_succ_cons, List.take_zero, List.drop_succ_cons, List.drop_zero]
          refine wpQE_do rfl rfl _ (fun _ _ => ⟨rfl, rfl⟩) ?_
          simp only [Act.put, List.setIfInBounds_toArray, List.set_cons_succ, List.set_cons_zero]
          refine wpQE_do rfl rfl ?dv1 (yieldsE_run (v := ?dv1) ?dy1) ?dr1
          case dy1 => (intro wq hwq; have hcq := (e2) wq hwq; go_simp; try with_reducible rfl)
          case dr1 =>
          simp only [Act.put, List.setIfInBounds_toArray, List.set_cons_succ, List.set_cons_zero]
          refine wpQE_do rfl rfl _ (fun _ _ => ⟨rfl, rfl⟩) ?_
          simp only [Act.put, List.setIfInBounds_toArray, List.set_cons_succ, List.set_cons_zero]
          refine wpQE_do rfl rfl _ (yieldsE_run (fun w1 _ => exec_index (i := k) rfl rfl rfl Try.underlying22 size_apisum hlt w1)) ?_
          simp only [Act.put, List.setIfInBounds_toArray, List.set_cons_succ, List.set_cons_zero]
          refine wpQE_do rfl rfl _ (yieldsE_run (fun w1 h => exec_load_at rfl rfl (hca w1 h) agg_apisum HPL.out)) ?_
          simp only [Act.put, List.setIfInBounds_toArray, List.set_cons_succ, List.set_cons_zero]
          refine wpQE_do rfl rfl _ (yieldsE_loadw _ _ rfl rfl hs1 agg_apisum HYL.out) ?_
          simp only [Act.put, List.setIfInBounds_toArray, List.set_cons_succ, List.set_cons_zero]
          refine wpQE_do rfl rfl _ (yieldsE_call rfl Try.call21 (by simp [Act.eval]) (fun w1 _ => rnode_c pk y w1 HPL0.out HYL0.out) hCx) ?_
          simp only [Act.put, List.setIfInBounds_toArray, List.set_cons_succ, List.set_cons_zero]
          refine wpQE_nil ?_
          intro gs w5 hCw5 _ _
          simp only [putAl, Act.put, List.setIfInBounds_toArray, List.set_cons_succ, List.set_cons_zero]
          have B5 := hid (hs1 w5 hCw5)
          have E5 := hid ((HCC.out w5).1 hCw5).base
          have HNV : Hid (((nodeL pk y).map u8v).length = 32) := hid (by rw [List.length_map, nodeL_length])
          have o3 := one_u8 (nodeL pk y)
          clear hs1 e2 hca hCx hCA HCC hCw5
          go_wp2_with (refine wpl_storew rfl _ _ _ rfl rfl rfl B5.out agg_apisum HYL.out HNV.out o3 ?_)
          intro w6 b6 u6
          go_wp2
          go_roundw
          case rel => exact ⟨k + 1, by omega, by go_num, grown_upd (grown_ext HG.out E5.out) u6, by rw [HNX.out]; exact b6⟩
          case measure => simp [intOf]; omega
        | false =>
          rw [if_neg (by decide)] at hnx
          have HNX := hid hnx
          clear hnx
          go_wp2
          obtain ⟨C, hC⟩ : ∃ C : World → Prop, C = Cls wr wr [w.heap.size, w.heap.size + 1] [] := ⟨_, rfl⟩
          have hC0 : ∀ w', C w' ↔ Cls wr wr [w.heap.size, w.heap.size + 1] [] w' := fun w' => by rw [hC]
          clear hC
          have HCC := hid hC0
          clear hC0
          have hCx : ∀ w w', C w → Ext w w' → C w' := fun w w' h1 h2 => (HCC.out w').2 (((HCC.out w).1 h1).ext h2)
          have hCA : C wr := (HCC.out _).2 (Cls.no_room (Ext.refl _) (Kept.two HB.out.lt PR.out.lt))
          have hs1 : ∀ w1, C w1 → Blk w1 w.heap.size (y.map u8v) 36 := fun w1 h1 => ((HCC.out w1).1 h1).blk HB.out (by simp)
          have e2 : ∀ w1, C w1 → w1.cell? ⟨w.heap.size + 1, 2, none⟩ = some (.slice (some A) m c) := fun w1 h1 => (((HCC.out w1).1 h1).blk PR.out (by simp)).cell' rfl
          have hca : ∀ w1, C w1 → CellsAt w1 (A.add (k * 32)) (pk.map u8v) := fun w1 h1 => HCA.out.ext ((HCC.out w1).1 h1).base
          refine wp_region_al (C := C) 7 [] (World.heap wr |>.size) (by kernel_rfl) (by kernel_rfl) (by kernel_rfl) (hCx _ _ hCA (Ext.refl _).drew) (fun w o h => hCx _ _ h ((Ext.refl w).alloc o)) (fun w h => ((HCC.out w).1 h).kept.1) (by simp) ?_
          simp only [List.take_succ_cons, List.take_zero, List.drop_succ_cons, List.drop_zero]
          refine wpQE_do rfl rfl _ (yieldsE_loadw _ _ rfl rfl hs1 agg_apisum HYL.out) ?_
          simp only [Act.put, List.setIfInBounds_toArray, List.set_cons_succ, List.set_cons_zero]
          refine wpQE_do rfl rfl _ (fun _ _ => ⟨rfl, rfl⟩) ?_
          simp only [Act.put, List.setIfInBounds_toArray, List.set_cons_succ, List.set_cons_zero]
          refine wpQE_do rfl rfl ?dv2 (yieldsE_run (v := ?dv2) ?dy2) ?dr2
          case dy2 => (intro wq hwq; have hcq := (e2) wq hwq; go_simp; try with_reducible rfl)
          case dr2 =>
          simp only [Act.put, List.setIfInBounds_toArray, List.set_cons_succ, List.set_cons_zero]
          refine wpQE_do rfl rfl _ (fun _ _ => ⟨rfl, rfl⟩) ?_
          simp only [Act.put, List.setIfInBounds_toArray, List.set_cons_succ, List.set_cons_zero]
          refine wpQE_do rfl rfl _ (yieldsE_run (fun w1 _ => exec_index (i := k) rfl rfl rfl Try.underlying22 size_apisum hlt w1)) ?_
          simp only [Act.put, List.setIfInBounds_toArray, List.set_cons_succ, List.set_cons_zero]
          refine wpQE_do rfl rfl _ (yieldsE_run (fun w1 h => exec_load_at rfl rfl (hca w1 h) agg_apisum HPL.out)) ?_
          simp only [Act.put, List.setIfInBounds_toArray, List.set_cons_succ, List.set_cons_zero]
          refine wpQE_do rfl rfl _ (yieldsE_call rfl Try.call21 (by simp [Act.eval]) (fun w1 _ => rnode_c y pk w1 HYL0.out HPL0.out) hCx) ?_
          simp only [Act.put, List.setIfInBounds_toArray, List.set_cons_succ, List.set_cons_zero]
          refine wpQE_nil ?_
          intro gs w5 hCw5 _ _
          simp only [putAl, Act.put, List.setIfInBounds_toArray, List.set_cons_succ, List.set_cons_zero]
          have B5 := hid (hs1 w5 hCw5)
          have E5 := hid ((HCC.out w5).1 hCw5).base
          have HNV : Hid (((nodeL y pk).map u8v).length = 32) := hid (by rw [List.length_map, nodeL_length])
          have o3 := one_u8 (nodeL y pk)
          clear hs1 e2 hca hCx hCA HCC hCw5
          go_wp2_with (refine wpl_storew rfl _ _ _ rfl rfl rfl B5.out agg_apisum HYL.out HNV.out o3 ?_)
          intro w6 b6 u6
          go_wp2
          go_roundw
          case rel => exact ⟨k + 1, by omega, by go_num, grown_upd (grown_ext HG.out E5.out) u6, by rw [HNX.out]; exact b6⟩
          case measure => simp [intOf]; omega
      · obtain rfl : k = m := by omega
        have hf : leadS nodeL x (L.take k) (ls.take k) = leadS nodeL x L ls := by rw [List.take_of_length_le (by rw [HN.out]; omega), List.take_of_length_le (by rw [HM.out]; omega)]
        have hb := HB.out
        rw [hf] at hb
        have hyl := leadS_length nodeL nodeL_length x L ls HX0.out
        generalize leadS nodeL x L ls = y at *
        have B2 := hid hb
        have EW := hid (EB.out.grown HG.out (by intro q hq; cases hq; exact Nat.le_refl _))
        have ZR := hid (ZB.out.grown HG.out (by simp))
        have HYL : Hid ((y.map u8v).length = 32) := hid (by rw [List.length_map, hyl])
        have o2 := one_u8 y
        clear hb hf HB hyl
        go_wp2_with (first | (refine wpl_loadw rfl 36 _ rfl rfl B2.out agg_apisum HYL.out ?_) | (refine wpl_storew rfl _ _ _ rfl rfl rfl ZR.out agg_apisum (by simp) HYL.out o2 ?_))
        intro w4 b4 u4
        go_wp2
        refine ret_row2 rfl rfl b4 agg_apisum HYL.out rfl ⟨by rw [← HV.out]; rfl, u4.ext EW.out (by omega)⟩
  · have hv := HV2.out
    rw [if_neg hmn] at hv
    have g1 : ((m : Int) != (N : Int)) = true := by simp; omega
    have g2 : (m != N) = true := by simp [hmn]
    have g3 : ((N : Int) != (m : Int)) = true := by simp; omega
    have g4 : (N != m) = true := by simp; omega
    have HV := hid hv
    clear hv HV2 hmn
    go_wp2_with (refine wpl_storew rfl _ _ _ rfl rfl rfl ZB.out agg_apisum (by simp) (xs := List.replicate 32 (.int .u8 0)) (by simp) (one_zeros 32) ?_)
    intro w4 b4 u4
    go_wp2
    refine ret_row2 rfl rfl b4 agg_apisum (by simp) rfl ⟨by rw [← HV.out]; unfold sumErr; rw [zero32_map]; rfl, u4.ext EB.out (by omega)⟩
end

section
open Go Go.RowKit

theorem agg_proof : AggT Try.prog 24 3 := ⟨⟨_, Try.underlying24, rfl⟩, by kernel_rfl⟩
theorem rootByL_length (x : List UInt8) (I Z : Int) (ls : List (List UInt8)) (hx : x.length = 32) : (rootByL x I Z ls).1.length = 32 := by
  unfold rootByL
  split
  · exact zero32_length
  · split
    · exact zero32_length
    · split
      · exact leadS_length _ nodeL_length _ _ _ hx
      · exact zero32_length
def provedL (root x : List UInt8) (I Z : Int) (ls : List (List UInt8)) : Int := if (rootByL x I Z ls).2 = 0 then (if (rootByL x I Z ls).1 == root then 0 else 12) else (rootByL x I Z ls).2

set_option maxRecDepth 100000 in
set_option maxHeartbeats 1000000 in
theorem proved_c (root x : List UInt8) (I Z : Int) (ls : List (List UInt8)) (m c : Nat) (a : Option Addr) (w : World) (hr : root.length = 32) (hx : x.length = 32) (h32 : All32 ls) (hm : ls.length = m) (hmc : m ≤ c) (hcl : Cells w a (rows ls)) :
    Calls Try.prog 24 #[.agg (root.map u8v).toArray, .agg (x.map u8v).toArray, .agg #[.int .i64 I, .int .i64 Z, .slice a m c]] w fun e w' => e = .returned (.int .i64 (provedL root x I Z ls)) ∧ Ext w w' := by
  have HX : Hid ((x.map u8v).length = 32) := hid (by rw [List.length_map, hx])
  have HR : Hid ((root.map u8v).length = 32) := hid (by rw [List.length_map, hr])
  have HR0 := hid hr
  obtain ⟨V, hV⟩ : ∃ V, provedL root x I Z ls = V := ⟨_, rfl⟩
  rw [hV]
  unfold provedL at hV
  have hy := rootByL_length x I Z ls hx
  have hrb := hid (fun w' h => rootBy_c x I Z ls m c a w' hx h32 hm hmc h)
  generalize rootByL x I Z ls = p at *
  obtain ⟨y, q⟩ := p
  unfold sumErr at hrb
  simp only at hrb hy hV
  have HYL : Hid ((y.map u8v).length = 32) := hid (by rw [List.length_map, hy])
  have HY0 := hid hy
  have HV := hid hV
  have HC := hid hcl
  have o1 := one_u8 y
  clear hV hx h32 hm hcl hr hy
  go_enter Try.func24, Try.ntmps24
  go_upto_region 1 with (fail)
  generalize hwA : World.alloc (World.alloc (World.alloc w _) _) _ = wA
  have rA : Blk wA w.heap.size (root.map u8v) 36 := by rw [← hwA]; exact ((Blk.mk_alloc rfl rfl).alloc _).alloc _
  have xA : Blk wA (w.heap.size + 1) (x.map u8v) 36 := by rw [← hwA]; exact (Blk.mk_alloc (by simp) rfl).alloc _
  have pA : Blk wA (w.heap.size + 2) [.int .i64 I, .int .i64 Z, .slice a m c] 24 := by rw [← hwA]; exact Blk.mk_alloc (by simp) rfl
  have eA : Ext w wA := by rw [← hwA]; exact ((((Ext.refl w).alloc _).alloc _).alloc _)
  clear hwA
  have XA := hid xA
  have PA := hid pA
  have RA := hid rA
  have EA := hid eA
  clear xA rA eA pA
  go_wp2_with (first | (refine wpl_loadw rfl 36 _ rfl rfl XA.out agg_apisum HX.out ?_) | (refine wpl_loadw rfl 24 _ rfl rfl PA.out agg_proof rfl ?_))
  refine (hrb.out wA (HC.out.ext EA.out)).mono ?_
  rintro e wB ⟨rfl, eB⟩
  have RB := hid (RA.out.ext eB)
  have EB := hid (EA.out.ext eB)
  clear eB
  go_wp2_with (first | (refine wpl_storew rfl _ _ _ rfl rfl rfl (Blk.mk_alloc rfl rfl) agg_apisum (by simp) HYL.out o1 ?_))
  intro wC bC uC
  have eC : Ext wB wC := uC.ext ((Ext.refl wB).alloc _) (Nat.le_refl _)
  have RC := hid (RB.out.ext eC)
  have EC := hid (EB.out.ext eC)
  have BC := hid bC
  have hneq := hid (fun w => neq_arr Try.underlying36 y root HY0.out HR0.out w)
  clear eC uC bC RB EB RA XA PA EA HC hrb o1
  by_cases hq : q = 0
  · subst hq
    have hv := HV.out
    rw [if_pos rfl] at hv
    have hn2 := hneq.out
    clear HV hneq
    cases hyr : (y == root) with
    | true =>
      rw [hyr] at hv hn2
      have HN := hid hn2
      have HV2 := hid hv
      clear hv hn2 hyr
      go_wp2_with (first | (refine wpg_loadw rfl 36 _ rfl rfl BC.out agg_apisum HYL.out ?_) | (refine wpg_loadw rfl 36 _ rfl rfl RC.out agg_apisum HR.out ?_) | (refine wpg_cmp rfl .neq _ _ _ _ rfl rfl rfl guard_sum HN.out ?_))
      go_ret
      exact ⟨by rw [← HV2.out]; rfl, EC.out⟩
    | false =>
      rw [hyr] at hv hn2
      have HN := hid hn2
      have HV2 := hid hv
      clear hv hn2 hyr
      go_wp2_with (first | (refine wpg_loadw rfl 36 _ rfl rfl BC.out agg_apisum HYL.out ?_) | (refine wpg_loadw rfl 36 _ rfl rfl RC.out agg_apisum HR.out ?_) | (refine wpg_cmp rfl .neq _ _ _ _ rfl rfl rfl guard_sum HN.out ?_))
      go_ret
      exact ⟨by rw [← HV2.out]; rfl, EC.out⟩
  · have hv := HV.out
    rw [if_neg hq] at hv
    subst hv
    clear HV hneq
    have hqf : (q == 0) = false := by simp [hq]
    go_wp2
    go_ret
    exact ⟨rfl, EC.out⟩
end

section
open Go Go.RowKit

section
variable {P : Program} {ops : Array Oper} {Q : Exit → Act → World → Prop} {S : World → Prop} {W : List Nat}

/-- whichever comes up; S is shown behind all operations but those of W -/
def wpAnyW (P : Program) (ops : Array Oper) (Q : Exit → Act → World → Prop) (S : World → Prop) (W : List Nat) : Nat → Array Bool → Act → World → Prop
  | 0, listed, a, w => Region.ready .any ops listed = [] ∧ Q .normal a w
  | f + 1, listed, a, w => (Region.ready .any ops listed = [] → Q .normal a w) ∧
      ∀ i ∈ Region.ready .any ops listed, wpOp P ops Q i (fun a' w' => (W.contains i = false → S w → S w') ∧ wpAnyW P ops Q S W f (listed.setIfInBounds i true) a' w') a w

theorem wpAny_of_W : ∀ (f : Nat) (listed : Array Bool) (a : Act) (w : World), wpAnyW P ops Q S W f listed a w → wpAny P .any ops Q f listed a w
  | 0, _, _, _, h => h
  | f + 1, _, _, _, h => ⟨h.1, fun i hi => wpOp_mono (fun a' w' h' => wpAny_of_W f _ a' w' h'.2) (h.2 i hi)⟩

/-- what stands in listed has all that it waits for in listed -/
def Down (ops : Array Oper) (listed : Array Bool) : Prop := ∀ k, listed.getD k false = true → ∀ o, ops[k]? = some o → ∀ e ∈ o.after, Region.binds .any e = true → listed.getD e.on false = true
/-- j waits for i, through others too -/
def reachW (ops : Array Oper) : Nat → Nat → Nat → Bool
  | 0, _, _ => false
  | f + 1, j, i => waits ops j i || (List.range ops.size).any fun k => waits ops j k && reachW ops f k i

theorem reachW_listed {listed : Array Bool} (hd : Down ops listed) : ∀ (f j i : Nat), (∀ k, waits ops j k = true → listed.getD k false = true) → reachW ops f j i = true → listed.getD i false = true
  | 0, _, _, _, h => by cases h
  | f + 1, j, i, hj, h => by
    simp only [reachW, Bool.or_eq_true, List.any_eq_true, Bool.and_eq_true] at h
    rcases h with h | ⟨k, _, h1, h2⟩
    · exact hj i h
    · refine reachW_listed hd f k i (fun q hq => ?_) h2
      obtain ⟨o, ho, e, he, hb, hon⟩ := waits_spec hq
      rw [← hon]
      exact hd k (hj k h1) o ho e he hb

theorem ready_waits {listed : Array Bool} {j : Nat} (hj : j ∈ Region.ready .any ops listed) : ∀ k, waits ops j k = true → listed.getD k false = true := by
  intro k hk
  obtain ⟨_, o, ho, hall⟩ := mem_ready.1 hj
  obtain ⟨o', ho', e, he, hb, hon⟩ := waits_spec hk
  have : o' = o := Option.some.inj (ho'.symm.trans ho)
  subst this
  rw [← hon]; exact hall e he hb

theorem Down.set {listed : Array Bool} {j : Nat} (hd : Down ops listed) (hj : j ∈ Region.ready .any ops listed) : Down ops (listed.setIfInBounds j true) := by
  intro k hk o ho e he hb
  by_cases hkj : j = k
  · subst hkj
    obtain ⟨_, o', ho', hall⟩ := mem_ready.1 hj
    have : o' = o := Option.some.inj (ho'.symm.trans ho)
    subst this
    exact getD_set_true (hall e he hb)
  · rw [getD_set_ne false hkj] at hk
    exact getD_set_true (hd k hk o ho e he hb)

theorem wpAnyW_first {i : Nat} {oi : Oper} {v : Value} (n : Nat) (hi : ops[i]? = some oi) (hsel : ∀ (j : Nat) (o : Oper) cs b, ops[j]? = some o → o.op ≠ .select cs b) (hW : ∀ j, W.contains j = true → reachW ops n j i = true)
    (hQ : ∀ c a w, Q (.panic c) (a.put oi.dst v) w → Q (.panic c) a w) :
    ∀ (f : Nat) (listed : Array Bool) (a : Act) (w : World), Down ops listed →
      (∀ j oj, ops[j]? = some oj → j ≠ i → listed.getD j true = false → (∀ e ∈ oj.after, Region.binds .any e = true → e.on ≠ i) → oi.apart ops oj = true) →
      i ∈ Region.ready .any ops listed → YieldsIf P ops S oi v a → S w →
      wpAnyW P ops Q S W f (listed.setIfInBounds i true) (a.put oi.dst v) w → wpAnyW P ops Q S W (f + 1) listed a w := by
  intro f
  induction f with
  | zero =>
    intro listed a w _ _ hr hy hS H
    refine ⟨fun h => (by rw [h] at hr; cases hr), fun j hj => ?_⟩
    by_cases hji : j = i
    · subst hji; exact hy.wpOp hi hS ⟨fun _ _ => hS, H⟩
    · have := ready_mono hj hji
      rw [H.1] at this
      cases this
  | succ f ih =>
    intro listed a w hdn hfree hr hy hS H
    refine ⟨fun h => (by rw [h] at hr; cases hr), fun j hj => ?_⟩
    by_cases hji : j = i
    · subst hji; exact hy.wpOp hi hS ⟨fun _ _ => hS, H⟩
    · have h1 := H.2 j (ready_mono hj hji)
      obtain ⟨hjun, oj, hoj, hall⟩ := mem_ready.1 hj
      have h0 := (mem_ready.1 hr).1
      have hiu : listed.getD i false = true → False := fun h => by
        simp only [Array.getD_eq_getD_getElem?] at h h0
        cases hq : listed[i]? with
        | none => rw [hq] at h0; simp at h0
        | some b => rw [hq] at h h0; simp at h h0; rw [h] at h0; cases h0
      have hnot : ∀ e ∈ oj.after, Region.binds .any e = true → e.on ≠ i := fun e he hb heq => by
        have h1 := hall e he hb
        rw [heq] at h1
        exact hiu h1
      have hWj : W.contains j = false := by
        cases hq : W.contains j with
        | false => rfl
        | true => exact absurd (reachW_listed hdn n j i (ready_waits hj) (hW j hq)) hiu
      have h2 := wpOp_putIf hoj (hfree j oj hoj hji hjun hnot) (fun cs b => hsel i oi cs b hi) (fun cs b => hsel j oj cs b hoj) hQ hy h1
      have hfree' : ∀ k ok, ops[k]? = some ok → k ≠ i → (listed.setIfInBounds j true).getD k true = false →
          (∀ e ∈ ok.after, Region.binds .any e = true → e.on ≠ i) → oi.apart ops ok = true := fun k ok hk hki hun hno => by
        refine hfree k ok hk hki ?_ hno
        by_cases hjk : j = k
        · subst hjk; exact hjun
        · rw [getD_set_ne true hjk] at hun; exact hun
      refine wpOp_mono (fun a' w' h3 => ⟨fun _ _ => h3.2.1 hWj hS, ih (listed.setIfInBounds j true) a' w' (hdn.set hj) hfree' (ready_mono hr (Ne.symm hji)) h3.1 (h3.2.1 hWj hS) ?_⟩) h2
      rw [Array.setIfInBounds_comm _ _ hji]
      exact h3.2.2

/-- what yields in whatever world -/
theorem wpAnyW_pure {i : Nat} {oi : Oper} {v : Value} (hi : ops[i]? = some oi) (hsel : ∀ (j : Nat) (o : Oper) cs b, ops[j]? = some o → o.op ≠ .select cs b)
    (hQ : ∀ c a w, Q (.panic c) (a.put oi.dst v) w → Q (.panic c) a w) :
    ∀ (f : Nat) (listed : Array Bool) (a : Act) (w : World),
      (∀ j oj, ops[j]? = some oj → j ≠ i → listed.getD j true = false → (∀ e ∈ oj.after, Region.binds .any e = true → e.on ≠ i) → oi.apart ops oj = true) →
      i ∈ Region.ready .any ops listed → YieldsIf P ops (fun _ => True) oi v a →
      wpAnyW P ops Q S W f (listed.setIfInBounds i true) (a.put oi.dst v) w → wpAnyW P ops Q S W (f + 1) listed a w := by
  intro f
  induction f with
  | zero =>
    intro listed a w _ hr hy H
    refine ⟨fun h => (by rw [h] at hr; cases hr), fun j hj => ?_⟩
    by_cases hji : j = i
    · subst hji; exact hy.wpOp hi trivial ⟨fun _ h => h, H⟩
    · have := ready_mono hj hji
      rw [H.1] at this
      cases this
  | succ f ih =>
    intro listed a w hfree hr hy H
    refine ⟨fun h => (by rw [h] at hr; cases hr), fun j hj => ?_⟩
    by_cases hji : j = i
    · subst hji; exact hy.wpOp hi trivial ⟨fun _ h => h, H⟩
    · have h1 := H.2 j (ready_mono hj hji)
      obtain ⟨hjun, oj, hoj, hall⟩ := mem_ready.1 hj
      have hnot : ∀ e ∈ oj.after, Region.binds .any e = true → e.on ≠ i := fun e he hb heq => by
        have h1 := hall e he hb
        have h0 := (mem_ready.1 hr).1
        rw [heq] at h1
        simp only [Array.getD_eq_getD_getElem?] at h1 h0
        cases hq : listed[i]? with
        | none => rw [hq] at h0; simp at h0
        | some b => rw [hq] at h1 h0; simp at h1 h0; rw [h1] at h0; cases h0
      have h2 := wpOp_putIf hoj (hfree j oj hoj hji hjun hnot) (fun cs b => hsel i oi cs b hi) (fun cs b => hsel j oj cs b hoj) hQ hy h1
      have hfree' : ∀ k ok, ops[k]? = some ok → k ≠ i → (listed.setIfInBounds j true).getD k true = false →
          (∀ e ∈ ok.after, Region.binds .any e = true → e.on ≠ i) → oi.apart ops ok = true := fun k ok hk hki hun hno => by
        refine hfree k ok hk hki ?_ hno
        by_cases hjk : j = k
        · subst hjk; exact hjun
        · rw [getD_set_ne true hjk] at hun; exact hun
      refine wpOp_mono (fun a' w' h3 => ⟨h3.2.1, ih (listed.setIfInBounds j true) a' w' hfree' (ready_mono hr (Ne.symm hji)) h3.1 ?_⟩) h2
      rw [Array.setIfInBounds_comm _ _ hji]
      exact h3.2.2

def downB (ops : Array Oper) (listed : Array Bool) : Bool := (List.range ops.size).all fun k => !listed.getD k false || (ops[k]?).all fun o => o.after.all fun e => !Region.binds .any e || listed.getD e.on false
theorem down_of {listed : Array Bool} (h : downB ops listed = true) : Down ops listed := by
  intro k hk o ho e he hb
  have hkl : k < ops.size := (Array.getElem?_eq_some_iff.1 ho).1
  have h1 := List.all_eq_true.1 h k (List.mem_range.2 hkl)
  rw [hk, ho] at h1
  simp only [Bool.not_true, Bool.false_or, Option.all_some, Array.all_eq_true'] at h1
  have := h1 e he
  rw [hb] at this
  simpa using this

/-- one operation is taken first -/
theorem w_take (i : Nat) {oi : Oper} {r : List Oper} {v : Value} {f : Nat} {listed : Array Bool} {a : Act} {w : World} (hi : ops.toList.drop i = oi :: r)
    (hs : Region.noSelect ops = true) (hW : (W.all fun j => reachW ops 12 j i) = true) (hdn : downB ops listed = true) (hf : Region.free .any ops listed i = true) (hr : (Region.ready .any ops listed).contains i = true)
    (hQ : ∀ c a w, Q (.panic c) (a.put oi.dst v) w → Q (.panic c) a w) (hy : YieldsIf P ops S oi v a) (hS : S w)
    (h : wpAnyW P ops Q S W f (listed.setIfInBounds i true) (a.put oi.dst v) w) : wpAnyW P ops Q S W (f + 1) listed a w :=
  wpAnyW_first 12 (op_of_drop hi) (Region.noSelect_spec hs) (fun j hj => List.all_eq_true.1 hW j (by simpa using hj)) hQ f listed a w (down_of hdn) (Region.free_spec (op_of_drop hi) hf) (by simpa using hr) hy hS h

theorem w_pure (i : Nat) {oi : Oper} {r : List Oper} {v : Value} {f : Nat} {listed : Array Bool} {a : Act} {w : World} (hi : ops.toList.drop i = oi :: r)
    (hs : Region.noSelect ops = true) (hf : Region.free .any ops listed i = true) (hr : (Region.ready .any ops listed).contains i = true)
    (hQ : ∀ c a w, Q (.panic c) (a.put oi.dst v) w → Q (.panic c) a w) (hy : YieldsIf P ops (fun _ => True) oi v a)
    (h : wpAnyW P ops Q S W f (listed.setIfInBounds i true) (a.put oi.dst v) w) : wpAnyW P ops Q S W (f + 1) listed a w :=
  wpAnyW_pure (op_of_drop hi) (Region.noSelect_spec hs) hQ f listed a w (Region.free_spec (op_of_drop hi) hf) (by simpa using hr) hy h

/-- just one operation may come up -/
theorem w_one {i : Nat} {o : Oper} {r : List Oper} {f : Nat} {listed : Array Bool} {a : Act} {w : World} (hr : Region.ready .any ops listed = [i]) (ho : ops.toList.drop i = o :: r) (hW : W.contains i = false) (hS : S w)
    (h : ∀ Q' : Exit → Act → World → Prop, (∀ a w, S w → wpAnyW P ops Q S W f (listed.setIfInBounds i true) a w → Q' .normal a w) → wpList P ops Q' [o] a w) :
    wpAnyW P ops Q S W (f + 1) listed a w := by
  refine ⟨fun h0 => (by rw [hr] at h0; cases h0), fun j hj => ?_⟩
  rw [hr] at hj
  obtain rfl : j = i := by simpa using hj
  exact wpOp_of_list (op_of_drop ho) (h _ fun a w hS hW => ⟨fun _ _ => hS, hW⟩)
/-- just one operation may come up, a late one -/
theorem w_late {i : Nat} {o : Oper} {r : List Oper} {f : Nat} {listed : Array Bool} {a : Act} {w : World} (hr : Region.ready .any ops listed = [i]) (ho : ops.toList.drop i = o :: r) (hW : W.contains i = true)
    (h : ∀ Q' : Exit → Act → World → Prop, (∀ a w, True → wpAnyW P ops Q S W f (listed.setIfInBounds i true) a w → Q' .normal a w) → wpList P ops Q' [o] a w) :
    wpAnyW P ops Q S W (f + 1) listed a w := by
  refine ⟨fun h0 => (by rw [hr] at h0; cases h0), fun j hj => ?_⟩
  rw [hr] at hj
  obtain rfl : j = i := by simpa using hj
  exact wpOp_of_list (op_of_drop ho) (h _ fun a w _ hX => ⟨fun h => (by rw [hW] at h; cases h), hX⟩)
theorem w_done {listed : Array Bool} {a : Act} {w : World} (hr : Region.ready .any ops listed = []) (h : Q .normal a w) : ∀ f, wpAnyW P ops Q S W f listed a w
  | 0 => ⟨hr, h⟩
  | _ + 1 => ⟨fun _ => h, by rw [hr]; simp⟩
theorem wp_region_w {id : Nat} {a : Act} {w : World} (hm : P.follows .mixedOrders = true) (hS : S w.drew)
    (h : S w.drew → wpAnyW P ops Q S W ops.size (Array.replicate ops.size false) a w.drew) : (Code.region id ops true).wp P Q a w :=
  wp_region_any hm (wpAny_of_W _ _ _ _ (h hS))
end
theorem Cls.two_room {w0 W : World} {L : List Nat} {r r2 n n2 : Nat} {vs vs2 : List Value} {T T2 : TypeId} (h : Ext w0 W) (k : Kept W L W) (hb : Blk W r vs T) (hn : vs.length = n) (hb2 : Blk W r2 vs2 T2) (hn2 : vs2.length = n2) : Cls w0 W L [(r, n, T), (r2, n2, T2)] W :=
  ⟨h, k, by simp only [List.mem_cons, List.not_mem_nil, or_false]; rintro x (rfl | rfl) <;> first | exact ⟨hb.lt, vs, hn, hb⟩ | exact ⟨hb2.lt, vs2, hn2, hb2⟩⟩
end

section
open Go Go.RowKit

theorem ret_rows2 {P : Program} {fn : Func} {R : Ending → World → Prop} {a : Act} {w : World} {p u : Tmp} {ty : TypeId} {g h : Nat} {vs us : List Value} {T U : TypeId}
    (hres : fn.results = #[.cell p ty, .cell u ty]) (hp : a.tmps.getD p undef = .pointer (some ⟨g, 0, none⟩)) (hu : a.tmps.getD u undef = .pointer (some ⟨h, 0, none⟩)) (hb : Blk w g vs T) (hc : Blk w h us U)
    {n : Nat} (ht : AggT P ty n) (hn : vs.length = n) (hm : us.length = n)
    (hdef : a.defers = []) (hR : R (.returned (.tuple #[.agg vs.toArray, .agg us.toArray])) w) : bodyPost P fn R .ret a w := by
  have h1 := run_load_sub (P := P) (off := 0) hb ht (by omega)
  have h2 : (vs.drop 0).take n = vs := by simp [← hn]
  rw [h2] at h1
  have h3 := run_load_sub (P := P) (off := 0) hc ht (by omega)
  have h4 : (us.drop 0).take n = us := by simp [← hm]
  rw [h4] at h3
  refine bodyPost_ret (v := .tuple #[.agg vs.toArray, .agg us.toArray]) ?_ hdef hR
  simp only [Array.getD_eq_getD_getElem?] at hp hu
  simp [results, hres, hp, hu, asAddr, h1, h3]
theorem ret_rows3 {P : Program} {fn : Func} {R : Ending → World → Prop} {a : Act} {w : World} {p u q : Tmp} {ty : TypeId} {g h : Nat} {vs us : List Value} {T U : TypeId}
    (hres : fn.results = #[.cell p ty, .cell u ty, .tmp q]) (hp : a.tmps.getD p undef = .pointer (some ⟨g, 0, none⟩)) (hu : a.tmps.getD u undef = .pointer (some ⟨h, 0, none⟩)) (hb : Blk w g vs T) (hc : Blk w h us U)
    {n : Nat} (ht : AggT P ty n) (hn : vs.length = n) (hm : us.length = n)
    (hdef : a.defers = []) (hR : R (.returned (.tuple #[.agg vs.toArray, .agg us.toArray, a.tmps.getD q undef])) w) : bodyPost P fn R .ret a w := by
  have h1 := run_load_sub (P := P) (off := 0) hb ht (by omega)
  have h2 : (vs.drop 0).take n = vs := by simp [← hn]
  rw [h2] at h1
  have h3 := run_load_sub (P := P) (off := 0) hc ht (by omega)
  have h4 : (us.drop 0).take n = us := by simp [← hm]
  rw [h4] at h3
  refine bodyPost_ret (v := .tuple #[.agg vs.toArray, .agg us.toArray, a.tmps.getD q undef]) ?_ hdef hR
  simp only [Array.getD_eq_getD_getElem?] at hp hu
  simp [results, hres, hp, hu, asAddr, h1, h3]

set_option maxRecDepth 100000 in
set_option maxHeartbeats 1000000 in
theorem growthSteps_c (m n : Nat) (w : World) (h0 : 1 ≤ m) (h1 : m ≤ n) (h2 : n ≤ 65536) :
    Calls Try.prog 54 #[.int .i64 (m : Int), .int .i64 (n : Int)] w fun e w' => e = .returned (.int .i64 (growN m n true : Nat)) ∧ w = w' := by
  obtain ⟨N, hN⟩ : ∃ N, growN m n true = N := ⟨_, rfl⟩
  have hNle := growN_le m n true h1 h0
  rw [hN] at hNle ⊢
  have HN := hid hN
  clear hN
  go_enter Try.func54, Try.ntmps54
  go_wp2
  go_loop [0, 1, 5, 6] (fun a b c d => ∃ (m' n' q : Nat) (wh : Bool), 1 ≤ m' ∧ m' ≤ n' ∧ n' ≤ n ∧ q + growN m' n' wh = N ∧ a = .int .i64 (m' : Int) ∧ b = .int .i64 (n' : Int) ∧ c = .int .i64 (q : Int) ∧ d = .bool wh) (fun _ b _ _ => (intOf b).toNat)
  case atStart => exact ⟨m, n, 0, true, h0, h1, Nat.le_refl _, by rw [HN.out]; omega, rfl, rfl, rfl, rfl⟩
  case round =>
    obtain ⟨m', n', q, wh, a0, a1, a2, a3, rfl, rfl, rfl, rfl⟩ := hrel
    have HS := hid a3
    have hmle : q ≤ N := by omega
    clear a3
    by_cases hn : m' < n'
    · have hsp := splitN_spec (n := n') (by omega)
      have hc := hid (fun w => split_c n' w (by omega) (by omega))
      have hl := hid (fun h => growN_left (m := m') (n := n') (whole := wh) a0 hn h)
      have hr := hid (fun h => growN_right (m := m') (n := n') (whole := wh) a0 hn h)
      generalize splitN n' = k at *
      obtain ⟨k1, k2, k3⟩ := hsp
      by_cases hik : m' ≤ k
      · go_wp2_with (go_at_call 73; refine (hc.out _).mono ?_; rintro e w' ⟨rfl, rfl⟩)
        go_round
        case rel =>
          refine ⟨m', k, q + 1, wh, a0, hik, by omega, ?_, rfl, rfl, by go_num, rfl⟩
          have := HS.out
          rw [hl.out hik] at this
          omega
        case measure => simp [intOf]; omega
      · go_wp2_with (go_at_call 73; refine (hc.out _).mono ?_; rintro e w' ⟨rfl, rfl⟩)
        go_round
        case rel =>
          refine ⟨m' - k, n' - k, q + 1, false, by omega, by omega, by omega, ?_, by first | go_num | (congr 1; omega), by first | go_num | (congr 1; omega), by go_num, rfl⟩
          have := HS.out
          rw [hr.out hik] at this
          omega
        case measure => simp [intOf]; omega
    · obtain rfl : m' = n' := by omega
      have h0 := HS.out
      rw [growN_eq] at h0
      cases wh with
      | true =>
        obtain rfl : q = N := by simpa using h0
        clear HS h0
        go_wp2
        go_ret
        exact ⟨rfl, rfl⟩
      | false =>
        have hqn : q + 1 = N := by simpa using h0
        have hq2 : ((q : Int) + 1) = (N : Int) := by omega
        have HQ := hid hq2
        clear HS h0 hqn hq2
        go_wp2
        go_ret
        exact ⟨ret_eq (int_eq HQ.out), rfl⟩
end

section
open Go Go.RowKit

def pairV (p : List UInt8 × List UInt8) : Value := .tuple #[.agg (p.1.map u8v).toArray, .agg (p.2.map u8v).toArray]

theorem followL_length (x : List UInt8) (hx : x.length = 32) : ∀ (n m : Nat) (wh : Bool) (ls : List (List UInt8)), 1 ≤ m → m ≤ n → All32 ls → ls.length = growN m n wh → (followL nodeL x m n wh ls).1.length = 32 ∧ (followL nodeL x m n wh ls).2.length = 32 := by
  intro n
  induction n using Nat.strongRecOn with
  | ind n ih =>
  intro m wh ls h1 h2 h32 hl
  rcases Nat.lt_or_ge m n with h3 | h3
  · have hs := splitN_spec (n := n) (by omega)
    have hne : ls ≠ [] := by
      intro h
      rw [h] at hl
      by_cases hm : m ≤ splitN n
      · rw [growN_left h1 h3 hm] at hl; simp at hl
      · rw [growN_right h1 h3 hm] at hl; simp at hl
    obtain ⟨rest, last, rfl⟩ : ∃ rest last, ls = rest ++ [last] := ⟨ls.dropLast, ls.getLast hne, (List.dropLast_concat_getLast hne).symm⟩
    have hr32 : All32 rest := fun l hl => h32 l (by simp [hl])
    rw [List.length_append] at hl
    simp only [List.length_cons, List.length_nil] at hl
    by_cases hm : m ≤ splitN n
    · rw [growN_left h1 h3 hm] at hl
      rw [followL_left _ _ _ _ _ h1 h3 hm]
      exact ⟨(ih (splitN n) (by omega) m wh rest h1 hm hr32 (by omega)).1, nodeL_length _ _⟩
    · rw [growN_right h1 h3 hm] at hl
      rw [followL_right _ _ _ _ _ h1 h3 hm]
      exact ⟨nodeL_length _ _, nodeL_length _ _⟩
  · obtain rfl : m = n := by omega
    rw [followL_eq]
    rw [growN_eq] at hl
    cases wh with
    | true => exact ⟨hx, hx⟩
    | false =>
      obtain ⟨y, rfl⟩ := List.length_eq_one_iff.1 (by simpa using hl)
      have := h32 y (by simp)
      exact ⟨this, this⟩

set_option maxRecDepth 100000 in
set_option maxHeartbeats 2000000 in
theorem follow_c : ∀ (n m : Nat) (x : List UInt8) (wh : Bool) (ls : List (List UInt8)) (L c : Nat) (a : Option Addr) (w : World), 1 ≤ m → m ≤ n → n ≤ 65536 → x.length = 32 → All32 ls → ls.length = L → L = growN m n wh → L ≤ c → Cells w a (rows ls) →
    Calls Try.prog 55 #[.agg (x.map u8v).toArray, .int .i64 (m : Int), .int .i64 (n : Int), .bool wh, .slice a L c] w fun e w' => e = .returned (pairV (followL nodeL x m n wh ls)) ∧ Ext w w' := by
  intro n
  induction n using Nat.strongRecOn with
  | ind n ih =>
  intro m x wh ls L c a w h0 h1 h2 hx h32 hL hLg hLc hcl
  have HIH := hid ih
  have HX : Hid ((x.map u8v).length = 32) := hid (by rw [List.length_map, hx])
  have HX0 := hid hx
  have o0 := one_u8 x
  clear ih
  obtain ⟨V, hV⟩ : ∃ V, followL nodeL x m n wh ls = V := ⟨_, rfl⟩
  have hVl := followL_length x hx n m wh ls h0 h1 h32 (by rw [hL]; exact hLg)
  rw [hV] at hVl ⊢
  have HV := hid hV
  clear hV hx
  by_cases hn : m = n
  · subst hn
    have hv := HV.out
    rw [followL_eq] at hv
    cases wh with
    | true =>
      rw [if_pos rfl] at hv
      subst hv
      clear HIH HV hVl hLg hcl h32 hL
      go_enter Try.func55, Try.ntmps55
      go_upto_region 1 with (fail)
      generalize hwA : World.alloc (World.alloc (World.alloc w _) _) _ = wA
      have xA : Blk wA w.heap.size (x.map u8v) 36 := by rw [← hwA]; exact ((Blk.mk_alloc rfl rfl).alloc _).alloc _
      have yA : Blk wA (w.heap.size + 1) (List.replicate 32 (.int .u8 0)) 36 := by rw [← hwA]; exact (Blk.mk_alloc (by simp) rfl).alloc _
      have zA : Blk wA (w.heap.size + 2) (List.replicate 32 (.int .u8 0)) 36 := by rw [← hwA]; exact Blk.mk_alloc (by simp) rfl
      have eA : Ext w wA := by rw [← hwA]; exact ((((Ext.refl w).alloc _).alloc _).alloc _)
      clear hwA
      have XA := hid xA
      have YA := hid yA
      have ZA := hid zA
      have EA := hid eA
      clear xA yA zA eA
      go_wp2
      obtain ⟨C, hC⟩ : ∃ C : World → Prop, C = Cls w wA [w.heap.size] [(w.heap.size + 1, 32, 36), (w.heap.size + 2, 32, 36)] := ⟨_, rfl⟩
      have hC0 : ∀ w', C w' ↔ Cls w wA [w.heap.size] [(w.heap.size + 1, 32, 36), (w.heap.size + 2, 32, 36)] w' := fun w' => by rw [hC]
      clear hC
      have HCC := hid hC0
      clear hC0
      have hCx : ∀ w w', C w → Ext w w' → C w' := fun w w' h1 h2 => (HCC.out w').2 (((HCC.out w).1 h1).ext h2)
      have hCA : C wA := (HCC.out _).2 (Cls.two_room EA.out (Kept.one XA.out.lt) YA.out (by simp) ZA.out (by simp))
      have hs1 : ∀ w1, C w1 → Blk w1 w.heap.size (x.map u8v) 36 := fun w1 h1 => ((HCC.out w1).1 h1).blk XA.out (by simp)
      refine wp_region_held_drew (S := C) (by kernel_rfl) (hCx _ _ hCA (Ext.refl _).drew) (fun hS0 => ?_)
      refine held_take 0 (v := _) rfl (by kernel_rfl) (by kernel_rfl) (by kernel_rfl) (fun _ _ _ h => h) (yieldsI_loadw rfl _ _ rfl rfl hs1 agg_apisum HX.out) hS0 ?_
      simp only [Act.put, List.setIfInBounds_toArray, List.set_cons_succ, List.set_cons_zero]
      refine held_take 1 (v := _) rfl (by kernel_rfl) (by kernel_rfl) (by kernel_rfl) (fun _ _ _ h => h) (yieldsI_loadw rfl _ _ rfl rfl hs1 agg_apisum HX.out) hS0 ?_
      simp only [Act.put, List.setIfInBounds_toArray, List.set_cons_succ, List.set_cons_zero]
      generalize wA.drew = wD at *
      obtain ⟨vy, hvy, yD⟩ := ((HCC.out wD).1 hS0).at_room (r := w.heap.size + 1) (n := 32) (T := 36) (by simp)
      have YD := hid yD
      have HVY := hid hvy
      have HCD := hid hS0
      clear yD hvy hS0
      try dsimp only
      try simp only [Act.put, List.setIfInBounds_toArray, List.set_cons_succ, List.set_cons_zero]
      refine held_one (i := 2) (by kernel_rfl) rfl ?_
      intro Q' hQ
      go_wp2_with (refine wpl_storew rfl _ _ _ rfl rfl rfl YD.out agg_apisum HVY.out HX.out o0 ?_)
      intro wE bE uE
      have hCE : C wE := (HCC.out wE).2 (((HCC.out wD).1 HCD.out).store uE bE (by simp [HX.out]) (by omega) (by simp <;> omega))
      go_wp2_with fail
      refine hQ _ _ hCE ?_
      clear hQ Q' uE YD HVY HCD
      obtain ⟨vz, hvz, zE⟩ := ((HCC.out wE).1 hCE).at_room (r := w.heap.size + 2) (n := 32) (T := 36) (by simp)
      have ZE := hid zE
      have HVZ := hid hvz
      have HCE := hid hCE
      have BE0 := hid bE
      clear zE hvz hCE bE
      try dsimp only
      try simp only [Act.put, List.setIfInBounds_toArray, List.set_cons_succ, List.set_cons_zero]
      refine held_one (i := 3) (by kernel_rfl) rfl ?_
      intro Q' hQ
      go_wp2_with (refine wpl_storew rfl _ _ _ rfl rfl rfl ZE.out agg_apisum HVZ.out HX.out o0 ?_)
      intro wF bF uF
      have hCF : C wF := (HCC.out wF).2 (((HCC.out wE).1 HCE.out).store uF bF (by simp [HX.out]) (by omega) (by simp <;> omega))
      go_wp2_with fail
      refine hQ _ _ hCF ?_
      clear hQ Q'
      have BE := hid (BE0.out.upd uF (by omega))
      have BF := hid bF
      have EF := hid ((HCC.out wF).1 hCF).base
      clear uF BE0 bF ZE HVZ HCE hCF
      refine wpAnyH_done (by kernel_rfl) ?_ _
      go_wp2
      refine ret_rows2 rfl rfl rfl BE.out BF.out agg_apisum HX.out HX.out rfl ⟨rfl, EF.out⟩
    | false =>
      rw [if_neg (by decide)] at hv
      have hl1 : ls.length = 1 := by rw [hL, hLg, growN_eq]; rfl
      obtain ⟨y, rfl⟩ := List.length_eq_one_iff.1 hl1
      obtain rfl : L = 1 := by rw [← hL]; rfl
      have hv' : (y, y) = V := hv
      subst hv'
      have hy := h32 y (by simp)
      obtain ⟨A, rfl, hca⟩ : ∃ A, a = some A ∧ CellsAt w (A.add (0 * 32)) (y.map u8v) := by
        cases a with
        | none => rcases hcl with h | ⟨_, _, h, _⟩
                  · have := rows_length h32; rw [h] at this; simp at this
                  · cases h
        | some A => exact ⟨A, rfl, hcl.rowAt h32 rfl⟩
      have HCA := hid hca
      have HY : Hid ((y.map u8v).length = 32) := hid (by rw [List.length_map, hy])
      have oy := one_u8 y
      clear HIH HV hVl hLg hcl h32 hL hv hl1 hca hy
      go_enter Try.func55, Try.ntmps55
      go_upto_region 1 with (fail)
      generalize hwA : World.alloc (World.alloc (World.alloc w _) _) _ = wA
      have yA : Blk wA (w.heap.size + 1) (List.replicate 32 (.int .u8 0)) 36 := by rw [← hwA]; exact (Blk.mk_alloc (by simp) rfl).alloc _
      have zA : Blk wA (w.heap.size + 2) (List.replicate 32 (.int .u8 0)) 36 := by rw [← hwA]; exact Blk.mk_alloc (by simp) rfl
      have eA : Ext w wA := by rw [← hwA]; exact ((((Ext.refl w).alloc _).alloc _).alloc _)
      clear hwA
      have YA := hid yA
      have ZA := hid zA
      have EA := hid eA
      clear yA zA eA
      go_wp2
      obtain ⟨C, hC⟩ : ∃ C : World → Prop, C = Cls w wA [] [(w.heap.size + 1, 32, 36), (w.heap.size + 2, 32, 36)] := ⟨_, rfl⟩
      have hC0 : ∀ w', C w' ↔ Cls w wA [] [(w.heap.size + 1, 32, 36), (w.heap.size + 2, 32, 36)] w' := fun w' => by rw [hC]
      clear hC
      have HCC := hid hC0
      clear hC0
      have hCx : ∀ w w', C w → Ext w w' → C w' := fun w w' h1 h2 => (HCC.out w').2 (((HCC.out w).1 h1).ext h2)
      have hCA : C wA := (HCC.out _).2 (Cls.two_room EA.out (Kept.none _) YA.out (by simp) ZA.out (by simp))
      have hca : ∀ w1, C w1 → CellsAt w1 (A.add (0 * 32)) (y.map u8v) := fun w1 h1 => HCA.out.ext ((HCC.out w1).1 h1).base
      refine wp_region_held_drew (S := C) (by kernel_rfl) (hCx _ _ hCA (Ext.refl _).drew) (fun hS0 => ?_)
      refine held_take 0 (v := ?tv1) rfl (by kernel_rfl) (by kernel_rfl) (by kernel_rfl) (fun _ _ _ h => h) (.inl ⟨rfl, ?ty1⟩) hS0 ?tr1
      case ty1 => (intro _ _; go_simp; try with_reducible rfl)
      case tr1 =>
      simp only [Act.put, List.setIfInBounds_toArray, List.set_cons_succ, List.set_cons_zero]
      refine held_take 1 (v := _) rfl (by kernel_rfl) (by kernel_rfl) (by kernel_rfl) (fun _ _ _ h => h) (yieldsI_run rfl (fun w1 _ => exec_index (i := 0) rfl rfl rfl Try.underlying22 size_apisum (by omega) w1)) hS0 ?_
      simp only [Act.put, List.setIfInBounds_toArray, List.set_cons_succ, List.set_cons_zero]
      refine held_take 2 (v := _) rfl (by kernel_rfl) (by kernel_rfl) (by kernel_rfl) (fun _ _ _ h => h) (yieldsI_run rfl (fun w1 h => exec_load_at rfl rfl (hca w1 h) agg_apisum HY.out)) hS0 ?_
      simp only [Act.put, List.setIfInBounds_toArray, List.set_cons_succ, List.set_cons_zero]
      refine held_take 3 (v := ?tv2) rfl (by kernel_rfl) (by kernel_rfl) (by kernel_rfl) (fun _ _ _ h => h) (.inl ⟨rfl, ?ty2⟩) hS0 ?tr2
      case ty2 => (intro _ _; go_simp; try with_reducible rfl)
      case tr2 =>
      simp only [Act.put, List.setIfInBounds_toArray, List.set_cons_succ, List.set_cons_zero]
      refine held_take 4 (v := _) rfl (by kernel_rfl) (by kernel_rfl) (by kernel_rfl) (fun _ _ _ h => h) (yieldsI_run rfl (fun w1 _ => exec_index (i := 0) rfl rfl rfl Try.underlying22 size_apisum (by omega) w1)) hS0 ?_
      simp only [Act.put, List.setIfInBounds_toArray, List.set_cons_succ, List.set_cons_zero]
      refine held_take 5 (v := _) rfl (by kernel_rfl) (by kernel_rfl) (by kernel_rfl) (fun _ _ _ h => h) (yieldsI_run rfl (fun w1 h => exec_load_at rfl rfl (hca w1 h) agg_apisum HY.out)) hS0 ?_
      simp only [Act.put, List.setIfInBounds_toArray, List.set_cons_succ, List.set_cons_zero]
      generalize wA.drew = wD at *
      obtain ⟨vy, hvy, yD⟩ := ((HCC.out wD).1 hS0).at_room (r := w.heap.size + 1) (n := 32) (T := 36) (by simp)
      have YD := hid yD
      have HVY := hid hvy
      have HCD := hid hS0
      clear yD hvy hS0
      try dsimp only
      try simp only [Act.put, List.setIfInBounds_toArray, List.set_cons_succ, List.set_cons_zero]
      refine held_one (i := 6) (by kernel_rfl) rfl ?_
      intro Q' hQ
      go_wp2_with (refine wpl_storew rfl _ _ _ rfl rfl rfl YD.out agg_apisum HVY.out HY.out oy ?_)
      intro wE bE uE
      have hCE : C wE := (HCC.out wE).2 (((HCC.out wD).1 HCD.out).store uE bE (by simp [HY.out]) (by omega) (by simp <;> omega))
      go_wp2_with fail
      refine hQ _ _ hCE ?_
      clear hQ Q' uE YD HVY HCD
      obtain ⟨vz, hvz, zE⟩ := ((HCC.out wE).1 hCE).at_room (r := w.heap.size + 2) (n := 32) (T := 36) (by simp)
      have ZE := hid zE
      have HVZ := hid hvz
      have HCE := hid hCE
      have BE0 := hid bE
      clear zE hvz hCE bE
      try dsimp only
      try simp only [Act.put, List.setIfInBounds_toArray, List.set_cons_succ, List.set_cons_zero]
      refine held_one (i := 7) (by kernel_rfl) rfl ?_
      intro Q' hQ
      go_wp2_with (refine wpl_storew rfl _ _ _ rfl rfl rfl ZE.out agg_apisum HVZ.out HY.out oy ?_)
      intro wF bF uF
      have hCF : C wF := (HCC.out wF).2 (((HCC.out wE).1 HCE.out).store uF bF (by simp [HY.out]) (by omega) (by simp <;> omega))
      go_wp2_with fail
      refine hQ _ _ hCF ?_
      clear hQ Q'
      have BE := hid (BE0.out.upd uF (by omega))
      have BF := hid bF
      have EF := hid ((HCC.out wF).1 hCF).base
      clear uF BE0 bF ZE HVZ HCE hCF
      refine wpAnyH_done (by kernel_rfl) ?_ _
      go_wp2
      refine ret_rows2 rfl rfl rfl BE.out BF.out agg_apisum HY.out HY.out rfl ⟨rfl, EF.out⟩
  · have h3 : m < n := by omega
    have hsp := splitN_spec (n := n) (by omega)
    have hc := hid (fun w => split_c n w (by omega) (by omega))
    have hLle := growN_le m n wh h1 h0
    have hne : ls ≠ [] := by
      intro h
      rw [h] at hL
      by_cases hm : m ≤ splitN n
      · rw [growN_left h0 h3 hm] at hLg; simp at hL; omega
      · rw [growN_right h0 h3 hm] at hLg; simp at hL; omega
    obtain ⟨rest, last, rfl⟩ : ∃ rest last, ls = rest ++ [last] := ⟨ls.dropLast, ls.getLast hne, (List.dropLast_concat_getLast hne).symm⟩
    obtain ⟨r, rfl⟩ : ∃ r, L = r + 1 := ⟨L - 1, by rw [List.length_append] at hL; simp at hL; omega⟩
    have hr : rest.length = r := by simpa using hL
    have hlast : (rest ++ [last])[r]? = some last := by rw [← hr]; simp
    have hr32 : All32 rest := fun l hl => h32 l (by simp [hl])
    have hl32 : last.length = 32 := h32 last (by simp)
    obtain ⟨A, hA, hca⟩ : ∃ A, a = some A ∧ CellsAt w (A.add (r * 32)) (last.map u8v) := by
      cases a with
      | none => rcases hcl with h | ⟨_, _, h, _⟩
                · have := rows_length h32; rw [h] at this; simp at this
                · cases h
      | some A => exact ⟨A, rfl, hcl.rowAt h32 hlast⟩
    subst hA
    have hcr : Cells w (some A) (rows rest) := by
      have := hcl.rowsTake h32 r
      rwa [← hr, List.take_left' rfl] at this
    have HR := hid hr
    have HR32 := hid hr32
    have HL : Hid ((last.map u8v).length = 32) := hid (by rw [List.length_map, hl32])
    have HL32 := hid hl32
    have o1 := one_u8 last
    have HCA := hid hca
    have HCR := hid hcr
    have HML := hid hLg
    have HVl := hid hVl
    have hrc : r ≤ c := by omega
    have hrb : r < 65536 := by omega
    clear hr hr32 hl32 hca hcr hLg h32 hcl hlast hL hne hVl
    obtain ⟨k, hk⟩ : ∃ k, splitN n = k := ⟨_, rfl⟩
    have HK := hid hk
    rw [hk] at hsp hc
    clear hk
    obtain ⟨k1, k2, k3⟩ := hsp
    go_enter Try.func55, Try.ntmps55
    go_upto_region 1 with (fail)
    generalize hwA : World.alloc (World.alloc (World.alloc w _) _) _ = wA
    have xA : Blk wA w.heap.size (x.map u8v) 36 := by rw [← hwA]; exact ((Blk.mk_alloc rfl rfl).alloc _).alloc _
    have yA : Blk wA (w.heap.size + 1) (List.replicate 32 (.int .u8 0)) 36 := by rw [← hwA]; exact (Blk.mk_alloc (by simp) rfl).alloc _
    have zA : Blk wA (w.heap.size + 2) (List.replicate 32 (.int .u8 0)) 36 := by rw [← hwA]; exact Blk.mk_alloc (by simp) rfl
    have eA : Ext w wA := by rw [← hwA]; exact ((((Ext.refl w).alloc _).alloc _).alloc _)
    have hwl : w.heap.size ≤ wA.heap.size := eA.size
    have hzl : w.heap.size + 2 < wA.heap.size := zA.lt
    clear hwA
    have XA := hid xA
    have YA := hid yA
    have ZA := hid zA
    have EA := hid eA
    clear xA yA zA eA
    go_wp2_with (go_at_call 73; refine (hc.out _).mono ?_; rintro e w' ⟨rfl, rfl⟩)
    obtain ⟨C, hC⟩ : ∃ C : World → Prop, C = Cls w wA [w.heap.size] [(w.heap.size + 1, 32, 36), (w.heap.size + 2, 32, 36)] := ⟨_, rfl⟩
    have hC0 : ∀ w', C w' ↔ Cls w wA [w.heap.size] [(w.heap.size + 1, 32, 36), (w.heap.size + 2, 32, 36)] w' := fun w' => by rw [hC]
    clear hC
    have HCC := hid hC0
    clear hC0
    have hCx : ∀ w w', C w → Ext w w' → C w' := fun w w' h1 h2 => (HCC.out w').2 (((HCC.out w).1 h1).ext h2)
    have hCA : C wA := (HCC.out _).2 (Cls.two_room EA.out (Kept.one XA.out.lt) YA.out (by simp) ZA.out (by simp))
    have hca : ∀ w1, C w1 → CellsAt w1 (A.add (r * 32)) (last.map u8v) := fun w1 h1 => HCA.out.ext ((HCC.out w1).1 h1).base
    have hwr : IntKind.i64.wrap (r : Int) = (r : Int) := IntWalk.i64_in _ (by omega)
    refine wp_region_held_drew (S := C) (by kernel_rfl) (hCx _ _ hCA (Ext.refl _).drew) (fun hS0 => ?_)
    refine held_take 0 (v := ?tv3) rfl (by kernel_rfl) (by kernel_rfl) (by kernel_rfl) (fun _ _ _ h => h) (.inl ⟨rfl, ?ty3⟩) hS0 ?tr3
    case ty3 => (intro _ _; go_simp; try with_reducible rfl)
    case tr3 =>
    simp only [Act.put, List.setIfInBounds_toArray, List.set_cons_succ, List.set_cons_zero]
    refine held_take 1 (v := ?tv4) rfl (by kernel_rfl) (by kernel_rfl) (by kernel_rfl) (fun _ _ _ h => h) (.inl ⟨rfl, ?ty4⟩) hS0 ?tr4
    case ty4 => (intro _ _; go_simp; try with_reducible rfl)
    case tr4 =>
    simp only [Act.put, List.setIfInBounds_toArray, List.set_cons_succ, List.set_cons_zero]
    refine held_take 2 (v := ?tv5) rfl (by kernel_rfl) (by kernel_rfl) (by kernel_rfl) (fun _ _ _ h => h) (.inl ⟨rfl, ?ty5⟩) hS0 ?tr5
    case ty5 => (intro _ _; go_simp; try with_reducible rfl)
    case tr5 =>
    simp only [Act.put, List.setIfInBounds_toArray, List.set_cons_succ, List.set_cons_zero]
    refine held_take 3 (v := ?tv6) rfl (by kernel_rfl) (by kernel_rfl) (by kernel_rfl) (fun _ _ _ h => h) (.inl ⟨rfl, ?ty6⟩) hS0 ?tr6
    case ty6 => (intro _ _; go_simp; try with_reducible rfl)
    case tr6 =>
    simp only [Act.put, List.setIfInBounds_toArray, List.set_cons_succ, List.set_cons_zero]
    refine held_take 4 (v := _) rfl (by kernel_rfl) (by kernel_rfl) (by kernel_rfl) (fun _ _ _ h => h) (yieldsI_run rfl (fun w1 _ => exec_index (i := r) rfl rfl rfl Try.underlying22 size_apisum (by omega) w1)) hS0 ?_
    simp only [Act.put, List.setIfInBounds_toArray, List.set_cons_succ, List.set_cons_zero]
    refine held_take 5 (v := _) rfl (by kernel_rfl) (by kernel_rfl) (by kernel_rfl) (fun _ _ _ h => h) (yieldsI_run rfl (fun w1 h => exec_load_at rfl rfl (hca w1 h) agg_apisum HL.out)) hS0 ?_
    simp only [Act.put, List.setIfInBounds_toArray, List.set_cons_succ, List.set_cons_zero]
    refine held_take 6 (v := ?tv7) rfl (by kernel_rfl) (by kernel_rfl) (by kernel_rfl) (fun _ _ _ h => h) (.inl ⟨rfl, ?ty7⟩) hS0 ?tr7
    case ty7 => (intro _ _; go_simp; try with_reducible rfl)
    case tr7 =>
    simp only [Act.put, List.setIfInBounds_toArray, List.set_cons_succ, List.set_cons_zero]
    refine held_take 7 (v := ?tv8) rfl (by kernel_rfl) (by kernel_rfl) (by kernel_rfl) (fun _ _ _ h => h) (.inl ⟨rfl, ?ty8⟩) hS0 ?tr8
    case ty8 => (intro _ _; go_simp; try with_reducible rfl)
    case tr8 =>
    simp only [Act.put, List.setIfInBounds_toArray, List.set_cons_succ, List.set_cons_zero]
    refine held_take 8 (v := ?tv9) rfl (by kernel_rfl) (by kernel_rfl) (by kernel_rfl) (fun _ _ _ h => h) (.inl ⟨rfl, ?ty9⟩) hS0 ?tr9
    case ty9 => (intro _ _; go_simp; try with_reducible rfl)
    case tr9 =>
    simp only [Act.put, List.setIfInBounds_toArray, List.set_cons_succ, List.set_cons_zero]
    refine held_take 9 (v := ?tv10) rfl (by kernel_rfl) (by kernel_rfl) (by kernel_rfl) (fun _ _ _ h => h) (.inl ⟨rfl, ?ty10⟩) hS0 ?tr10
    case ty10 => (intro _ _; go_simp; try with_reducible rfl)
    case tr10 =>
    simp only [Act.put, List.setIfInBounds_toArray, List.set_cons_succ, List.set_cons_zero]
    refine held_take 10 (v := _) rfl (by kernel_rfl) (by kernel_rfl) (by kernel_rfl) (fun _ _ _ h => h) (yieldsI_run rfl (fun w1 _ => exec_high (k := r) rfl rfl rfl Try.underlying22 size_apisum (by omega) w1)) hS0 ?_
    simp only [Act.put, List.setIfInBounds_toArray, List.set_cons_succ, List.set_cons_zero]
    clear hwr
    generalize wA.drew = wD at *
    have hwd : wA.heap.size ≤ wD.heap.size := ((HCC.out wD).1 hS0).kept.1
    refine held_one (i := 11) (by kernel_rfl) rfl ?_
    intro Q' hQ
    go_wp2_with fail
    refine hQ _ _ (hCx _ _ hS0 ((Ext.refl _).alloc _)) ?_
    clear hQ Q'
    generalize hwE : wD.alloc _ = wE
    have bE : Blk wE wD.heap.size (List.replicate 32 (.int .u8 0)) 36 := by rw [← hwE]; exact Blk.mk_alloc rfl rfl
    have hCE : C wE := by rw [← hwE]; exact hCx _ _ hS0 ((Ext.refl _).alloc _)
    clear hwE hS0
    have BE := hid bE
    have HCE := hid hCE
    clear bE hCE
    generalize wD.heap.size = gl at *
    try dsimp only
    try simp only [Act.put, List.setIfInBounds_toArray, List.set_cons_succ, List.set_cons_zero]
    refine held_one (i := 12) (by kernel_rfl) rfl ?_
    intro Q' hQ
    go_wp2_with (refine wpl_storew rfl _ _ _ rfl rfl rfl BE.out agg_apisum (by simp) HL.out o1 ?_)
    intro wF bF uF
    have hCF : C wF := (HCC.out wF).2 (((HCC.out wE).1 HCE.out).upd uF hwd hwl)
    go_wp2_with fail
    refine hQ _ _ hCF ?_
    clear hQ Q' uF BE HCE
    try dsimp only
    try simp only [Act.put, List.setIfInBounds_toArray, List.set_cons_succ, List.set_cons_zero]
    refine held_one (i := 13) (by kernel_rfl) rfl ?_
    intro Q' hQ
    go_wp2_with fail
    refine hQ _ _ hCF ?_
    clear hQ Q'
    refine wpAnyH_done (by kernel_rfl) ?_ _
    have XF := hid (((HCC.out wF).1 hCF).blk XA.out (by simp))
    have EF := hid ((HCC.out wF).1 hCF).base
    obtain ⟨vy, hvy, yF⟩ := ((HCC.out wF).1 hCF).at_room (r := w.heap.size + 1) (n := 32) (T := 36) (by simp)
    have YF := hid yF
    have HVY := hid hvy
    obtain ⟨vz, hvz, zF⟩ := ((HCC.out wF).1 hCF).at_room (r := w.heap.size + 2) (n := 32) (T := 36) (by simp)
    have ZF := hid zF
    have HVZ := hid hvz
    have BF := hid bF
    have hgl : gl < wF.heap.size := bF.lt
    have hwf : w.heap.size ≤ wF.heap.size := EF.out.size
    clear hCF zF hvz yF hvy bF HCC hCx hCA hca XA YA ZA EA hwl HCA
    by_cases hik : m ≤ k
    · have hrec := HIH.out k k2 m x wh rest r c (some A)
      have hml := HML.out
      have hv := HV.out
      rw [← HK.out] at hik hrec
      rw [growN_left h0 h3 hik] at hml
      rw [followL_left _ _ _ _ _ h0 h3 hik] at hv
      have hrec := fun w' hc' => hrec w' h0 hik (by rw [HK.out]; omega) HX0.out HR32.out HR.out (by omega) hrc hc'
      have hyl := followL_length x HX0.out (splitN n) m wh rest h0 hik HR32.out (by rw [HR.out]; omega)
      rw [HK.out] at hrec hik hyl hv
      generalize followL nodeL x m k wh rest = y at *
      obtain ⟨y1, y2⟩ := y
      unfold pairV at hrec
      simp only at hrec hyl hv
      obtain ⟨hy1, hy2⟩ := hyl
      have HRC := hid hrec
      have hnode := fun w' => node_c y2 last w' hy2 HL32.out
      have HV1 : Hid ((y1.map u8v).length = 32) := hid (by rw [List.length_map, hy1])
      have HVN := hid (nodeL_length y2 last)
      generalize nodeL y2 last = z at *
      have HZ2 : Hid ((z.map u8v).length = 32) := hid (by rw [List.length_map, HVN.out])
      have HV2 : Hid ((y2.map u8v).length = 32) := hid (by rw [List.length_map, hy2])
      have ND2 := hid hnode
      have oy1 := one_u8 y1
      have oy2 := one_u8 y2
      have oz := one_u8 z
      subst hv
      clear hrec hnode hml HML HV HK HIH hc hy1 hy2 HVl HVN
      go_wp2_with (refine wpl_loadw rfl _ (.tmp 5) rfl rfl XF.out agg_apisum HX.out ?_)
      refine (HRC.out wF (HCR.out.ext EF.out)).mono ?_
      rintro e wG ⟨rfl, eG⟩
      go_wp2_with (refine wpl_storew rfl _ (.tmp 15) _ rfl rfl rfl (Blk.alloc (Blk.mk_alloc (vs := List.replicate 32 (.int .u8 0)) rfl rfl) _) agg_apisum (by simp) HV1.out oy1 ?_)
      intro wH bH uH
      have b16 : Blk wH (wG.heap.size + 1) (List.replicate 32 (.int .u8 0)) 36 := Blk.upd (Blk.mk_alloc (by simp) rfl) uH (by omega)
      have eH : Ext wF wH := eG.ext (uH.ext (((Ext.refl wG).alloc _).alloc _) (Nat.le_refl _))
      go_wp2_with (refine wpl_storew rfl _ (.tmp 16) _ rfl rfl rfl b16 agg_apisum (by simp) HV2.out oy2 ?_)
      intro wI bI uI
      have bH2 := bH.upd uI (by omega)
      have hgG : wF.heap.size ≤ wG.heap.size := eG.size
      have eI : Ext wF wI := uI.ext eH (by omega)
      have XI := hid (XF.out.ext eI)
      have YI := hid (YF.out.ext eI)
      have ZI := hid (ZF.out.ext eI)
      have LI := hid (BF.out.ext eI)
      have EI := hid (EF.out.ext eI)
      have B1 := hid bH2
      have B2 := hid bI
      clear eI eH bH bI uI uH bH2 b16 XF YF ZF BF EF HRC HCR eG HX HX0 o0
      generalize hg15 : wG.heap.size = g15 at *
      clear hg15
      go_wp2
      obtain ⟨C, hC⟩ : ∃ C : World → Prop, C = Cls w wI [gl, g15, g15 + 1] [(w.heap.size + 1, 32, 36), (w.heap.size + 2, 32, 36)] := ⟨_, rfl⟩
      have hC0 : ∀ w', C w' ↔ Cls w wI [gl, g15, g15 + 1] [(w.heap.size + 1, 32, 36), (w.heap.size + 2, 32, 36)] w' := fun w' => by rw [hC]
      clear hC
      have HCC := hid hC0
      clear hC0
      have hCx : ∀ w w', C w → Ext w w' → C w' := fun w w' h1 h2 => (HCC.out w').2 (((HCC.out w).1 h1).ext h2)
      have hCA : C wI := (HCC.out _).2 (Cls.two_room EI.out (Kept.three LI.out.lt B1.out.lt B2.out.lt) YI.out HVY.out ZI.out HVZ.out)
      have hs1 : ∀ w1, C w1 → Blk w1 gl (last.map u8v) 36 := fun w1 h1 => ((HCC.out w1).1 h1).blk LI.out (by simp)
      have hs2 : ∀ w1, C w1 → Blk w1 g15 (y1.map u8v) 36 := fun w1 h1 => ((HCC.out w1).1 h1).blk B1.out (by simp)
      have hs3 : ∀ w1, C w1 → Blk w1 (g15 + 1) (y2.map u8v) 36 := fun w1 h1 => ((HCC.out w1).1 h1).blk B2.out (by simp)
      refine wp_region_held_drew (S := C) (by kernel_rfl) (hCx _ _ hCA (Ext.refl _).drew) (fun hS0 => ?_)
      refine held_take 0 (v := _) rfl (by kernel_rfl) (by kernel_rfl) (by kernel_rfl) (fun _ _ _ h => h) (yieldsI_loadw rfl _ _ rfl rfl hs2 agg_apisum HV1.out) hS0 ?_
      simp only [Act.put, List.setIfInBounds_toArray, List.set_cons_succ, List.set_cons_zero]
      refine held_take 1 (v := _) rfl (by kernel_rfl) (by kernel_rfl) (by kernel_rfl) (fun _ _ _ h => h) (yieldsI_loadw rfl _ _ rfl rfl hs3 agg_apisum HV2.out) hS0 ?_
      simp only [Act.put, List.setIfInBounds_toArray, List.set_cons_succ, List.set_cons_zero]
      refine held_take 2 (v := _) rfl (by kernel_rfl) (by kernel_rfl) (by kernel_rfl) (fun _ _ _ h => h) (yieldsI_loadw rfl _ _ rfl rfl hs1 agg_apisum HL.out) hS0 ?_
      simp only [Act.put, List.setIfInBounds_toArray, List.set_cons_succ, List.set_cons_zero]
      generalize wI.drew = wD at *
      refine held_one (i := 3) (by kernel_rfl) rfl ?_
      intro Q' hQ
      go_wp2_with fail
      refine (ND2.out wD).mono ?_
      rintro e wK0 ⟨rfl, eK⟩
      have hK0 := hCx _ _ hS0 eK
      go_wp2_with fail
      refine hQ _ _ hK0 ?_
      clear hQ Q' hS0 eK
      have hS0 := hK0
      clear hK0
      try dsimp only
      try simp only [Act.put, List.setIfInBounds_toArray, List.set_cons_succ, List.set_cons_zero]
      obtain ⟨vy, hvy, yD⟩ := ((HCC.out wK0).1 hS0).at_room (r := w.heap.size + 1) (n := 32) (T := 36) (by simp)
      have YD := hid yD
      have HVY := hid hvy
      have HCD := hid hS0
      clear yD hvy hS0
      try dsimp only
      try simp only [Act.put, List.setIfInBounds_toArray, List.set_cons_succ, List.set_cons_zero]
      refine held_one (i := 4) (by kernel_rfl) rfl ?_
      intro Q' hQ
      go_wp2_with (refine wpl_storew rfl _ _ _ rfl rfl rfl YD.out agg_apisum HVY.out HV1.out oy1 ?_)
      intro wE bE uE
      have hCE : C wE := (HCC.out wE).2 (((HCC.out wK0).1 HCD.out).store uE bE (by simp [HV1.out]) (by omega) (by simp <;> omega))
      go_wp2_with fail
      refine hQ _ _ hCE ?_
      clear hQ Q' uE YD HVY HCD
      obtain ⟨vz, hvz, zE⟩ := ((HCC.out wE).1 hCE).at_room (r := w.heap.size + 2) (n := 32) (T := 36) (by simp)
      have ZE := hid zE
      have HVZ := hid hvz
      have HCE := hid hCE
      have BE0 := hid bE
      clear zE hvz hCE bE
      try dsimp only
      try simp only [Act.put, List.setIfInBounds_toArray, List.set_cons_succ, List.set_cons_zero]
      refine held_one (i := 5) (by kernel_rfl) rfl ?_
      intro Q' hQ
      go_wp2_with (refine wpl_storew rfl _ _ _ rfl rfl rfl ZE.out agg_apisum HVZ.out HZ2.out oz ?_)
      intro wF bF uF
      have hCF : C wF := (HCC.out wF).2 (((HCC.out wE).1 HCE.out).store uF bF (by simp [HZ2.out]) (by omega) (by simp <;> omega))
      go_wp2_with fail
      refine hQ _ _ hCF ?_
      clear hQ Q'
      have BE := hid (BE0.out.upd uF (by omega))
      have BF := hid bF
      have EF := hid ((HCC.out wF).1 hCF).base
      clear uF BE0 bF ZE HVZ HCE hCF
      refine wpAnyH_done (by kernel_rfl) ?_ _
      go_wp2
      refine ret_rows2 rfl rfl rfl BE.out BF.out agg_apisum HV1.out HZ2.out rfl ⟨rfl, EF.out⟩
    · have hrec := HIH.out (n - k) (by omega) (m - k) x false rest r c (some A)
      have hml := HML.out
      have hv := HV.out
      rw [← HK.out] at hik hrec
      rw [growN_right h0 h3 hik] at hml
      rw [followL_right _ _ _ _ _ h0 h3 hik] at hv
      have hrec := fun w' hc' => hrec w' (by omega) (by rw [HK.out]; omega) (by omega) HX0.out HR32.out HR.out (by omega) hrc hc'
      have hyl := followL_length x HX0.out (n - splitN n) (m - splitN n) false rest (by omega) (by rw [HK.out] at *; omega) HR32.out (by rw [HR.out]; omega)
      rw [HK.out] at hrec hik hyl hv
      generalize followL nodeL x (m - k) (n - k) false rest = y at *
      obtain ⟨y1, y2⟩ := y
      unfold pairV at hrec
      simp only at hrec hyl hv
      obtain ⟨hy1, hy2⟩ := hyl
      have HRC := hid hrec
      have hnode1 := fun w' => node_c last y1 w' HL32.out hy1
      have hnode2 := fun w' => node_c last y2 w' HL32.out hy2
      have HVN1 := hid (nodeL_length last y1)
      have HVN2 := hid (nodeL_length last y2)
      have HV1 : Hid ((y1.map u8v).length = 32) := hid (by rw [List.length_map, hy1])
      generalize nodeL last y1 = z1 at *
      generalize nodeL last y2 = z at *
      have HZ1 : Hid ((z1.map u8v).length = 32) := hid (by rw [List.length_map, HVN1.out])
      have HZ2 : Hid ((z.map u8v).length = 32) := hid (by rw [List.length_map, HVN2.out])
      have ND1 := hid hnode1
      have oz1 := one_u8 z1
      have HV2 : Hid ((y2.map u8v).length = 32) := hid (by rw [List.length_map, hy2])
      have ND2 := hid hnode2
      have oy1 := one_u8 y1
      have oy2 := one_u8 y2
      have oz := one_u8 z
      subst hv
      clear hrec hnode1 hnode2 hml HML HV HK HIH hc hy1 hy2 HVl HVN1 HVN2
      have hd1 : ((m : Int) - (k : Int)) = ((m - k : Nat) : Int) := by omega
      have hd2 : ((n : Int) - (k : Int)) = ((n - k : Nat) : Int) := by omega
      have HD1 := hid hd1
      have HD2 := hid hd2
      clear hd1 hd2
      go_wp2_with (refine wpl_loadw rfl _ (.tmp 5) rfl rfl XF.out agg_apisum HX.out ?_)
      rw [HD1.out, HD2.out]
      refine (HRC.out wF (HCR.out.ext EF.out)).mono ?_
      rintro e wG ⟨rfl, eG⟩
      go_wp2_with (refine wpl_storew rfl _ (.tmp 17) _ rfl rfl rfl (Blk.alloc (Blk.mk_alloc (vs := List.replicate 32 (.int .u8 0)) rfl rfl) _) agg_apisum (by simp) HV1.out oy1 ?_)
      intro wH bH uH
      have b16 : Blk wH (wG.heap.size + 1) (List.replicate 32 (.int .u8 0)) 36 := Blk.upd (Blk.mk_alloc (by simp) rfl) uH (by omega)
      have eH : Ext wF wH := eG.ext (uH.ext (((Ext.refl wG).alloc _).alloc _) (Nat.le_refl _))
      go_wp2_with (refine wpl_storew rfl _ (.tmp 18) _ rfl rfl rfl b16 agg_apisum (by simp) HV2.out oy2 ?_)
      intro wI bI uI
      have bH2 := bH.upd uI (by omega)
      have hgG : wF.heap.size ≤ wG.heap.size := eG.size
      have eI : Ext wF wI := uI.ext eH (by omega)
      have XI := hid (XF.out.ext eI)
      have YI := hid (YF.out.ext eI)
      have ZI := hid (ZF.out.ext eI)
      have LI := hid (BF.out.ext eI)
      have EI := hid (EF.out.ext eI)
      have B1 := hid bH2
      have B2 := hid bI
      clear eI eH bH bI uI uH bH2 b16 XF YF ZF BF EF HRC HCR eG HX HX0 o0
      generalize hg15 : wG.heap.size = g15 at *
      clear hg15
      go_wp2
      obtain ⟨C, hC⟩ : ∃ C : World → Prop, C = Cls w wI [gl, g15, g15 + 1] [(w.heap.size + 1, 32, 36), (w.heap.size + 2, 32, 36)] := ⟨_, rfl⟩
      have hC0 : ∀ w', C w' ↔ Cls w wI [gl, g15, g15 + 1] [(w.heap.size + 1, 32, 36), (w.heap.size + 2, 32, 36)] w' := fun w' => by rw [hC]
      clear hC
      have HCC := hid hC0
      clear hC0
      have hCx : ∀ w w', C w → Ext w w' → C w' := fun w w' h1 h2 => (HCC.out w').2 (((HCC.out w).1 h1).ext h2)
      have hCA : C wI := (HCC.out _).2 (Cls.two_room EI.out (Kept.three LI.out.lt B1.out.lt B2.out.lt) YI.out HVY.out ZI.out HVZ.out)
      have hs1 : ∀ w1, C w1 → Blk w1 gl (last.map u8v) 36 := fun w1 h1 => ((HCC.out w1).1 h1).blk LI.out (by simp)
      have hs2 : ∀ w1, C w1 → Blk w1 g15 (y1.map u8v) 36 := fun w1 h1 => ((HCC.out w1).1 h1).blk B1.out (by simp)
      have hs3 : ∀ w1, C w1 → Blk w1 (g15 + 1) (y2.map u8v) 36 := fun w1 h1 => ((HCC.out w1).1 h1).blk B2.out (by simp)
      refine wp_region_held_drew (S := C) (by kernel_rfl) (hCx _ _ hCA (Ext.refl _).drew) (fun hS0 => ?_)
      refine held_take 0 (v := _) rfl (by kernel_rfl) (by kernel_rfl) (by kernel_rfl) (fun _ _ _ h => h) (yieldsI_loadw rfl _ _ rfl rfl hs1 agg_apisum HL.out) hS0 ?_
      simp only [Act.put, List.setIfInBounds_toArray, List.set_cons_succ, List.set_cons_zero]
      refine held_take 1 (v := _) rfl (by kernel_rfl) (by kernel_rfl) (by kernel_rfl) (fun _ _ _ h => h) (yieldsI_loadw rfl _ _ rfl rfl hs2 agg_apisum HV1.out) hS0 ?_
      simp only [Act.put, List.setIfInBounds_toArray, List.set_cons_succ, List.set_cons_zero]
      refine held_take 3 (v := _) rfl (by kernel_rfl) (by kernel_rfl) (by kernel_rfl) (fun _ _ _ h => h) (yieldsI_loadw rfl _ _ rfl rfl hs1 agg_apisum HL.out) hS0 ?_
      simp only [Act.put, List.setIfInBounds_toArray, List.set_cons_succ, List.set_cons_zero]
      refine held_take 4 (v := _) rfl (by kernel_rfl) (by kernel_rfl) (by kernel_rfl) (fun _ _ _ h => h) (yieldsI_loadw rfl _ _ rfl rfl hs3 agg_apisum HV2.out) hS0 ?_
      simp only [Act.put, List.setIfInBounds_toArray, List.set_cons_succ, List.set_cons_zero]
      generalize wI.drew = wD at *
      refine held_one (i := 2) (by kernel_rfl) rfl ?_
      intro Q' hQ
      go_wp2_with fail
      refine (ND1.out wD).mono ?_
      rintro e wK0 ⟨rfl, eK⟩
      have hK0 := hCx _ _ hS0 eK
      go_wp2_with fail
      refine hQ _ _ hK0 ?_
      clear hQ Q' hS0 eK
      have hS0 := hK0
      clear hK0
      try dsimp only
      try simp only [Act.put, List.setIfInBounds_toArray, List.set_cons_succ, List.set_cons_zero]
      refine held_one (i := 5) (by kernel_rfl) rfl ?_
      intro Q' hQ
      go_wp2_with fail
      refine (ND2.out wK0).mono ?_
      rintro e wK1 ⟨rfl, eK⟩
      have hK1 := hCx _ _ hS0 eK
      go_wp2_with fail
      refine hQ _ _ hK1 ?_
      clear hQ Q' hS0 eK
      have hS0 := hK1
      clear hK1
      try dsimp only
      try simp only [Act.put, List.setIfInBounds_toArray, List.set_cons_succ, List.set_cons_zero]
      obtain ⟨vy, hvy, yD⟩ := ((HCC.out wK1).1 hS0).at_room (r := w.heap.size + 1) (n := 32) (T := 36) (by simp)
      have YD := hid yD
      have HVY := hid hvy
      have HCD := hid hS0
      clear yD hvy hS0
      try dsimp only
      try simp only [Act.put, List.setIfInBounds_toArray, List.set_cons_succ, List.set_cons_zero]
      refine held_one (i := 6) (by kernel_rfl) rfl ?_
      intro Q' hQ
      go_wp2_with (refine wpl_storew rfl _ _ _ rfl rfl rfl YD.out agg_apisum HVY.out HZ1.out oz1 ?_)
      intro wE bE uE
      have hCE : C wE := (HCC.out wE).2 (((HCC.out wK1).1 HCD.out).store uE bE (by simp [HZ1.out]) (by omega) (by simp <;> omega))
      go_wp2_with fail
      refine hQ _ _ hCE ?_
      clear hQ Q' uE YD HVY HCD
      obtain ⟨vz, hvz, zE⟩ := ((HCC.out wE).1 hCE).at_room (r := w.heap.size + 2) (n := 32) (T := 36) (by simp)
      have ZE := hid zE
      have HVZ := hid hvz
      have HCE := hid hCE
      have BE0 := hid bE
      clear zE hvz hCE bE
      try dsimp only
      try simp only [Act.put, List.setIfInBounds_toArray, List.set_cons_succ, List.set_cons_zero]
      refine held_one (i := 7) (by kernel_rfl) rfl ?_
      intro Q' hQ
      go_wp2_with (refine wpl_storew rfl _ _ _ rfl rfl rfl ZE.out agg_apisum HVZ.out HZ2.out oz ?_)
      intro wF bF uF
      have hCF : C wF := (HCC.out wF).2 (((HCC.out wE).1 HCE.out).store uF bF (by simp [HZ2.out]) (by omega) (by simp <;> omega))
      go_wp2_with fail
      refine hQ _ _ hCF ?_
      clear hQ Q'
      have BE := hid (BE0.out.upd uF (by omega))
      have BF := hid bF
      have EF := hid ((HCC.out wF).1 hCF).base
      clear uF BE0 bF ZE HVZ HCE hCF
      refine wpAnyH_done (by kernel_rfl) ?_ _
      go_wp2
      refine ret_rows2 rfl rfl rfl BE.out BF.out agg_apisum HZ1.out HZ2.out rfl ⟨rfl, EF.out⟩
end

section
open Go Go.RowKit

theorem Cls.restore {w0 W w w' : World} {L : List Nat} {g : Nat} {vs : List Value} {T : TypeId} (h : Cls w0 W L [] w) (u : Upd w g w') (hW : Blk W g vs T) (hb : Blk w' g vs T) (hr : w0.heap.size ≤ g) : Cls w0 W L [] w' := by
  refine ⟨u.ext h.base hr, ⟨by rw [u.size]; exact h.kept.1, h.kept.2.1, fun k hk => ?_⟩, by simp⟩
  by_cases e : k = g
  · subst e
    unfold Blk at hW hb
    rw [hW, hb]
  · exact (u.block k e).trans (h.kept.2.2 k hk)

def growPost (x : List UInt8) (m n : Nat) (wh : Bool) (ls : List (List UInt8)) (w : World) (e : Ending) (w' : World) : Prop :=
  ∃ y z : List UInt8, e = .returned (.tuple #[.agg (y.map u8v).toArray, .agg (z.map u8v).toArray, .bool (decide (ls.length = growN m n wh))]) ∧ y.length = 32 ∧ z.length = 32 ∧ (ls.length = growN m n wh → (y, z) = followL nodeL x m n wh ls) ∧ Ext w w'

set_option maxRecDepth 100000 in
set_option maxHeartbeats 2000000 in
theorem rgrow_c : ∀ (n m : Nat) (x : List UInt8) (wh : Bool) (ls : List (List UInt8)) (L c : Nat) (a : Option Addr) (w : World), 1 ≤ m → m ≤ n → n ≤ 65536 → x.length = 32 → All32 ls → ls.length = L → L ≤ c → c ≤ 9223372036854775807 → Cells w a (rows ls) →
    Calls Try.prog 56 #[.int .i64 (m : Int), .int .i64 (n : Int), .bool wh, .agg (x.map u8v).toArray, .slice a L c] w (growPost x m n wh ls w) := by
  intro n
  induction n using Nat.strongRecOn with
  | ind n ih =>
  intro m x wh ls L c a w h0 h1 h2 hx h32 hL hLc hc63 hcl
  have HIH := hid ih
  have HX : Hid ((x.map u8v).length = 32) := hid (by rw [List.length_map, hx])
  have HX0 := hid hx
  have o0 := one_u8 x
  clear ih hx
  by_cases hn : m = n
  · subst hn
    have hg := growN_eq (n := m) wh
    cases wh with
    | true =>
      rw [if_pos rfl] at hg
      have hf : (x, x) = followL nodeL x m m true ls := by rw [followL_eq]; rfl
      have HFE := hid hf
      obtain ⟨D, hD⟩ : ∃ D, decide (L = 0) = D := ⟨_, rfl⟩
      have d1 : ((L : Int) == 0) = D := by rw [← hD, Bool.eq_iff_iff]; simp
      have d2 : (L == 0) = D := by rw [← hD, Bool.eq_iff_iff]; simp
      have hdb : decide (ls.length = growN m m true) = D := by rw [hg, hL]; exact hD
      have HDB := hid hdb
      clear HIH hcl h32 hL hf hD hg hdb
      go_enter Try.func56, Try.ntmps56
      go_upto_region 1 with (fail)
      generalize hwA : World.alloc (World.alloc (World.alloc w _) _) _ = wA
      have xA : Blk wA w.heap.size (x.map u8v) 36 := by rw [← hwA]; exact ((Blk.mk_alloc rfl rfl).alloc _).alloc _
      have yA : Blk wA (w.heap.size + 1) (List.replicate 32 (.int .u8 0)) 36 := by rw [← hwA]; exact (Blk.mk_alloc (by simp) rfl).alloc _
      have zA : Blk wA (w.heap.size + 2) (List.replicate 32 (.int .u8 0)) 36 := by rw [← hwA]; exact Blk.mk_alloc (by simp) rfl
      have eA : Ext w wA := by rw [← hwA]; exact ((((Ext.refl w).alloc _).alloc _).alloc _)
      have hwl : w.heap.size ≤ wA.heap.size := eA.size
      have hzl : w.heap.size + 2 < wA.heap.size := zA.lt
      clear hwA
      have XA := hid xA
      have YA := hid yA
      have ZA := hid zA
      have EA := hid eA
      clear xA yA zA eA
      go_wp2
      obtain ⟨C, hC⟩ : ∃ C : World → Prop, C = Cls w wA [w.heap.size] [(w.heap.size + 1, 32, 36), (w.heap.size + 2, 32, 36)] := ⟨_, rfl⟩
      have hC0 : ∀ w', C w' ↔ Cls w wA [w.heap.size] [(w.heap.size + 1, 32, 36), (w.heap.size + 2, 32, 36)] w' := fun w' => by rw [hC]
      clear hC
      have HCC := hid hC0
      clear hC0
      have hCx : ∀ w w', C w → Ext w w' → C w' := fun w w' h1 h2 => (HCC.out w').2 (((HCC.out w).1 h1).ext h2)
      have hCA : C wA := (HCC.out _).2 (Cls.two_room EA.out (Kept.one XA.out.lt) YA.out (by simp) ZA.out (by simp))
      have hs1 : ∀ w1, C w1 → Blk w1 w.heap.size (x.map u8v) 36 := fun w1 h1 => ((HCC.out w1).1 h1).blk XA.out (by simp)
      refine wp_region_held_drew (S := C) (by kernel_rfl) (hCx _ _ hCA (Ext.refl _).drew) (fun hS0 => ?_)
      refine held_take 0 (v := _) rfl (by kernel_rfl) (by kernel_rfl) (by kernel_rfl) (fun _ _ _ h => h) (yieldsI_loadw rfl _ _ rfl rfl hs1 agg_apisum HX.out) hS0 ?_
      simp only [Act.put, List.setIfInBounds_toArray, List.set_cons_succ, List.set_cons_zero]
      refine held_take 1 (v := _) rfl (by kernel_rfl) (by kernel_rfl) (by kernel_rfl) (fun _ _ _ h => h) (yieldsI_loadw rfl _ _ rfl rfl hs1 agg_apisum HX.out) hS0 ?_
      simp only [Act.put, List.setIfInBounds_toArray, List.set_cons_succ, List.set_cons_zero]
      refine held_take 2 (v := ?tv1) rfl (by kernel_rfl) (by kernel_rfl) (by kernel_rfl) (fun _ _ _ h => h) (.inl ⟨rfl, ?ty1⟩) hS0 ?tr1
      case ty1 => (intro _ _; go_simp; try with_reducible rfl)
      case tr1 =>
      simp only [Act.put, List.setIfInBounds_toArray, List.set_cons_succ, List.set_cons_zero]
      refine held_take 3 (v := ?tv2) rfl (by kernel_rfl) (by kernel_rfl) (by kernel_rfl) (fun _ _ _ h => h) (.inl ⟨rfl, ?ty2⟩) hS0 ?tr2
      case ty2 => (intro _ _; go_simp; try with_reducible rfl)
      case tr2 =>
      simp only [Act.put, List.setIfInBounds_toArray, List.set_cons_succ, List.set_cons_zero]
      refine held_take 4 (v := ?tv3) rfl (by kernel_rfl) (by kernel_rfl) (by kernel_rfl) (fun _ _ _ h => h) (.inl ⟨rfl, ?ty3⟩) hS0 ?tr3
      case ty3 => (intro _ _; go_simp; try with_reducible rfl)
      case tr3 =>
      simp only [Act.put, List.setIfInBounds_toArray, List.set_cons_succ, List.set_cons_zero]
      generalize wA.drew = wD at *
      obtain ⟨vwE, hvwE, dwE⟩ := ((HCC.out wD).1 hS0).at_room (r := w.heap.size + 1) (n := 32) (T := 36) (by simp)
      have DwE := hid dwE
      have HVwE := hid hvwE
      have HCwE := hid hS0
      clear dwE hvwE hS0
      try dsimp only
      try simp only [Act.put, List.setIfInBounds_toArray, List.set_cons_succ, List.set_cons_zero]
      refine held_one (i := 5) (by kernel_rfl) rfl ?_
      intro Q' hQ
      go_wp2_with (refine wpl_storew rfl _ _ _ rfl rfl rfl DwE.out agg_apisum HVwE.out HX.out o0 ?_)
      intro wE bwE uwE
      have hwE : C wE := (HCC.out wE).2 (((HCC.out wD).1 HCwE.out).store uwE bwE (by simp [HX.out]) (by omega) (by simp <;> omega))
      go_wp2_with fail
      refine hQ _ _ hwE ?_
      clear hQ Q' DwE HVwE HCwE
      obtain ⟨vwF, hvwF, dwF⟩ := ((HCC.out wE).1 hwE).at_room (r := w.heap.size + 2) (n := 32) (T := 36) (by simp)
      have DwF := hid dwF
      have HVwF := hid hvwF
      have HCwF := hid hwE
      clear dwF hvwF hwE
      try dsimp only
      try simp only [Act.put, List.setIfInBounds_toArray, List.set_cons_succ, List.set_cons_zero]
      refine held_one (i := 6) (by kernel_rfl) rfl ?_
      intro Q' hQ
      go_wp2_with (refine wpl_storew rfl _ _ _ rfl rfl rfl DwF.out agg_apisum HVwF.out HX.out o0 ?_)
      intro wF bwF uwF
      have hwF : C wF := (HCC.out wF).2 (((HCC.out wE).1 HCwF.out).store uwF bwF (by simp [HX.out]) (by omega) (by simp <;> omega))
      go_wp2_with fail
      refine hQ _ _ hwF ?_
      clear hQ Q' DwF HVwF HCwF
      have bE2 := bwE.upd uwF (by omega)
      try dsimp only
      try simp only [Act.put, List.setIfInBounds_toArray, List.set_cons_succ, List.set_cons_zero]
      refine held_one (i := 7) (by kernel_rfl) rfl ?_
      intro Q' hQ
      go_wp2_with fail
      refine hQ _ _ hwF ?_
      clear hQ Q'
      have BE := hid bE2
      have BF := hid bwF
      have EF := hid ((HCC.out wF).1 hwF).base
      refine wpAnyH_done (by kernel_rfl) ?_ _
      go_wp2
      refine ret_rows3 rfl rfl rfl BE.out BF.out agg_apisum HX.out HX.out rfl ?_
      exact ⟨x, x, by rw [HDB.out]; rfl, HX0.out, HX0.out, fun _ => HFE.out, EF.out⟩
    | false =>
      rw [if_neg (by decide)] at hg
      by_cases hl1 : L = 1
      · subst hl1
        obtain ⟨y, rfl⟩ := List.length_eq_one_iff.1 hL
        have hf : (y, y) = followL nodeL x m m false [y] := by rw [followL_eq]; rfl
        have HFE := hid hf
        have hdb : decide (([y] : List (List UInt8)).length = growN m m false) = true := by rw [hg]; simp
        have HDB := hid hdb
        have hy := h32 y (by simp)
        obtain ⟨A, rfl, hca⟩ : ∃ A, a = some A ∧ CellsAt w (A.add (0 * 32)) (y.map u8v) := by
          cases a with
          | none => rcases hcl with h | ⟨_, _, h, _⟩
                    · have := rows_length h32; rw [h] at this; simp at this
                    · cases h
          | some A => exact ⟨A, rfl, hcl.rowAt h32 rfl⟩
        have HCA := hid hca
        have HY : Hid ((y.map u8v).length = 32) := hid (by rw [List.length_map, hy])
        have HY0 := hid hy
        have oy := one_u8 y
        clear HIH hcl h32 hL hca hy hf hdb hg
        go_enter Try.func56, Try.ntmps56
        go_upto_region 1 with (fail)
        generalize hwA : World.alloc (World.alloc (World.alloc w _) _) _ = wA
        have xA : Blk wA w.heap.size (x.map u8v) 36 := by rw [← hwA]; exact ((Blk.mk_alloc rfl rfl).alloc _).alloc _
        have yA : Blk wA (w.heap.size + 1) (List.replicate 32 (.int .u8 0)) 36 := by rw [← hwA]; exact (Blk.mk_alloc (by simp) rfl).alloc _
        have zA : Blk wA (w.heap.size + 2) (List.replicate 32 (.int .u8 0)) 36 := by rw [← hwA]; exact Blk.mk_alloc (by simp) rfl
        have eA : Ext w wA := by rw [← hwA]; exact ((((Ext.refl w).alloc _).alloc _).alloc _)
        have hwl : w.heap.size ≤ wA.heap.size := eA.size
        have hzl : w.heap.size + 2 < wA.heap.size := zA.lt
        clear hwA
        have XA := hid xA
        have YA := hid yA
        have ZA := hid zA
        have EA := hid eA
        clear xA yA zA eA
        go_wp2
        obtain ⟨C, hC⟩ : ∃ C : World → Prop, C = Cls w wA [] [(w.heap.size + 1, 32, 36), (w.heap.size + 2, 32, 36)] := ⟨_, rfl⟩
        have hC0 : ∀ w', C w' ↔ Cls w wA [] [(w.heap.size + 1, 32, 36), (w.heap.size + 2, 32, 36)] w' := fun w' => by rw [hC]
        clear hC
        have HCC := hid hC0
        clear hC0
        have hCx : ∀ w w', C w → Ext w w' → C w' := fun w w' h1 h2 => (HCC.out w').2 (((HCC.out w).1 h1).ext h2)
        have hCA : C wA := (HCC.out _).2 (Cls.two_room EA.out (Kept.none _) YA.out (by simp) ZA.out (by simp))
        have hca : ∀ w1, C w1 → CellsAt w1 (A.add (0 * 32)) (y.map u8v) := fun w1 h1 => HCA.out.ext ((HCC.out w1).1 h1).base
        refine wp_region_held_drew (S := C) (by kernel_rfl) (hCx _ _ hCA (Ext.refl _).drew) (fun hS0 => ?_)
        refine held_take 0 (v := ?tv4) rfl (by kernel_rfl) (by kernel_rfl) (by kernel_rfl) (fun _ _ _ h => h) (.inl ⟨rfl, ?ty4⟩) hS0 ?tr4
        case ty4 => (intro _ _; go_simp; try with_reducible rfl)
        case tr4 =>
        simp only [Act.put, List.setIfInBounds_toArray, List.set_cons_succ, List.set_cons_zero]
        refine held_take 1 (v := _) rfl (by kernel_rfl) (by kernel_rfl) (by kernel_rfl) (fun _ _ _ h => h) (yieldsI_run rfl (fun w1 _ => exec_index (i := 0) rfl rfl rfl Try.underlying22 size_apisum (by omega) w1)) hS0 ?_
        simp only [Act.put, List.setIfInBounds_toArray, List.set_cons_succ, List.set_cons_zero]
        refine held_take 2 (v := _) rfl (by kernel_rfl) (by kernel_rfl) (by kernel_rfl) (fun _ _ _ h => h) (yieldsI_run rfl (fun w1 h => exec_load_at rfl rfl (hca w1 h) agg_apisum HY.out)) hS0 ?_
        simp only [Act.put, List.setIfInBounds_toArray, List.set_cons_succ, List.set_cons_zero]
        refine held_take 3 (v := ?tv5) rfl (by kernel_rfl) (by kernel_rfl) (by kernel_rfl) (fun _ _ _ h => h) (.inl ⟨rfl, ?ty5⟩) hS0 ?tr5
        case ty5 => (intro _ _; go_simp; try with_reducible rfl)
        case tr5 =>
        simp only [Act.put, List.setIfInBounds_toArray, List.set_cons_succ, List.set_cons_zero]
        refine held_take 4 (v := _) rfl (by kernel_rfl) (by kernel_rfl) (by kernel_rfl) (fun _ _ _ h => h) (yieldsI_run rfl (fun w1 _ => exec_index (i := 0) rfl rfl rfl Try.underlying22 size_apisum (by omega) w1)) hS0 ?_
        simp only [Act.put, List.setIfInBounds_toArray, List.set_cons_succ, List.set_cons_zero]
        refine held_take 5 (v := _) rfl (by kernel_rfl) (by kernel_rfl) (by kernel_rfl) (fun _ _ _ h => h) (yieldsI_run rfl (fun w1 h => exec_load_at rfl rfl (hca w1 h) agg_apisum HY.out)) hS0 ?_
        simp only [Act.put, List.setIfInBounds_toArray, List.set_cons_succ, List.set_cons_zero]
        generalize wA.drew = wD at *
        obtain ⟨vwE, hvwE, dwE⟩ := ((HCC.out wD).1 hS0).at_room (r := w.heap.size + 1) (n := 32) (T := 36) (by simp)
        have DwE := hid dwE
        have HVwE := hid hvwE
        have HCwE := hid hS0
        clear dwE hvwE hS0
        try dsimp only
        try simp only [Act.put, List.setIfInBounds_toArray, List.set_cons_succ, List.set_cons_zero]
        refine held_one (i := 6) (by kernel_rfl) rfl ?_
        intro Q' hQ
        go_wp2_with (refine wpl_storew rfl _ _ _ rfl rfl rfl DwE.out agg_apisum HVwE.out HY.out oy ?_)
        intro wE bwE uwE
        have hwE : C wE := (HCC.out wE).2 (((HCC.out wD).1 HCwE.out).store uwE bwE (by simp [HY.out]) (by omega) (by simp <;> omega))
        go_wp2_with fail
        refine hQ _ _ hwE ?_
        clear hQ Q' DwE HVwE HCwE
        obtain ⟨vwF, hvwF, dwF⟩ := ((HCC.out wE).1 hwE).at_room (r := w.heap.size + 2) (n := 32) (T := 36) (by simp)
        have DwF := hid dwF
        have HVwF := hid hvwF
        have HCwF := hid hwE
        clear dwF hvwF hwE
        try dsimp only
        try simp only [Act.put, List.setIfInBounds_toArray, List.set_cons_succ, List.set_cons_zero]
        refine held_one (i := 7) (by kernel_rfl) rfl ?_
        intro Q' hQ
        go_wp2_with (refine wpl_storew rfl _ _ _ rfl rfl rfl DwF.out agg_apisum HVwF.out HY.out oy ?_)
        intro wF bwF uwF
        have hwF : C wF := (HCC.out wF).2 (((HCC.out wE).1 HCwF.out).store uwF bwF (by simp [HY.out]) (by omega) (by simp <;> omega))
        go_wp2_with fail
        refine hQ _ _ hwF ?_
        clear hQ Q' DwF HVwF HCwF
        have bE2 := bwE.upd uwF (by omega)
        try dsimp only
        try simp only [Act.put, List.setIfInBounds_toArray, List.set_cons_succ, List.set_cons_zero]
        refine held_one (i := 8) (by kernel_rfl) rfl ?_
        intro Q' hQ
        go_wp2_with fail
        refine hQ _ _ hwF ?_
        clear hQ Q'
        have BE := hid bE2
        have BF := hid bwF
        have EF := hid ((HCC.out wF).1 hwF).base
        refine wpAnyH_done (by kernel_rfl) ?_ _
        go_wp2
        refine ret_rows3 rfl rfl rfl BE.out BF.out agg_apisum HY.out HY.out rfl ?_
        exact ⟨y, y, by rw [HDB.out]; rfl, HY0.out, HY0.out, fun _ => HFE.out, EF.out⟩
      · have hne : ¬ ls.length = growN m m false := by rw [hg, hL]; exact hl1
        have hdb : decide (ls.length = growN m m false) = false := decide_eq_false hne
        have HDB := hid hdb
        have HNE := hid hne
        have d1 : ((L : Int) != 1) = true := by simp; omega
        have d2 : (L != 1) = true := by simp [hl1]
        clear HIH hcl h32 hL hne hdb hg hl1
        go_enter Try.func56, Try.ntmps56
        go_upto_region 1 with (fail)
        generalize hwA : World.alloc (World.alloc (World.alloc w _) _) _ = wA
        have xA : Blk wA w.heap.size (x.map u8v) 36 := by rw [← hwA]; exact ((Blk.mk_alloc rfl rfl).alloc _).alloc _
        have yA : Blk wA (w.heap.size + 1) (List.replicate 32 (.int .u8 0)) 36 := by rw [← hwA]; exact (Blk.mk_alloc (by simp) rfl).alloc _
        have zA : Blk wA (w.heap.size + 2) (List.replicate 32 (.int .u8 0)) 36 := by rw [← hwA]; exact Blk.mk_alloc (by simp) rfl
        have eA : Ext w wA := by rw [← hwA]; exact ((((Ext.refl w).alloc _).alloc _).alloc _)
        have hwl : w.heap.size ≤ wA.heap.size := eA.size
        have hzl : w.heap.size + 2 < wA.heap.size := zA.lt
        clear hwA
        have XA := hid xA
        have YA := hid yA
        have ZA := hid zA
        have EA := hid eA
        clear xA yA zA eA
        go_wp2
        obtain ⟨C, hC⟩ : ∃ C : World → Prop, C = Cls w wA [w.heap.size + 1, w.heap.size + 2] [] := ⟨_, rfl⟩
        have hC0 : ∀ w', C w' ↔ Cls w wA [w.heap.size + 1, w.heap.size + 2] [] w' := fun w' => by rw [hC]
        clear hC
        have HCC := hid hC0
        clear hC0
        have hCx : ∀ w w', C w → Ext w w' → C w' := fun w w' h1 h2 => (HCC.out w').2 (((HCC.out w).1 h1).ext h2)
        have hCA : C wA := (HCC.out _).2 (Cls.no_room EA.out (Kept.two YA.out.lt ZA.out.lt))
        have hs1 : ∀ w1, C w1 → Blk w1 (w.heap.size + 1) (List.replicate 32 (.int .u8 0)) 36 := fun w1 h1 => ((HCC.out w1).1 h1).blk YA.out (by simp)
        have hs2 : ∀ w1, C w1 → Blk w1 (w.heap.size + 2) (List.replicate 32 (.int .u8 0)) 36 := fun w1 h1 => ((HCC.out w1).1 h1).blk ZA.out (by simp)
        refine wp_region_held_drew (S := C) (by kernel_rfl) (hCx _ _ hCA (Ext.refl _).drew) (fun hS0 => ?_)
        refine held_take 0 (v := _) rfl (by kernel_rfl) (by kernel_rfl) (by kernel_rfl) (fun _ _ _ h => h) (yieldsI_loadw rfl _ _ rfl rfl hs1 agg_apisum (by simp)) hS0 ?_
        simp only [Act.put, List.setIfInBounds_toArray, List.set_cons_succ, List.set_cons_zero]
        refine held_take 1 (v := _) rfl (by kernel_rfl) (by kernel_rfl) (by kernel_rfl) (fun _ _ _ h => h) (yieldsI_loadw rfl _ _ rfl rfl hs2 agg_apisum (by simp)) hS0 ?_
        simp only [Act.put, List.setIfInBounds_toArray, List.set_cons_succ, List.set_cons_zero]
        generalize wA.drew = wD at *
        have YD := hid (hs1 wD hS0)
        have HCD := hid hS0
        clear hS0
        refine held_one (i := 2) (by kernel_rfl) rfl ?_
        intro Q' hQ
        go_wp2_with (refine wpl_storew rfl _ _ _ rfl rfl rfl YD.out agg_apisum (by simp) (by simp) (one_zeros 32) ?_)
        intro wE bE uE
        have hCE : C wE := (HCC.out wE).2 (((HCC.out wD).1 HCD.out).restore uE YA.out bE (by omega))
        go_wp2_with fail
        refine hQ _ _ hCE ?_
        clear hQ Q' uE bE YD HCD
        have ZE := hid (hs2 wE hCE)
        have HCE := hid hCE
        clear hCE
        try dsimp only
        try simp only [Act.put, List.setIfInBounds_toArray, List.set_cons_succ, List.set_cons_zero]
        refine held_one (i := 3) (by kernel_rfl) rfl ?_
        intro Q' hQ
        go_wp2_with (refine wpl_storew rfl _ _ _ rfl rfl rfl ZE.out agg_apisum (by simp) (by simp) (one_zeros 32) ?_)
        intro wF bF uF
        have hCF : C wF := (HCC.out wF).2 (((HCC.out wE).1 HCE.out).restore uF ZA.out bF (by omega))
        go_wp2_with fail
        refine hQ _ _ hCF ?_
        clear hQ Q' uF bF ZE HCE
        try dsimp only
        try simp only [Act.put, List.setIfInBounds_toArray, List.set_cons_succ, List.set_cons_zero]
        refine held_one (i := 4) (by kernel_rfl) rfl ?_
        intro Q' hQ
        go_wp2_with fail
        refine hQ _ _ hCF ?_
        clear hQ Q'
        have BE := hid (hs1 wF hCF)
        have BF := hid (hs2 wF hCF)
        have EF := hid ((HCC.out wF).1 hCF).base
        clear hs1 hs2
        refine wpAnyH_done (by kernel_rfl) ?_ _
        go_wp2
        refine ret_rows3 rfl rfl rfl BE.out BF.out agg_apisum (by simp) (by simp) rfl ?_
        rw [← zero32_map]
        exact ⟨zero32, zero32, by rw [HDB.out]; rfl, zero32_length, zero32_length, fun h => absurd h HNE.out, EF.out⟩
  · have h3 : m < n := by omega
    have hgpos : 1 ≤ growN m n wh := by
      by_cases hm : m ≤ splitN n
      · rw [growN_left h0 h3 hm]; omega
      · rw [growN_right h0 h3 hm]; omega
    by_cases hl0 : L = 0
    · subst hl0
      have hne : ¬ ls.length = growN m n wh := by rw [hL]; omega
      have hdb : decide (ls.length = growN m n wh) = false := decide_eq_false hne
      have HDB := hid hdb
      have HNE := hid hne
      clear HIH hcl h32 hL hne hdb hgpos
      go_enter Try.func56, Try.ntmps56
      go_upto_region 1 with (fail)
      generalize hwA : World.alloc (World.alloc (World.alloc w _) _) _ = wA
      have xA : Blk wA w.heap.size (x.map u8v) 36 := by rw [← hwA]; exact ((Blk.mk_alloc rfl rfl).alloc _).alloc _
      have yA : Blk wA (w.heap.size + 1) (List.replicate 32 (.int .u8 0)) 36 := by rw [← hwA]; exact (Blk.mk_alloc (by simp) rfl).alloc _
      have zA : Blk wA (w.heap.size + 2) (List.replicate 32 (.int .u8 0)) 36 := by rw [← hwA]; exact Blk.mk_alloc (by simp) rfl
      have eA : Ext w wA := by rw [← hwA]; exact ((((Ext.refl w).alloc _).alloc _).alloc _)
      have hwl : w.heap.size ≤ wA.heap.size := eA.size
      have hzl : w.heap.size + 2 < wA.heap.size := zA.lt
      clear hwA
      have XA := hid xA
      have YA := hid yA
      have ZA := hid zA
      have EA := hid eA
      clear xA yA zA eA
      go_wp2
      obtain ⟨C, hC⟩ : ∃ C : World → Prop, C = Cls w wA [w.heap.size + 1, w.heap.size + 2] [] := ⟨_, rfl⟩
      have hC0 : ∀ w', C w' ↔ Cls w wA [w.heap.size + 1, w.heap.size + 2] [] w' := fun w' => by rw [hC]
      clear hC
      have HCC := hid hC0
      clear hC0
      have hCx : ∀ w w', C w → Ext w w' → C w' := fun w w' h1 h2 => (HCC.out w').2 (((HCC.out w).1 h1).ext h2)
      have hCA : C wA := (HCC.out _).2 (Cls.no_room EA.out (Kept.two YA.out.lt ZA.out.lt))
      have hs1 : ∀ w1, C w1 → Blk w1 (w.heap.size + 1) (List.replicate 32 (.int .u8 0)) 36 := fun w1 h1 => ((HCC.out w1).1 h1).blk YA.out (by simp)
      have hs2 : ∀ w1, C w1 → Blk w1 (w.heap.size + 2) (List.replicate 32 (.int .u8 0)) 36 := fun w1 h1 => ((HCC.out w1).1 h1).blk ZA.out (by simp)
      refine wp_region_held_drew (S := C) (by kernel_rfl) (hCx _ _ hCA (Ext.refl _).drew) (fun hS0 => ?_)
      refine held_take 0 (v := _) rfl (by kernel_rfl) (by kernel_rfl) (by kernel_rfl) (fun _ _ _ h => h) (yieldsI_loadw rfl _ _ rfl rfl hs1 agg_apisum (by simp)) hS0 ?_
      simp only [Act.put, List.setIfInBounds_toArray, List.set_cons_succ, List.set_cons_zero]
      refine held_take 1 (v := _) rfl (by kernel_rfl) (by kernel_rfl) (by kernel_rfl) (fun _ _ _ h => h) (yieldsI_loadw rfl _ _ rfl rfl hs2 agg_apisum (by simp)) hS0 ?_
      simp only [Act.put, List.setIfInBounds_toArray, List.set_cons_succ, List.set_cons_zero]
      generalize wA.drew = wD at *
      have YD := hid (hs1 wD hS0)
      have HCD := hid hS0
      clear hS0
      refine held_one (i := 2) (by kernel_rfl) rfl ?_
      intro Q' hQ
      go_wp2_with (refine wpl_storew rfl _ _ _ rfl rfl rfl YD.out agg_apisum (by simp) (by simp) (one_zeros 32) ?_)
      intro wE bE uE
      have hCE : C wE := (HCC.out wE).2 (((HCC.out wD).1 HCD.out).restore uE YA.out bE (by omega))
      go_wp2_with fail
      refine hQ _ _ hCE ?_
      clear hQ Q' uE bE YD HCD
      have ZE := hid (hs2 wE hCE)
      have HCE := hid hCE
      clear hCE
      try dsimp only
      try simp only [Act.put, List.setIfInBounds_toArray, List.set_cons_succ, List.set_cons_zero]
      refine held_one (i := 3) (by kernel_rfl) rfl ?_
      intro Q' hQ
      go_wp2_with (refine wpl_storew rfl _ _ _ rfl rfl rfl ZE.out agg_apisum (by simp) (by simp) (one_zeros 32) ?_)
      intro wF bF uF
      have hCF : C wF := (HCC.out wF).2 (((HCC.out wE).1 HCE.out).restore uF ZA.out bF (by omega))
      go_wp2_with fail
      refine hQ _ _ hCF ?_
      clear hQ Q' uF bF ZE HCE
      try dsimp only
      try simp only [Act.put, List.setIfInBounds_toArray, List.set_cons_succ, List.set_cons_zero]
      refine held_one (i := 4) (by kernel_rfl) rfl ?_
      intro Q' hQ
      go_wp2_with fail
      refine hQ _ _ hCF ?_
      clear hQ Q'
      have BE := hid (hs1 wF hCF)
      have BF := hid (hs2 wF hCF)
      have EF := hid ((HCC.out wF).1 hCF).base
      clear hs1 hs2
      refine wpAnyH_done (by kernel_rfl) ?_ _
      go_wp2
      refine ret_rows3 rfl rfl rfl BE.out BF.out agg_apisum (by simp) (by simp) rfl ?_
      rw [← zero32_map]
      exact ⟨zero32, zero32, by rw [HDB.out]; rfl, zero32_length, zero32_length, fun h => absurd h HNE.out, EF.out⟩
    · obtain ⟨rest, last, rfl⟩ : ∃ rest last, ls = rest ++ [last] := by
        have hne : ls ≠ [] := by intro h; rw [h] at hL; simp at hL; omega
        exact ⟨ls.dropLast, ls.getLast hne, (List.dropLast_concat_getLast hne).symm⟩
      obtain ⟨r, rfl⟩ : ∃ r, L = r + 1 := ⟨L - 1, by omega⟩
      have hr : rest.length = r := by simpa using hL
      have hlast : (rest ++ [last])[r]? = some last := by rw [← hr]; simp
      have hr32 : All32 rest := fun l hl => h32 l (by simp [hl])
      have hl32 : last.length = 32 := h32 last (by simp)
      obtain ⟨A, hA, hca⟩ : ∃ A, a = some A ∧ CellsAt w (A.add (r * 32)) (last.map u8v) := by
        cases a with
        | none => rcases hcl with h | ⟨_, _, h, _⟩
                  · have := rows_length h32; rw [h] at this; simp at this
                  · cases h
        | some A => exact ⟨A, rfl, hcl.rowAt h32 hlast⟩
      subst hA
      have hcr : Cells w (some A) (rows rest) := by
        have := hcl.rowsTake h32 r
        rwa [← hr, List.take_left' rfl] at this
      have hsp := splitN_spec (n := n) (by omega)
      have hc := hid (fun w => half_c n w (by omega) (by omega))
      have HR := hid hr
      have HR32 := hid hr32
      have HL : Hid ((last.map u8v).length = 32) := hid (by rw [List.length_map, hl32])
      have HL32 := hid hl32
      have o1 := one_u8 last
      have HCA := hid hca
      have HCR := hid hcr
      have hrc : r ≤ c := by omega
      clear hr hr32 hl32 hca hcr h32 hcl hlast hL hgpos hl0
      obtain ⟨k, hk⟩ : ∃ k, splitN n = k := ⟨_, rfl⟩
      have HK := hid hk
      rw [hk] at hsp hc
      clear hk
      obtain ⟨k1, k2, k3⟩ := hsp
      have d1 : ((r : Int) + 1 == 0) = false := by simp; omega
      have d2 : (r + 1 == 0) = false := by simp
      go_enter Try.func56, Try.ntmps56
      go_upto_region 1 with (fail)
      generalize hwA : World.alloc (World.alloc (World.alloc w _) _) _ = wA
      have xA : Blk wA w.heap.size (x.map u8v) 36 := by rw [← hwA]; exact ((Blk.mk_alloc rfl rfl).alloc _).alloc _
      have yA : Blk wA (w.heap.size + 1) (List.replicate 32 (.int .u8 0)) 36 := by rw [← hwA]; exact (Blk.mk_alloc (by simp) rfl).alloc _
      have zA : Blk wA (w.heap.size + 2) (List.replicate 32 (.int .u8 0)) 36 := by rw [← hwA]; exact Blk.mk_alloc (by simp) rfl
      have eA : Ext w wA := by rw [← hwA]; exact ((((Ext.refl w).alloc _).alloc _).alloc _)
      have hwl : w.heap.size ≤ wA.heap.size := eA.size
      have hzl : w.heap.size + 2 < wA.heap.size := zA.lt
      clear hwA
      have XA := hid xA
      have YA := hid yA
      have ZA := hid zA
      have EA := hid eA
      clear xA yA zA eA
      go_wp2
      obtain ⟨C, hC⟩ : ∃ C : World → Prop, C = Cls w wA [w.heap.size] [(w.heap.size + 1, 32, 36), (w.heap.size + 2, 32, 36)] := ⟨_, rfl⟩
      have hC0 : ∀ w', C w' ↔ Cls w wA [w.heap.size] [(w.heap.size + 1, 32, 36), (w.heap.size + 2, 32, 36)] w' := fun w' => by rw [hC]
      clear hC
      have HCC := hid hC0
      clear hC0
      have hCx : ∀ w w', C w → Ext w w' → C w' := fun w w' h1 h2 => (HCC.out w').2 (((HCC.out w).1 h1).ext h2)
      have hCA : C wA := (HCC.out _).2 (Cls.two_room EA.out (Kept.one XA.out.lt) YA.out (by simp) ZA.out (by simp))
      have hca : ∀ w1, C w1 → CellsAt w1 (A.add (r * 32)) (last.map u8v) := fun w1 h1 => HCA.out.ext ((HCC.out w1).1 h1).base
      have hwr : IntKind.i64.wrap (r : Int) = (r : Int) := IntWalk.i64_in _ (by omega)
      refine wp_region_held_drew (S := C) (by kernel_rfl) (hCx _ _ hCA (Ext.refl _).drew) (fun hS0 => ?_)
      refine held_take 0 (v := ?tv6) rfl (by kernel_rfl) (by kernel_rfl) (by kernel_rfl) (fun _ _ _ h => h) (.inl ⟨rfl, ?ty6⟩) hS0 ?tr6
      case ty6 => (intro _ _; go_simp; try with_reducible rfl)
      case tr6 =>
      simp only [Act.put, List.setIfInBounds_toArray, List.set_cons_succ, List.set_cons_zero]
      refine held_take 1 (v := ?tv7) rfl (by kernel_rfl) (by kernel_rfl) (by kernel_rfl) (fun _ _ _ h => h) (.inl ⟨rfl, ?ty7⟩) hS0 ?tr7
      case ty7 => (intro _ _; go_simp; try with_reducible rfl)
      case tr7 =>
      simp only [Act.put, List.setIfInBounds_toArray, List.set_cons_succ, List.set_cons_zero]
      refine held_take 2 (v := ?tv8) rfl (by kernel_rfl) (by kernel_rfl) (by kernel_rfl) (fun _ _ _ h => h) (.inl ⟨rfl, ?ty8⟩) hS0 ?tr8
      case ty8 => (intro _ _; go_simp; try with_reducible rfl)
      case tr8 =>
      simp only [Act.put, List.setIfInBounds_toArray, List.set_cons_succ, List.set_cons_zero]
      refine held_take 3 (v := ?tv9) rfl (by kernel_rfl) (by kernel_rfl) (by kernel_rfl) (fun _ _ _ h => h) (.inl ⟨rfl, ?ty9⟩) hS0 ?tr9
      case ty9 => (intro _ _; go_simp; try with_reducible rfl)
      case tr9 =>
      simp only [Act.put, List.setIfInBounds_toArray, List.set_cons_succ, List.set_cons_zero]
      refine held_take 4 (v := _) rfl (by kernel_rfl) (by kernel_rfl) (by kernel_rfl) (fun _ _ _ h => h) (yieldsI_run rfl (fun w1 _ => exec_index (i := r) rfl rfl rfl Try.underlying22 size_apisum (by omega) w1)) hS0 ?_
      simp only [Act.put, List.setIfInBounds_toArray, List.set_cons_succ, List.set_cons_zero]
      refine held_take 5 (v := _) rfl (by kernel_rfl) (by kernel_rfl) (by kernel_rfl) (fun _ _ _ h => h) (yieldsI_run rfl (fun w1 h => exec_load_at rfl rfl (hca w1 h) agg_apisum HL.out)) hS0 ?_
      simp only [Act.put, List.setIfInBounds_toArray, List.set_cons_succ, List.set_cons_zero]
      refine held_take 6 (v := ?tv10) rfl (by kernel_rfl) (by kernel_rfl) (by kernel_rfl) (fun _ _ _ h => h) (.inl ⟨rfl, ?ty10⟩) hS0 ?tr10
      case ty10 => (intro _ _; go_simp; try with_reducible rfl)
      case tr10 =>
      simp only [Act.put, List.setIfInBounds_toArray, List.set_cons_succ, List.set_cons_zero]
      refine held_take 7 (v := ?tv11) rfl (by kernel_rfl) (by kernel_rfl) (by kernel_rfl) (fun _ _ _ h => h) (.inl ⟨rfl, ?ty11⟩) hS0 ?tr11
      case ty11 => (intro _ _; go_simp; try with_reducible rfl)
      case tr11 =>
      simp only [Act.put, List.setIfInBounds_toArray, List.set_cons_succ, List.set_cons_zero]
      refine held_take 8 (v := ?tv12) rfl (by kernel_rfl) (by kernel_rfl) (by kernel_rfl) (fun _ _ _ h => h) (.inl ⟨rfl, ?ty12⟩) hS0 ?tr12
      case ty12 => (intro _ _; go_simp; try with_reducible rfl)
      case tr12 =>
      simp only [Act.put, List.setIfInBounds_toArray, List.set_cons_succ, List.set_cons_zero]
      refine held_take 9 (v := ?tv13) rfl (by kernel_rfl) (by kernel_rfl) (by kernel_rfl) (fun _ _ _ h => h) (.inl ⟨rfl, ?ty13⟩) hS0 ?tr13
      case ty13 => (intro _ _; go_simp; try with_reducible rfl)
      case tr13 =>
      simp only [Act.put, List.setIfInBounds_toArray, List.set_cons_succ, List.set_cons_zero]
      refine held_take 10 (v := _) rfl (by kernel_rfl) (by kernel_rfl) (by kernel_rfl) (fun _ _ _ h => h) (yieldsI_run rfl (fun w1 _ => exec_high (k := r) rfl rfl rfl Try.underlying22 size_apisum (by omega) w1)) hS0 ?_
      simp only [Act.put, List.setIfInBounds_toArray, List.set_cons_succ, List.set_cons_zero]
      clear hwr
      generalize wA.drew = wD at *
      have hwd : wA.heap.size ≤ wD.heap.size := ((HCC.out wD).1 hS0).kept.1
      refine held_one (i := 11) (by kernel_rfl) rfl ?_
      intro Q' hQ
      go_wp2_with fail
      refine hQ _ _ (hCx _ _ hS0 ((Ext.refl _).alloc _)) ?_
      clear hQ Q'
      generalize hwE : wD.alloc _ = wE
      have bE : Blk wE wD.heap.size (List.replicate 32 (.int .u8 0)) 36 := by rw [← hwE]; exact Blk.mk_alloc rfl rfl
      have hCE : C wE := by rw [← hwE]; exact hCx _ _ hS0 ((Ext.refl _).alloc _)
      clear hwE hS0
      have BE := hid bE
      have HCE := hid hCE
      clear bE hCE
      generalize wD.heap.size = gl at *
      try dsimp only
      try simp only [Act.put, List.setIfInBounds_toArray, List.set_cons_succ, List.set_cons_zero]
      refine held_one (i := 12) (by kernel_rfl) rfl ?_
      intro Q' hQ
      go_wp2_with (refine wpl_storew rfl _ _ _ rfl rfl rfl BE.out agg_apisum (by simp) HL.out o1 ?_)
      intro wF bF uF
      have hCF : C wF := (HCC.out wF).2 (((HCC.out wE).1 HCE.out).upd uF hwd hwl)
      go_wp2_with fail
      refine hQ _ _ hCF ?_
      clear hQ Q' uF BE HCE
      try dsimp only
      try simp only [Act.put, List.setIfInBounds_toArray, List.set_cons_succ, List.set_cons_zero]
      refine held_one (i := 13) (by kernel_rfl) rfl ?_
      intro Q' hQ
      go_wp2_with fail
      refine hQ _ _ hCF ?_
      clear hQ Q'
      refine wpAnyH_done (by kernel_rfl) ?_ _
      have XF := hid (((HCC.out wF).1 hCF).blk XA.out (by simp))
      have EF := hid ((HCC.out wF).1 hCF).base
      obtain ⟨vy, hvy, yF⟩ := ((HCC.out wF).1 hCF).at_room (r := w.heap.size + 1) (n := 32) (T := 36) (by simp)
      have YF := hid yF
      have HVY := hid hvy
      obtain ⟨vz, hvz, zF⟩ := ((HCC.out wF).1 hCF).at_room (r := w.heap.size + 2) (n := 32) (T := 36) (by simp)
      have ZF := hid zF
      have HVZ := hid hvz
      have BF := hid bF
      have hgl : gl < wF.heap.size := bF.lt
      have hwf : w.heap.size ≤ wF.heap.size := EF.out.size
      clear hCF zF hvz yF hvy bF HCC hCx hCA hca XA YA ZA EA hwl HCA d1 d2
      by_cases hik : m ≤ k
      · have hrec := fun w' hc' => HIH.out k k2 m x wh rest r c (some A) w' h0 hik (by omega) HX0.out HR32.out HR.out hrc hc63 hc'
        have hdd : decide ((rest ++ [last]).length = growN m n wh) = decide (rest.length = growN m k wh) := by
          rw [growN_left h0 h3 (by rw [HK.out]; exact hik), HK.out, List.length_append, Bool.eq_iff_iff]
          simp
        have hff : ∀ y z, (rest.length = growN m k wh → (y, z) = followL nodeL x m k wh rest) → (rest ++ [last]).length = growN m n wh → (y, nodeL z last) = followL nodeL x m n wh (rest ++ [last]) := by
          intro y z h hl
          have h9 := h (by have := decide_eq_true hl; rw [hdd] at this; exact of_decide_eq_true this)
          rw [followL_left _ _ _ _ _ h0 h3 (by rw [HK.out]; exact hik), HK.out, ← h9]
        have HDD := hid hdd
        have HFF := hid hff
        have HRC := hid hrec
        clear hdd hff hrec HK HIH
        go_wp2_with (first | (go_at_call 47; refine (hc.out _).mono ?_; rintro e w' ⟨rfl, rfl⟩) | (refine wpl_loadw rfl _ (.tmp 8) rfl rfl XF.out agg_apisum HX.out ?_))
        refine (HRC.out wF (HCR.out.ext EF.out)).mono ?_
        intro e wG hpost
        obtain ⟨y1, y2, rfl, hy1, hy2, hfe, eG⟩ := hpost
        obtain ⟨D, hD⟩ : ∃ D, decide (rest.length = growN m k wh) = D := ⟨_, rfl⟩
        rw [hD]
        have HD := hid hD
        have HF := hid (HFF.out y1 y2 hfe)
        have HV1 : Hid ((y1.map u8v).length = 32) := hid (by rw [List.length_map, hy1])
        have HV2 : Hid ((y2.map u8v).length = 32) := hid (by rw [List.length_map, hy2])
        have oy1 := one_u8 y1
        have oy2 := one_u8 y2
        have ND2 := hid (fun w' => rnode_c y2 last w' hy2 HL32.out)
        have HVN := hid (nodeL_length y2 last)
        generalize nodeL y2 last = z at *
        have HY10 := hid hy1
        have HZ2 : Hid ((z.map u8v).length = 32) := hid (by rw [List.length_map, HVN.out])
        have oz := one_u8 z
        have YG := hid (YF.out.ext eG)
        have ZG := hid (ZF.out.ext eG)
        have LG := hid (BF.out.ext eG)
        have EG := hid (EF.out.ext eG)
        clear eG hfe hy1 hy2 hD HFF HRC hc
        go_wp2_with (refine wpl_storew rfl _ (.tmp 10) _ rfl rfl rfl YG.out agg_apisum HVY.out HV1.out oy1 ?_)
        intro wH bH uH
        have ZH := hid (ZG.out.upd uH (by omega))
        have LH := hid (LG.out.upd uH (by omega))
        have EH := hid (uH.ext EG.out (by omega))
        have BH := hid bH
        clear bH uH YG ZG LG EG
        go_wp2_with (refine wpl_storew rfl _ (.tmp 11) _ rfl rfl rfl ZH.out agg_apisum HVZ.out HV2.out oy2 ?_)
        intro wI bI uI
        have LI := hid (LH.out.upd uI (by omega))
        have EI := hid (uI.ext EH.out (by omega))
        have B1 := hid (BH.out.upd uI (by omega))
        have B2 := hid bI
        clear bI uI BH ZH LH EH XF YF ZF BF EF HCR HX HX0 o0
        go_wp2
        obtain ⟨C, hC⟩ : ∃ C : World → Prop, C = Cls w wI [gl, w.heap.size + 1, w.heap.size + 2] [] := ⟨_, rfl⟩
        have hC0 : ∀ w', C w' ↔ Cls w wI [gl, w.heap.size + 1, w.heap.size + 2] [] w' := fun w' => by rw [hC]
        clear hC
        have HCC := hid hC0
        clear hC0
        have hCx : ∀ w w', C w → Ext w w' → C w' := fun w w' h1 h2 => (HCC.out w').2 (((HCC.out w).1 h1).ext h2)
        have hCA : C wI := (HCC.out _).2 (Cls.no_room EI.out (Kept.three LI.out.lt B1.out.lt B2.out.lt))
        have hs1 : ∀ w1, C w1 → Blk w1 gl (last.map u8v) 36 := fun w1 h1 => ((HCC.out w1).1 h1).blk LI.out (by simp)
        have hs2 : ∀ w1, C w1 → Blk w1 (w.heap.size + 1) (y1.map u8v) 36 := fun w1 h1 => ((HCC.out w1).1 h1).blk B1.out (by simp)
        have hs3 : ∀ w1, C w1 → Blk w1 (w.heap.size + 2) (y2.map u8v) 36 := fun w1 h1 => ((HCC.out w1).1 h1).blk B2.out (by simp)
        refine wp_region_w (S := C) (W := [5, 6, 7]) (by kernel_rfl) (hCx _ _ hCA (Ext.refl _).drew) (fun hS0 => ?_)
        refine w_take 0 (v := _) rfl (by kernel_rfl) (by kernel_rfl) (by kernel_rfl) (by kernel_rfl) (by kernel_rfl) (fun _ _ _ h => h) (yieldsI_loadw rfl _ _ rfl rfl hs2 agg_apisum HV1.out) hS0 ?_
        simp only [Act.put, List.setIfInBounds_toArray, List.set_cons_succ, List.set_cons_zero]
        refine w_take 1 (v := _) rfl (by kernel_rfl) (by kernel_rfl) (by kernel_rfl) (by kernel_rfl) (by kernel_rfl) (fun _ _ _ h => h) (yieldsI_loadw rfl _ _ rfl rfl hs3 agg_apisum HV2.out) hS0 ?_
        simp only [Act.put, List.setIfInBounds_toArray, List.set_cons_succ, List.set_cons_zero]
        refine w_take 2 (v := _) rfl (by kernel_rfl) (by kernel_rfl) (by kernel_rfl) (by kernel_rfl) (by kernel_rfl) (fun _ _ _ h => h) (yieldsI_loadw rfl _ _ rfl rfl hs1 agg_apisum HL.out) hS0 ?_
        simp only [Act.put, List.setIfInBounds_toArray, List.set_cons_succ, List.set_cons_zero]
        refine w_pure 4 (v := ?tv14) rfl (by kernel_rfl) (by kernel_rfl) (by kernel_rfl) (fun _ _ _ h => h) (.inl ⟨rfl, ?ty14⟩) ?tr14
        case ty14 => (intro _ _; go_simp; try with_reducible rfl)
        case tr14 =>
        simp only [Act.put, List.setIfInBounds_toArray, List.set_cons_succ, List.set_cons_zero]
        generalize wI.drew = wD at *
        refine w_one (i := 3) (by kernel_rfl) rfl (by kernel_rfl) hS0 ?_
        intro Q' hQ
        go_wp2_with fail
        refine (ND2.out wD).mono ?_
        rintro e wK0 ⟨rfl, eK⟩
        have hK0 := hCx _ _ hS0 eK
        go_wp2_with fail
        refine hQ _ _ hK0 ?_
        clear hQ Q' hS0 eK
        have hS0 := hK0
        clear hK0
        try dsimp only
        try simp only [Act.put, List.setIfInBounds_toArray, List.set_cons_succ, List.set_cons_zero]
        have YK := hid (hs2 wK0 hS0)
        have ZK := hid (hs3 wK0 hS0)
        have EK := hid ((HCC.out wK0).1 hS0).base
        clear hS0 hs1 hs2 hs3
        refine w_late (i := 5) (by kernel_rfl) rfl (by kernel_rfl) ?_
        intro Q' hQ
        go_wp2_with (refine wpl_storew rfl _ _ _ rfl rfl rfl YK.out agg_apisum HV1.out HV1.out oy1 ?_)
        intro wM bM uM
        have ZM := hid (ZK.out.upd uM (by omega))
        have EM := hid (uM.ext EK.out (by omega))
        have BM := hid bM
        clear bM uM YK ZK EK
        go_wp2_with fail
        refine hQ _ _ trivial ?_
        clear hQ Q'
        try dsimp only
        try simp only [Act.put, List.setIfInBounds_toArray, List.set_cons_succ, List.set_cons_zero]
        refine w_late (i := 6) (by kernel_rfl) rfl (by kernel_rfl) ?_
        intro Q' hQ
        go_wp2_with (refine wpl_storew rfl _ _ _ rfl rfl rfl ZM.out agg_apisum HV2.out HZ2.out oz ?_)
        intro wN bN uN
        have EN := hid (uN.ext EM.out (by omega))
        have BO := hid (BM.out.upd uN (by omega))
        have BN := hid bN
        clear bN uN ZM EM BM
        go_wp2_with fail
        refine hQ _ _ trivial ?_
        clear hQ Q'
        try dsimp only
        try simp only [Act.put, List.setIfInBounds_toArray, List.set_cons_succ, List.set_cons_zero]
        refine w_late (i := 7) (by kernel_rfl) rfl (by kernel_rfl) ?_
        intro Q' hQ
        go_wp2_with fail
        refine hQ _ _ trivial ?_
        clear hQ Q'
        refine w_done (by kernel_rfl) ?_ _
        go_wp2
        refine ret_rows3 rfl rfl rfl BO.out BN.out agg_apisum HV1.out HZ2.out rfl ?_
        exact ⟨y1, z, by rw [HDD.out, HD.out]; rfl, HY10.out, HVN.out, HF.out, EN.out⟩
      · have hrec := fun w' hc' => HIH.out (n - k) (by omega) (m - k) x false rest r c (some A) w' (by omega) (by omega) (by omega) HX0.out HR32.out HR.out hrc hc63 hc'
        have hdd : decide ((rest ++ [last]).length = growN m n wh) = decide (rest.length = growN (m - k) (n - k) false) := by
          rw [growN_right h0 h3 (by rw [HK.out]; exact hik), HK.out, List.length_append, Bool.eq_iff_iff]
          simp
        have hff : ∀ y z, (rest.length = growN (m - k) (n - k) false → (y, z) = followL nodeL x (m - k) (n - k) false rest) → (rest ++ [last]).length = growN m n wh → (nodeL last y, nodeL last z) = followL nodeL x m n wh (rest ++ [last]) := by
          intro y z h hl
          have h9 := h (by have := decide_eq_true hl; rw [hdd] at this; exact of_decide_eq_true this)
          rw [followL_right _ _ _ _ _ h0 h3 (by rw [HK.out]; exact hik), HK.out, ← h9]
        have HDD := hid hdd
        have HFF := hid hff
        have HRC := hid hrec
        clear hdd hff hrec HK HIH
        have hd1 : ((m : Int) - (k : Int)) = ((m - k : Nat) : Int) := by omega
        have hd2 : ((n : Int) - (k : Int)) = ((n - k : Nat) : Int) := by omega
        have HD1 := hid hd1
        have HD2 := hid hd2
        clear hd1 hd2
        go_wp2_with (first | (go_at_call 47; refine (hc.out _).mono ?_; rintro e w' ⟨rfl, rfl⟩) | (refine wpl_loadw rfl _ (.tmp 8) rfl rfl XF.out agg_apisum HX.out ?_))
        rw [HD1.out, HD2.out]
        refine (HRC.out wF (HCR.out.ext EF.out)).mono ?_
        intro e wG hpost
        obtain ⟨y1, y2, rfl, hy1, hy2, hfe, eG⟩ := hpost
        obtain ⟨D, hD⟩ : ∃ D, decide (rest.length = growN (m - k) (n - k) false) = D := ⟨_, rfl⟩
        rw [hD]
        have HD := hid hD
        have HF := hid (HFF.out y1 y2 hfe)
        have HV1 : Hid ((y1.map u8v).length = 32) := hid (by rw [List.length_map, hy1])
        have HV2 : Hid ((y2.map u8v).length = 32) := hid (by rw [List.length_map, hy2])
        have oy1 := one_u8 y1
        have oy2 := one_u8 y2
        have ND1 := hid (fun w' => rnode_c last y1 w' HL32.out hy1)
        have ND2 := hid (fun w' => rnode_c last y2 w' HL32.out hy2)
        have HVN1 := hid (nodeL_length last y1)
        have HVN := hid (nodeL_length last y2)
        generalize nodeL last y1 = z1 at *
        generalize nodeL last y2 = z at *
        have HZ1 : Hid ((z1.map u8v).length = 32) := hid (by rw [List.length_map, HVN1.out])
        have oz1 := one_u8 z1
        have HZ2 : Hid ((z.map u8v).length = 32) := hid (by rw [List.length_map, HVN.out])
        have oz := one_u8 z
        have YG := hid (YF.out.ext eG)
        have ZG := hid (ZF.out.ext eG)
        have LG := hid (BF.out.ext eG)
        have EG := hid (EF.out.ext eG)
        clear eG hfe hy1 hy2 hD HFF HRC hc
        go_wp2_with (refine wpl_storew rfl _ (.tmp 10) _ rfl rfl rfl YG.out agg_apisum HVY.out HV1.out oy1 ?_)
        intro wH bH uH
        have ZH := hid (ZG.out.upd uH (by omega))
        have LH := hid (LG.out.upd uH (by omega))
        have EH := hid (uH.ext EG.out (by omega))
        have BH := hid bH
        clear bH uH YG ZG LG EG
        go_wp2_with (refine wpl_storew rfl _ (.tmp 11) _ rfl rfl rfl ZH.out agg_apisum HVZ.out HV2.out oy2 ?_)
        intro wI bI uI
        have LI := hid (LH.out.upd uI (by omega))
        have EI := hid (uI.ext EH.out (by omega))
        have B1 := hid (BH.out.upd uI (by omega))
        have B2 := hid bI
        clear bI uI BH ZH LH EH XF YF ZF BF EF HCR HX HX0 o0
        go_wp2
        obtain ⟨C, hC⟩ : ∃ C : World → Prop, C = Cls w wI [gl, w.heap.size + 1, w.heap.size + 2] [] := ⟨_, rfl⟩
        have hC0 : ∀ w', C w' ↔ Cls w wI [gl, w.heap.size + 1, w.heap.size + 2] [] w' := fun w' => by rw [hC]
        clear hC
        have HCC := hid hC0
        clear hC0
        have hCx : ∀ w w', C w → Ext w w' → C w' := fun w w' h1 h2 => (HCC.out w').2 (((HCC.out w).1 h1).ext h2)
        have hCA : C wI := (HCC.out _).2 (Cls.no_room EI.out (Kept.three LI.out.lt B1.out.lt B2.out.lt))
        have hs1 : ∀ w1, C w1 → Blk w1 gl (last.map u8v) 36 := fun w1 h1 => ((HCC.out w1).1 h1).blk LI.out (by simp)
        have hs2 : ∀ w1, C w1 → Blk w1 (w.heap.size + 1) (y1.map u8v) 36 := fun w1 h1 => ((HCC.out w1).1 h1).blk B1.out (by simp)
        have hs3 : ∀ w1, C w1 → Blk w1 (w.heap.size + 2) (y2.map u8v) 36 := fun w1 h1 => ((HCC.out w1).1 h1).blk B2.out (by simp)
        refine wp_region_w (S := C) (W := [7, 8, 9]) (by kernel_rfl) (hCx _ _ hCA (Ext.refl _).drew) (fun hS0 => ?_)
        refine w_take 0 (v := _) rfl (by kernel_rfl) (by kernel_rfl) (by kernel_rfl) (by kernel_rfl) (by kernel_rfl) (fun _ _ _ h => h) (yieldsI_loadw rfl _ _ rfl rfl hs1 agg_apisum HL.out) hS0 ?_
        simp only [Act.put, List.setIfInBounds_toArray, List.set_cons_succ, List.set_cons_zero]
        refine w_take 1 (v := _) rfl (by kernel_rfl) (by kernel_rfl) (by kernel_rfl) (by kernel_rfl) (by kernel_rfl) (fun _ _ _ h => h) (yieldsI_loadw rfl _ _ rfl rfl hs2 agg_apisum HV1.out) hS0 ?_
        simp only [Act.put, List.setIfInBounds_toArray, List.set_cons_succ, List.set_cons_zero]
        refine w_take 3 (v := _) rfl (by kernel_rfl) (by kernel_rfl) (by kernel_rfl) (by kernel_rfl) (by kernel_rfl) (fun _ _ _ h => h) (yieldsI_loadw rfl _ _ rfl rfl hs1 agg_apisum HL.out) hS0 ?_
        simp only [Act.put, List.setIfInBounds_toArray, List.set_cons_succ, List.set_cons_zero]
        refine w_take 4 (v := _) rfl (by kernel_rfl) (by kernel_rfl) (by kernel_rfl) (by kernel_rfl) (by kernel_rfl) (fun _ _ _ h => h) (yieldsI_loadw rfl _ _ rfl rfl hs3 agg_apisum HV2.out) hS0 ?_
        simp only [Act.put, List.setIfInBounds_toArray, List.set_cons_succ, List.set_cons_zero]
        refine w_pure 6 (v := ?tv15) rfl (by kernel_rfl) (by kernel_rfl) (by kernel_rfl) (fun _ _ _ h => h) (.inl ⟨rfl, ?ty15⟩) ?tr15
        case ty15 => (intro _ _; go_simp; try with_reducible rfl)
        case tr15 =>
        simp only [Act.put, List.setIfInBounds_toArray, List.set_cons_succ, List.set_cons_zero]
        generalize wI.drew = wD at *
        refine w_one (i := 2) (by kernel_rfl) rfl (by kernel_rfl) hS0 ?_
        intro Q' hQ
        go_wp2_with fail
        refine (ND1.out wD).mono ?_
        rintro e wK0 ⟨rfl, eK⟩
        have hK0 := hCx _ _ hS0 eK
        go_wp2_with fail
        refine hQ _ _ hK0 ?_
        clear hQ Q' hS0 eK
        have hS0 := hK0
        clear hK0
        try dsimp only
        try simp only [Act.put, List.setIfInBounds_toArray, List.set_cons_succ, List.set_cons_zero]
        refine w_one (i := 5) (by kernel_rfl) rfl (by kernel_rfl) hS0 ?_
        intro Q' hQ
        go_wp2_with fail
        refine (ND2.out wK0).mono ?_
        rintro e wK1 ⟨rfl, eK⟩
        have hK1 := hCx _ _ hS0 eK
        go_wp2_with fail
        refine hQ _ _ hK1 ?_
        clear hQ Q' hS0 eK
        have hS0 := hK1
        clear hK1
        try dsimp only
        try simp only [Act.put, List.setIfInBounds_toArray, List.set_cons_succ, List.set_cons_zero]
        have YK := hid (hs2 wK1 hS0)
        have ZK := hid (hs3 wK1 hS0)
        have EK := hid ((HCC.out wK1).1 hS0).base
        clear hS0 hs1 hs2 hs3
        refine w_late (i := 7) (by kernel_rfl) rfl (by kernel_rfl) ?_
        intro Q' hQ
        go_wp2_with (refine wpl_storew rfl _ _ _ rfl rfl rfl YK.out agg_apisum HV1.out HZ1.out oz1 ?_)
        intro wM bM uM
        have ZM := hid (ZK.out.upd uM (by omega))
        have EM := hid (uM.ext EK.out (by omega))
        have BM := hid bM
        clear bM uM YK ZK EK
        go_wp2_with fail
        refine hQ _ _ trivial ?_
        clear hQ Q'
        try dsimp only
        try simp only [Act.put, List.setIfInBounds_toArray, List.set_cons_succ, List.set_cons_zero]
        refine w_late (i := 8) (by kernel_rfl) rfl (by kernel_rfl) ?_
        intro Q' hQ
        go_wp2_with (refine wpl_storew rfl _ _ _ rfl rfl rfl ZM.out agg_apisum HV2.out HZ2.out oz ?_)
        intro wN bN uN
        have EN := hid (uN.ext EM.out (by omega))
        have BO := hid (BM.out.upd uN (by omega))
        have BN := hid bN
        clear bN uN ZM EM BM
        go_wp2_with fail
        refine hQ _ _ trivial ?_
        clear hQ Q'
        try dsimp only
        try simp only [Act.put, List.setIfInBounds_toArray, List.set_cons_succ, List.set_cons_zero]
        refine w_late (i := 9) (by kernel_rfl) rfl (by kernel_rfl) ?_
        intro Q' hQ
        go_wp2_with fail
        refine hQ _ _ trivial ?_
        clear hQ Q'
        refine w_done (by kernel_rfl) ?_ _
        go_wp2
        refine ret_rows3 rfl rfl rfl BO.out BN.out agg_apisum HZ1.out HZ2.out rfl ?_
        exact ⟨z1, z, by rw [HDD.out, HD.out]; rfl, HVN1.out, HVN.out, HF.out, EN.out⟩
end

section
open Go Go.RowKit

def grownL (x y : List UInt8) (I Z : Int) (ls : List (List UInt8)) : Int :=
  if Z < 1 ∨ 65536 < Z ∨ I < 1 ∨ Z < I then 4 else if ls.length = growN I.toNat Z.toNat true then
    (if (followL nodeL x I.toNat Z.toNat true ls).1 == x && (followL nodeL x I.toNat Z.toNat true ls).2 == y then 0 else 12) else 12

set_option maxRecDepth 100000 in
set_option maxHeartbeats 2000000 in
theorem grown_c (x y : List UInt8) (I Z : Int) (ls : List (List UInt8)) (m c : Nat) (a : Option Addr) (w : World) (hx : x.length = 32) (hy : y.length = 32) (h32 : All32 ls) (hm : ls.length = m) (hmc : m ≤ c) (hc63 : c ≤ 9223372036854775807) (hcl : Cells w a (rows ls)) :
    Calls Try.prog 25 #[.agg (x.map u8v).toArray, .agg (y.map u8v).toArray, .agg #[.int .i64 I, .int .i64 Z, .slice a m c]] w fun e w' => e = .returned (.int .i64 (grownL x y I Z ls)) ∧ Ext w w' := by
  have HX : Hid ((x.map u8v).length = 32) := hid (by rw [List.length_map, hx])
  have HY : Hid ((y.map u8v).length = 32) := hid (by rw [List.length_map, hy])
  have HX0 := hid hx
  have HY0 := hid hy
  obtain ⟨V, hV⟩ : ∃ V, grownL x y I Z ls = V := ⟨_, rfl⟩
  rw [hV]
  unfold grownL at hV
  have HV := hid hV
  have H32 := hid h32
  have HM := hid hm
  have HC := hid hcl
  clear hV hx hy h32 hm hcl
  go_enter Try.func25, Try.ntmps25
  go_upto_region 1 with (fail)
  generalize hwA : World.alloc (World.alloc (World.alloc w _) _) _ = wA
  have xA : Blk wA w.heap.size (x.map u8v) 36 := by rw [← hwA]; exact ((Blk.mk_alloc rfl rfl).alloc _).alloc _
  have yA : Blk wA (w.heap.size + 1) (y.map u8v) 36 := by rw [← hwA]; exact (Blk.mk_alloc (by simp) rfl).alloc _
  have pA : Blk wA (w.heap.size + 2) [.int .i64 I, .int .i64 Z, .slice a m c] 24 := by rw [← hwA]; exact Blk.mk_alloc (by simp) rfl
  have eA : Ext w wA := by rw [← hwA]; exact ((((Ext.refl w).alloc _).alloc _).alloc _)
  clear hwA
  have c0 : wA.cell? ⟨w.heap.size + 2, 0, none⟩ = some (.int .i64 I) := pA.cell' rfl
  have c1 : wA.cell? ⟨w.heap.size + 2, 1, none⟩ = some (.int .i64 Z) := pA.cell' rfl
  have c2 : wA.cell? ⟨w.heap.size + 2, 2, none⟩ = some (.slice a m c) := pA.cell' rfl
  have XA := hid xA
  have YA := hid yA
  have PA := hid pA
  have EA := hid eA
  clear xA yA eA pA
  have hv := HV.out
  clear HV
  by_cases a1 : Z < 1
  · rw [if_pos (.inl a1)] at hv
    subst hv
    have d1 : decide (Z < 1) = true := decide_eq_true a1
    go_wp2
    go_ret
    exact ⟨rfl, EA.out⟩
  have d1 : decide (Z < 1) = false := decide_eq_false a1
  by_cases a2 : 65536 < Z
  · rw [if_pos (.inr (.inl a2))] at hv
    subst hv
    have d2 : decide (65536 < Z) = true := decide_eq_true a2
    go_wp2
    go_ret
    exact ⟨rfl, EA.out⟩
  have d2 : decide (65536 < Z) = false := decide_eq_false a2
  by_cases a3 : I < 1
  · rw [if_pos (.inr (.inr (.inl a3)))] at hv
    subst hv
    have d3 : decide (I < 1) = true := decide_eq_true a3
    go_wp2
    go_ret
    exact ⟨rfl, EA.out⟩
  have d3 : decide (I < 1) = false := decide_eq_false a3
  by_cases a4 : Z < I
  · rw [if_pos (.inr (.inr (.inr a4)))] at hv
    subst hv
    have d4 : decide (Z < I) = true := decide_eq_true a4
    go_wp2
    go_ret
    exact ⟨rfl, EA.out⟩
  have d4 : decide (Z < I) = false := decide_eq_false a4
  rw [if_neg (by omega)] at hv
  obtain ⟨i, rfl⟩ := Int.eq_ofNat_of_zero_le (show 0 ≤ I by omega)
  obtain ⟨n, rfl⟩ := Int.eq_ofNat_of_zero_le (show 0 ≤ Z by omega)
  rw [Int.toNat_natCast, Int.toNat_natCast, HM.out] at hv
  have d5 : decide (n < i) = false := decide_eq_false (by omega)
  have d6 : decide (65536 < n) = false := decide_eq_false (by omega)
  have d7 : decide (n < 1) = false := decide_eq_false (by omega)
  have d8 : decide (i < 1) = false := decide_eq_false (by omega)
  have hst := hid (fun w => growthSteps_c i n w (by omega) (by omega) (by omega))
  have hNle := growN_le i n true (by omega) (by omega)
  have hfo := hid (fun h w' hc => follow_c n i x true ls m c a w' (by omega) (by omega) (by omega) HX0.out H32.out HM.out h hmc hc)
  have hfl := hid (fun h => followL_length x HX0.out n i true ls (by omega) (by omega) H32.out h)
  generalize followL nodeL x i n true ls = pq at *
  generalize growN i n true = N at *
  obtain ⟨p, q⟩ := pq
  unfold pairV at hfo
  simp only at hfo hfl hv
  go_wp2
  obtain ⟨C, hC⟩ : ∃ C : World → Prop, C = Cls w wA [w.heap.size, w.heap.size + 1, w.heap.size + 2] [] := ⟨_, rfl⟩
  have hC0 : ∀ w', C w' ↔ Cls w wA [w.heap.size, w.heap.size + 1, w.heap.size + 2] [] w' := fun w' => by rw [hC]
  clear hC
  have HCC := hid hC0
  clear hC0
  have hCx : ∀ w w', C w → Ext w w' → C w' := fun w w' h1 h2 => (HCC.out w').2 (((HCC.out w).1 h1).ext h2)
  have hCA : C wA := (HCC.out _).2 (Cls.no_room EA.out (Kept.three XA.out.lt YA.out.lt PA.out.lt))
  have e0 : ∀ w1, C w1 → w1.cell? ⟨w.heap.size + 2, 0, none⟩ = some (.int .i64 (i : Int)) := fun w1 h1 => (((HCC.out w1).1 h1).blk PA.out (by simp)).cell' rfl
  have e1 : ∀ w1, C w1 → w1.cell? ⟨w.heap.size + 2, 1, none⟩ = some (.int .i64 (n : Int)) := fun w1 h1 => (((HCC.out w1).1 h1).blk PA.out (by simp)).cell' rfl
  have e2 : ∀ w1, C w1 → w1.cell? ⟨w.heap.size + 2, 2, none⟩ = some (.slice a m c) := fun w1 h1 => (((HCC.out w1).1 h1).blk PA.out (by simp)).cell' rfl
  refine wp_region_held_drew (S := C) (by kernel_rfl) (hCx _ _ hCA (Ext.refl _).drew) (fun hS0 => ?_)
  clear c0 c1 c2
  refine held_take 0 (v := ?tv1) rfl (by kernel_rfl) (by kernel_rfl) (by kernel_rfl) (fun _ _ _ h => h) (.inl ⟨rfl, ?ty1⟩) hS0 ?tr1
  case ty1 => (intro _ _; go_simp; try with_reducible rfl)
  case tr1 =>
  simp only [Act.put, List.setIfInBounds_toArray, List.set_cons_succ, List.set_cons_zero]
  refine held_take 1 (v := ?tv2) rfl (by kernel_rfl) (by kernel_rfl) (by kernel_rfl) (fun _ _ _ h => h) (.inl ⟨rfl, ?ty2⟩) hS0 ?tr2
  case ty2 => (intro wq hwq; have hcq := (e2) wq hwq; go_simp; try with_reducible rfl)
  case tr2 =>
  simp only [Act.put, List.setIfInBounds_toArray, List.set_cons_succ, List.set_cons_zero]
  refine held_take 2 (v := ?tv3) rfl (by kernel_rfl) (by kernel_rfl) (by kernel_rfl) (fun _ _ _ h => h) (.inl ⟨rfl, ?ty3⟩) hS0 ?tr3
  case ty3 => (intro _ _; go_simp; try with_reducible rfl)
  case tr3 =>
  simp only [Act.put, List.setIfInBounds_toArray, List.set_cons_succ, List.set_cons_zero]
  refine held_take 3 (v := ?tv4) rfl (by kernel_rfl) (by kernel_rfl) (by kernel_rfl) (fun _ _ _ h => h) (.inl ⟨rfl, ?ty4⟩) hS0 ?tr4
  case ty4 => (intro _ _; go_simp; try with_reducible rfl)
  case tr4 =>
  simp only [Act.put, List.setIfInBounds_toArray, List.set_cons_succ, List.set_cons_zero]
  refine held_take 4 (v := ?tv5) rfl (by kernel_rfl) (by kernel_rfl) (by kernel_rfl) (fun _ _ _ h => h) (.inl ⟨rfl, ?ty5⟩) hS0 ?tr5
  case ty5 => (intro wq hwq; have hcq := (e0) wq hwq; go_simp; try with_reducible rfl)
  case tr5 =>
  simp only [Act.put, List.setIfInBounds_toArray, List.set_cons_succ, List.set_cons_zero]
  refine held_take 5 (v := ?tv6) rfl (by kernel_rfl) (by kernel_rfl) (by kernel_rfl) (fun _ _ _ h => h) (.inl ⟨rfl, ?ty6⟩) hS0 ?tr6
  case ty6 => (intro _ _; go_simp; try with_reducible rfl)
  case tr6 =>
  simp only [Act.put, List.setIfInBounds_toArray, List.set_cons_succ, List.set_cons_zero]
  refine held_take 6 (v := ?tv7) rfl (by kernel_rfl) (by kernel_rfl) (by kernel_rfl) (fun _ _ _ h => h) (.inl ⟨rfl, ?ty7⟩) hS0 ?tr7
  case ty7 => (intro wq hwq; have hcq := (e1) wq hwq; go_simp; try with_reducible rfl)
  case tr7 =>
  simp only [Act.put, List.setIfInBounds_toArray, List.set_cons_succ, List.set_cons_zero]
  generalize wA.drew = wD at *
  refine held_one (i := 7) (by kernel_rfl) rfl ?_
  intro Q' hQ
  go_wp2_with fail
  refine (hst.out wD).mono ?_
  rintro e w' ⟨rfl, rfl⟩
  go_wp2_with fail
  refine hQ _ _ hS0 ?_
  clear hQ Q' hst
  have XW := hid (((HCC.out wD).1 hS0).blk XA.out (by simp))
  have YW := hid (((HCC.out wD).1 hS0).blk YA.out (by simp))
  have EW := hid ((HCC.out wD).1 hS0).base
  have f0 := e0 wD hS0
  have f1 := e1 wD hS0
  have f2 := e2 wD hS0
  clear e0 e1 e2 XA YA PA EA
  by_cases hmn : m = N
  · rw [if_pos hmn] at hv
    have g1 : ((m : Int) != (N : Int)) = false := by simp [hmn]
    have g2 : (m != N) = false := by simp [hmn]
    have hfo := hid (hfo.out hmn)
    obtain ⟨hp, hq⟩ := hfl.out (by rw [HM.out]; exact hmn)
    have HP0 := hid hp
    have HQ0 := hid hq
    have HP1 : Hid ((p.map u8v).length = 32) := hid (by rw [List.length_map, hp])
    have HQ1 : Hid ((q.map u8v).length = 32) := hid (by rw [List.length_map, hq])
    have op := one_u8 p
    have oq := one_u8 q
    have HVV := hid hv
    clear hp hq hmn hfl hv
    try dsimp only
    try simp only [Act.put, List.setIfInBounds_toArray, List.set_cons_succ, List.set_cons_zero]
    refine held_take 8 (v := ?tv8) rfl (by kernel_rfl) (by kernel_rfl) (by kernel_rfl) (fun _ _ _ h => h) (.inl ⟨rfl, ?ty8⟩) hS0 ?tr8
    case ty8 => (intro _ _; go_simp; try with_reducible rfl)
    case tr8 =>
    simp only [Act.put, List.setIfInBounds_toArray, List.set_cons_succ, List.set_cons_zero]
    refine wpAnyH_done (by kernel_rfl) ?_ _
    clear hCx hCA HCC hS0
    go_wp2_with (refine wpl_loadw rfl _ (.tmp 3) rfl rfl XW.out agg_apisum HX.out ?_)
    refine (hfo.out wD (HC.out.ext EW.out)).mono ?_
    rintro e wG ⟨rfl, eG⟩
    clear f0 f1 f2
    go_wp2_with (refine wpl_storew rfl _ (.tmp 7) _ rfl rfl rfl (Blk.alloc (Blk.mk_alloc (vs := List.replicate 32 (.int .u8 0)) rfl rfl) _) agg_apisum (by simp) HP1.out op ?_)
    intro wH bH uH
    have b16 : Blk wH (wG.heap.size + 1) (List.replicate 32 (.int .u8 0)) 36 := Blk.upd (Blk.mk_alloc (by simp) rfl) uH (by omega)
    have eH : Ext wD wH := eG.ext (uH.ext (((Ext.refl wG).alloc _).alloc _) (Nat.le_refl _))
    go_wp2_with (refine wpl_storew rfl _ (.tmp 8) _ rfl rfl rfl b16 agg_apisum (by simp) HQ1.out oq ?_)
    intro wI bI uI
    have hgG : (wD).heap.size ≤ wG.heap.size := eG.size
    have eI : Ext wD wI := uI.ext eH (by omega)
    have XC := hid (XW.out.ext eI)
    have YC := hid (YW.out.ext eI)
    have EC := hid (EW.out.ext eI)
    have B7 := hid (bH.upd uI (by omega))
    have B8 := hid bI
    clear eI eH bH bI uI uH b16 eG hgG
    clear XW YW EW hfo HC
    have hv := HVV.out
    clear HVV
    have n1 := neq_arr Try.underlying36 p x HP0.out HX0.out
    have n2 := neq_arr Try.underlying36 q y HQ0.out HY0.out
    cases h1 : (p == x) with
    | false =>
      rw [h1] at n1 hv
      have N1 := hid n1
      have N2 := hid n2
      have hv' : (12 : Int) = V := hv
      subst hv'
      clear n1 n2 h1 hv
      go_wp2_with (first | (refine wpl_loadw rfl 36 (.tmp 7) rfl rfl B7.out agg_apisum HP1.out ?_) | (refine wpl_loadw rfl 36 (.tmp 3) rfl rfl XC.out agg_apisum HX.out ?_) | (refine wpg_loadw rfl 36 (.tmp 7) rfl rfl B7.out agg_apisum HP1.out ?_) | (refine wpg_loadw rfl 36 (.tmp 3) rfl rfl XC.out agg_apisum HX.out ?_) | (refine wpg_loadw rfl 36 (.tmp 8) rfl rfl B8.out agg_apisum HQ1.out ?_) | (refine wpg_loadw rfl 36 (.tmp 4) rfl rfl YC.out agg_apisum HY.out ?_) | (refine wpg_cmp rfl .neq _ _ _ _ rfl rfl rfl guard_sum N1.out ?_) | (refine wpg_cmp rfl .neq _ _ _ _ rfl rfl rfl guard_sum N2.out ?_))
      go_ret
      exact ⟨rfl, EC.out⟩
    | true =>
      cases h2 : (q == y) with
      | false =>
        rw [h1] at n1
        rw [h2] at n2
        rw [h1, h2] at hv
        have N1 := hid n1
        have N2 := hid n2
        have hv' : (12 : Int) = V := hv
        subst hv'
        clear n1 n2 h1 h2 hv
        go_wp2_with (first | (refine wpl_loadw rfl 36 (.tmp 7) rfl rfl B7.out agg_apisum HP1.out ?_) | (refine wpl_loadw rfl 36 (.tmp 3) rfl rfl XC.out agg_apisum HX.out ?_) | (refine wpg_loadw rfl 36 (.tmp 7) rfl rfl B7.out agg_apisum HP1.out ?_) | (refine wpg_loadw rfl 36 (.tmp 3) rfl rfl XC.out agg_apisum HX.out ?_) | (refine wpg_loadw rfl 36 (.tmp 8) rfl rfl B8.out agg_apisum HQ1.out ?_) | (refine wpg_loadw rfl 36 (.tmp 4) rfl rfl YC.out agg_apisum HY.out ?_) | (refine wpg_cmp rfl .neq _ _ _ _ rfl rfl rfl guard_sum N1.out ?_) | (refine wpg_cmp rfl .neq _ _ _ _ rfl rfl rfl guard_sum N2.out ?_))
        go_ret
        exact ⟨rfl, EC.out⟩
      | true =>
        rw [h1] at n1
        rw [h2] at n2
        rw [h1, h2] at hv
        have N1 := hid n1
        have N2 := hid n2
        have hv' : (0 : Int) = V := hv
        subst hv'
        clear n1 n2 h1 h2 hv
        go_wp2_with (first | (refine wpl_loadw rfl 36 (.tmp 7) rfl rfl B7.out agg_apisum HP1.out ?_) | (refine wpl_loadw rfl 36 (.tmp 3) rfl rfl XC.out agg_apisum HX.out ?_) | (refine wpg_loadw rfl 36 (.tmp 7) rfl rfl B7.out agg_apisum HP1.out ?_) | (refine wpg_loadw rfl 36 (.tmp 3) rfl rfl XC.out agg_apisum HX.out ?_) | (refine wpg_loadw rfl 36 (.tmp 8) rfl rfl B8.out agg_apisum HQ1.out ?_) | (refine wpg_loadw rfl 36 (.tmp 4) rfl rfl YC.out agg_apisum HY.out ?_) | (refine wpg_cmp rfl .neq _ _ _ _ rfl rfl rfl guard_sum N1.out ?_) | (refine wpg_cmp rfl .neq _ _ _ _ rfl rfl rfl guard_sum N2.out ?_))
        go_ret
        exact ⟨rfl, EC.out⟩
  · rw [if_neg hmn] at hv
    subst hv
    have g1 : ((m : Int) != (N : Int)) = true := by simp; omega
    have g2 : (m != N) = true := by simp [hmn]
    clear hmn hfl hfo
    try dsimp only
    try simp only [Act.put, List.setIfInBounds_toArray, List.set_cons_succ, List.set_cons_zero]
    refine held_take 8 (v := ?tv9) rfl (by kernel_rfl) (by kernel_rfl) (by kernel_rfl) (fun _ _ _ h => h) (.inl ⟨rfl, ?ty9⟩) hS0 ?tr9
    case ty9 => (intro _ _; go_simp; try with_reducible rfl)
    case tr9 =>
    simp only [Act.put, List.setIfInBounds_toArray, List.set_cons_succ, List.set_cons_zero]
    refine wpAnyH_done (by kernel_rfl) ?_ _
    go_wp2
    go_ret
    exact ⟨rfl, EW.out⟩
end

section
open Go Go.RowKit

set_option maxRecDepth 100000 in
set_option maxHeartbeats 2000000 in
theorem rgrown_c (x y : List UInt8) (I Z : Int) (ls : List (List UInt8)) (m c : Nat) (a : Option Addr) (w : World) (hx : x.length = 32) (hy : y.length = 32) (h32 : All32 ls) (hm : ls.length = m) (hmc : m ≤ c) (hc63 : c ≤ 9223372036854775807) (hcl : Cells w a (rows ls)) :
    Calls Try.prog 26 #[.agg (x.map u8v).toArray, .agg (y.map u8v).toArray, .agg #[.int .i64 I, .int .i64 Z, .slice a m c]] w fun e w' => e = .returned (.int .i64 (grownL x y I Z ls)) ∧ Ext w w' := by
  have HX : Hid ((x.map u8v).length = 32) := hid (by rw [List.length_map, hx])
  have HY : Hid ((y.map u8v).length = 32) := hid (by rw [List.length_map, hy])
  have HX0 := hid hx
  have HY0 := hid hy
  obtain ⟨V, hV⟩ : ∃ V, grownL x y I Z ls = V := ⟨_, rfl⟩
  rw [hV]
  unfold grownL at hV
  have HV := hid hV
  have H32 := hid h32
  have HM := hid hm
  have HC := hid hcl
  clear hV hx hy h32 hm hcl
  go_enter Try.func26, Try.ntmps26
  go_upto_region 1 with (fail)
  generalize hwA : World.alloc (World.alloc (World.alloc w _) _) _ = wA
  have xA : Blk wA w.heap.size (x.map u8v) 36 := by rw [← hwA]; exact ((Blk.mk_alloc rfl rfl).alloc _).alloc _
  have yA : Blk wA (w.heap.size + 1) (y.map u8v) 36 := by rw [← hwA]; exact (Blk.mk_alloc (by simp) rfl).alloc _
  have pA : Blk wA (w.heap.size + 2) [.int .i64 I, .int .i64 Z, .slice a m c] 24 := by rw [← hwA]; exact Blk.mk_alloc (by simp) rfl
  have eA : Ext w wA := by rw [← hwA]; exact ((((Ext.refl w).alloc _).alloc _).alloc _)
  clear hwA
  have c0 : wA.cell? ⟨w.heap.size + 2, 0, none⟩ = some (.int .i64 I) := pA.cell' rfl
  have c1 : wA.cell? ⟨w.heap.size + 2, 1, none⟩ = some (.int .i64 Z) := pA.cell' rfl
  have c2 : wA.cell? ⟨w.heap.size + 2, 2, none⟩ = some (.slice a m c) := pA.cell' rfl
  have XA := hid xA
  have YA := hid yA
  have PA := hid pA
  have EA := hid eA
  clear xA yA eA pA
  have hv := HV.out
  clear HV
  by_cases a1 : Z < 1
  · rw [if_pos (.inl a1)] at hv
    subst hv
    have d1 : decide (Z < 1) = true := decide_eq_true a1
    go_wp2
    go_ret
    exact ⟨rfl, EA.out⟩
  have d1 : decide (Z < 1) = false := decide_eq_false a1
  by_cases a2 : 65536 < Z
  · rw [if_pos (.inr (.inl a2))] at hv
    subst hv
    have d2 : decide (65536 < Z) = true := decide_eq_true a2
    go_wp2
    go_ret
    exact ⟨rfl, EA.out⟩
  have d2 : decide (65536 < Z) = false := decide_eq_false a2
  by_cases a3 : I < 1
  · rw [if_pos (.inr (.inr (.inl a3)))] at hv
    subst hv
    have d3 : decide (I < 1) = true := decide_eq_true a3
    go_wp2
    go_ret
    exact ⟨rfl, EA.out⟩
  have d3 : decide (I < 1) = false := decide_eq_false a3
  by_cases a4 : Z < I
  · rw [if_pos (.inr (.inr (.inr a4)))] at hv
    subst hv
    have d4 : decide (Z < I) = true := decide_eq_true a4
    go_wp2
    go_ret
    exact ⟨rfl, EA.out⟩
  have d4 : decide (Z < I) = false := decide_eq_false a4
  rw [if_neg (by omega)] at hv
  obtain ⟨i, rfl⟩ := Int.eq_ofNat_of_zero_le (show 0 ≤ I by omega)
  obtain ⟨n, rfl⟩ := Int.eq_ofNat_of_zero_le (show 0 ≤ Z by omega)
  rw [Int.toNat_natCast, Int.toNat_natCast, HM.out] at hv
  have d5 : decide (n < i) = false := decide_eq_false (by omega)
  have d6 : decide (65536 < n) = false := decide_eq_false (by omega)
  have d7 : decide (n < 1) = false := decide_eq_false (by omega)
  have d8 : decide (i < 1) = false := decide_eq_false (by omega)
  have hfo := hid (fun w' hc => rgrow_c n i x true ls m c a w' (by omega) (by omega) (by omega) HX0.out H32.out HM.out hmc hc63 hc)
  have XW := XA
  have YW := YA
  have EW := EA
  clear XA YA EA
  go_wp2_with (refine wpl_loadw rfl _ (.tmp 3) rfl rfl XW.out agg_apisum HX.out ?_)
  refine (hfo.out wA (HC.out.ext EW.out)).mono ?_
  intro e wG hpost
  obtain ⟨p, q, rfl, hp, hq, hpq, eG⟩ := hpost
  have HP0 := hid hp
  have HQ0 := hid hq
  have HP1 : Hid ((p.map u8v).length = 32) := hid (by rw [List.length_map, hp])
  have HQ1 : Hid ((q.map u8v).length = 32) := hid (by rw [List.length_map, hq])
  have op := one_u8 p
  have oq := one_u8 q
  have HVV := hid hv
  clear hp hq hv c0 c1 c2 hfo
  by_cases hmn : m = growN i n true
  · have hd : decide (ls.length = growN i n true) = true := decide_eq_true (by rw [HM.out]; exact hmn)
    rw [hd]
    have hpq := hpq (by rw [HM.out]; exact hmn)
    have hv := HVV.out
    rw [if_pos hmn, ← hpq] at hv
    simp only at hv
    have HVV2 := hid hv
    clear hd hmn hpq hv HVV
    go_wp2_with (refine wpl_storew rfl _ (.tmp 7) _ rfl rfl rfl (Blk.alloc (Blk.mk_alloc (vs := List.replicate 32 (.int .u8 0)) rfl rfl) _) agg_apisum (by simp) HP1.out op ?_)
    intro wH bH uH
    have b16 : Blk wH (wG.heap.size + 1) (List.replicate 32 (.int .u8 0)) 36 := Blk.upd (Blk.mk_alloc (by simp) rfl) uH (by omega)
    have eH : Ext wA wH := eG.ext (uH.ext (((Ext.refl wG).alloc _).alloc _) (Nat.le_refl _))
    go_wp2_with (refine wpl_storew rfl _ (.tmp 8) _ rfl rfl rfl b16 agg_apisum (by simp) HQ1.out oq ?_)
    intro wI bI uI
    have hgG : (wA).heap.size ≤ wG.heap.size := eG.size
    have eI : Ext wA wI := uI.ext eH (by omega)
    have XC := hid (XW.out.ext eI)
    have YC := hid (YW.out.ext eI)
    have EC := hid (EW.out.ext eI)
    have B7 := hid (bH.upd uI (by omega))
    have B8 := hid bI
    clear eI eH bH bI uI uH b16 eG hgG
    clear XW YW EW HC
    have hv := HVV2.out
    clear HVV2
    have n1 := neq_arr Try.underlying36 p x HP0.out HX0.out
    have n2 := neq_arr Try.underlying36 q y HQ0.out HY0.out
    cases h1 : (p == x) with
    | false =>
      rw [h1] at n1 hv
      have N1 := hid n1
      have N2 := hid n2
      have hv' : (12 : Int) = V := hv
      subst hv'
      clear n1 n2 h1 hv
      go_wp2_with (first | (refine wpl_loadw rfl 36 (.tmp 7) rfl rfl B7.out agg_apisum HP1.out ?_) | (refine wpl_loadw rfl 36 (.tmp 3) rfl rfl XC.out agg_apisum HX.out ?_) | (refine wpg_loadw rfl 36 (.tmp 7) rfl rfl B7.out agg_apisum HP1.out ?_) | (refine wpg_loadw rfl 36 (.tmp 3) rfl rfl XC.out agg_apisum HX.out ?_) | (refine wpg_loadw rfl 36 (.tmp 8) rfl rfl B8.out agg_apisum HQ1.out ?_) | (refine wpg_loadw rfl 36 (.tmp 4) rfl rfl YC.out agg_apisum HY.out ?_) | (refine wpg_cmp rfl .neq _ _ _ _ rfl rfl rfl guard_sum N1.out ?_) | (refine wpg_cmp rfl .neq _ _ _ _ rfl rfl rfl guard_sum N2.out ?_))
      go_ret
      exact ⟨rfl, EC.out⟩
    | true =>
      cases h2 : (q == y) with
      | false =>
        rw [h1] at n1
        rw [h2] at n2
        rw [h1, h2] at hv
        have N1 := hid n1
        have N2 := hid n2
        have hv' : (12 : Int) = V := hv
        subst hv'
        clear n1 n2 h1 h2 hv
        go_wp2_with (first | (refine wpl_loadw rfl 36 (.tmp 7) rfl rfl B7.out agg_apisum HP1.out ?_) | (refine wpl_loadw rfl 36 (.tmp 3) rfl rfl XC.out agg_apisum HX.out ?_) | (refine wpg_loadw rfl 36 (.tmp 7) rfl rfl B7.out agg_apisum HP1.out ?_) | (refine wpg_loadw rfl 36 (.tmp 3) rfl rfl XC.out agg_apisum HX.out ?_) | (refine wpg_loadw rfl 36 (.tmp 8) rfl rfl B8.out agg_apisum HQ1.out ?_) | (refine wpg_loadw rfl 36 (.tmp 4) rfl rfl YC.out agg_apisum HY.out ?_) | (refine wpg_cmp rfl .neq _ _ _ _ rfl rfl rfl guard_sum N1.out ?_) | (refine wpg_cmp rfl .neq _ _ _ _ rfl rfl rfl guard_sum N2.out ?_))
        go_ret
        exact ⟨rfl, EC.out⟩
      | true =>
        rw [h1] at n1
        rw [h2] at n2
        rw [h1, h2] at hv
        have N1 := hid n1
        have N2 := hid n2
        have hv' : (0 : Int) = V := hv
        subst hv'
        clear n1 n2 h1 h2 hv
        go_wp2_with (first | (refine wpl_loadw rfl 36 (.tmp 7) rfl rfl B7.out agg_apisum HP1.out ?_) | (refine wpl_loadw rfl 36 (.tmp 3) rfl rfl XC.out agg_apisum HX.out ?_) | (refine wpg_loadw rfl 36 (.tmp 7) rfl rfl B7.out agg_apisum HP1.out ?_) | (refine wpg_loadw rfl 36 (.tmp 3) rfl rfl XC.out agg_apisum HX.out ?_) | (refine wpg_loadw rfl 36 (.tmp 8) rfl rfl B8.out agg_apisum HQ1.out ?_) | (refine wpg_loadw rfl 36 (.tmp 4) rfl rfl YC.out agg_apisum HY.out ?_) | (refine wpg_cmp rfl .neq _ _ _ _ rfl rfl rfl guard_sum N1.out ?_) | (refine wpg_cmp rfl .neq _ _ _ _ rfl rfl rfl guard_sum N2.out ?_))
        go_ret
        exact ⟨rfl, EC.out⟩
  · have hd : decide (ls.length = growN i n true) = false := decide_eq_false (by rw [HM.out]; exact hmn)
    rw [hd]
    have hv := HVV.out
    rw [if_neg hmn] at hv
    subst hv
    clear hd hmn hpq HVV
    go_wp2_with (refine wpl_storew rfl _ (.tmp 7) _ rfl rfl rfl (Blk.alloc (Blk.mk_alloc (vs := List.replicate 32 (.int .u8 0)) rfl rfl) _) agg_apisum (by simp) HP1.out op ?_)
    intro wH bH uH
    have b16 : Blk wH (wG.heap.size + 1) (List.replicate 32 (.int .u8 0)) 36 := Blk.upd (Blk.mk_alloc (by simp) rfl) uH (by omega)
    have eH : Ext wA wH := eG.ext (uH.ext (((Ext.refl wG).alloc _).alloc _) (Nat.le_refl _))
    go_wp2_with (refine wpl_storew rfl _ (.tmp 8) _ rfl rfl rfl b16 agg_apisum (by simp) HQ1.out oq ?_)
    intro wI bI uI
    have hgG : (wA).heap.size ≤ wG.heap.size := eG.size
    have eI : Ext wA wI := uI.ext eH (by omega)
    have XC := hid (XW.out.ext eI)
    have YC := hid (YW.out.ext eI)
    have EC := hid (EW.out.ext eI)
    have B7 := hid (bH.upd uI (by omega))
    have B8 := hid bI
    clear eI eH bH bI uI uH b16 eG hgG
    go_wp2
    go_ret
    exact ⟨rfl, EC.out⟩
end
end Go.Proofs.Ytfiigjdiohmkmaa
