/- Contracts and laws that the claim's row leans on (10 texts, joined): lead: the root to which a path leads; conditions: place, size, the rows' lengths. sides: on which side each sum of a path stands; conditions: place and size. RootBy: the root to which a proof leads, of any proof; conditions: the rows' lengths. Worlds in which one block has turned; no condition. The reference's RootBy, of any proof; conditions: the rows' lengths. Proved, of any proof; conditions: the rows' lengths. The law RawProofs, walked; conditions: the rows' lengths. Readings of arguments are opened; no condition. Readings of slices of octets are opened; no condition. Readings of slices of rows of 32 octets, and of a struct of two ints and such a slice, are opened; no condition. -/
import Derived.Test.YtfiigjdiohmkmaaJ2
import Derived.IntWalk
import Derived.ProofKit
import Derived.OpenShut
import Derived.ChangeSlices
import Derived.WideShapes
import Derived.SizedLaws
import Derived.Deep.Strs
namespace Go.Proofs.Ytfiigjdiohmkmaa
section
open Go Go.RowKit

theorem size_apisum : (Try.prog.info? 36).map (·.size) = some 32 := by kernel_rfl

set_option maxRecDepth 100000 in
set_option maxHeartbeats 1000000 in
theorem lead_c : ∀ (n i : Nat) (x : List UInt8) (ls : List (List UInt8)) (m c : Nat) (a : Option Addr) (w : World), i < n → n ≤ 65536 → x.length = 32 → All32 ls → ls.length = m → m = (sidesL i n).length → m ≤ c → Cells w a (rows ls) →
    Calls Try.prog 52 #[.agg (x.map u8v).toArray, .int .i64 (i : Int), .int .i64 (n : Int), .slice a m c] w fun e w' => e = .returned (.agg ((leadS nodeL x (sidesL i n) ls).map u8v).toArray) ∧ Ext w w' := by
  intro n
  induction n using Nat.strongRecOn with
  | ind n ih =>
  intro i x ls m c a w h1 h2 hx h32 hm hml hmc hcl
  have HIH := hid ih
  have HX : Hid ((x.map u8v).length = 32) := hid (by rw [List.length_map, hx])
  have HX0 := hid hx
  have o0 := one_u8 x
  clear ih
  by_cases hn : n = 1
  · subst hn
    have hv : leadS nodeL x (sidesL i 1) ls = x := by rw [sidesL_one _ _ (by omega), leadS_nil]
    rw [hv]
    clear hv hml hm hcl h32 hmc hx
    generalize x.map u8v = xv at *
    go_enter Try.func52, Try.ntmps52
    go_wp2_with (first | (refine wpl_loadw rfl _ _ rfl rfl ((Blk.mk_alloc rfl rfl).alloc _) agg_apisum HX.out ?_) | (refine wpl_storew rfl _ _ _ rfl rfl rfl (Blk.mk_alloc (vs := List.replicate 32 (.int .u8 0)) (by simp) rfl) agg_apisum (by simp) HX.out o0 ?_))
    intro w5 b5 u5
    go_wp2
    refine ret_row rfl rfl b5 agg_apisum HX.out rfl ⟨rfl, u5.ext (((Ext.refl w).alloc _).alloc _) (by simp <;> omega)⟩
  · have hsp := splitN_spec (n := n) (by omega)
    have hc := hid (fun w => split_c n w (by omega) (by omega))
    obtain ⟨V, hV⟩ : ∃ V, leadS nodeL x (sidesL i n) ls = V := ⟨_, rfl⟩
    have hlen : 0 < (sidesL i n).length := by
      by_cases hik : i < splitN n
      · rw [sidesL_left (by omega) hik]; simp
      · rw [sidesL_right (by omega) hik]; simp
    obtain ⟨rest, last, rfl⟩ : ∃ rest last, ls = rest ++ [last] := by
      have hne : ls ≠ [] := by intro h; rw [h] at hm; simp at hm; omega
      exact ⟨ls.dropLast, ls.getLast hne, (List.dropLast_concat_getLast hne).symm⟩
    obtain ⟨r, rfl⟩ : ∃ r, m = r + 1 := ⟨m - 1, by omega⟩
    have hr : rest.length = r := by simpa using hm
    have hlast : (rest ++ [last])[r]? = some last := by rw [← hr]; simp
    have hr32 : All32 rest := fun l hl => h32 l (by simp [hl])
    have hl32 : last.length = 32 := h32 last (by simp)
    obtain ⟨A, hA, hca⟩ : ∃ A, a = some A ∧ CellsAt w (A.add (r * 32)) (last.map u8v) := by
      cases a with
      | none => rcases hcl with h | ⟨_, _, h, _⟩
                · have := rows_length h32; rw [h] at this; simp at this
                · cases h
      | some A => exact ⟨A, rfl, hcl.rowAt h32 hlast⟩
    subst hA
    have hcr : Cells w (some A) (rows rest) := by
      have := hcl.rowsTake h32 r
      rwa [← hr, List.take_left' rfl] at this
    rw [hV]
    have HV := hid hV
    have HR := hid hr
    have HR32 := hid hr32
    have HL : Hid ((last.map u8v).length = 32) := hid (by rw [List.length_map, hl32])
    have HL32 := hid hl32
    have o1 := one_u8 last
    have HCA := hid hca
    have HCR := hid hcr
    have HML := hid hml
    have hrc : r ≤ c := by omega
    have hrb : r < 65536 := by have := sidesL_le i n; omega
    clear hV hr hr32 hl32 hca hcr hml hm h32 hcl hlast hlen hx
    obtain ⟨k, hk⟩ : ∃ k, splitN n = k := ⟨_, rfl⟩
    have HK := hid hk
    rw [hk] at hsp hc
    clear hk
    obtain ⟨k1, k2, k3⟩ := hsp
    go_enter Try.func52, Try.ntmps52
    go_wp2_with (go_at_call 73; refine (hc.out _).mono ?_; rintro e w' ⟨rfl, rfl⟩)
    generalize hwA : World.alloc (World.alloc w _) _ = wA
    have xA : Blk wA w.heap.size (x.map u8v) 36 := by rw [← hwA]; exact (Blk.mk_alloc rfl rfl).alloc _
    have zA : Blk wA (w.heap.size + 1) (List.replicate 32 (.int .u8 0)) 36 := by rw [← hwA]; exact Blk.mk_alloc (by simp) rfl
    have eA : Ext w wA := by rw [← hwA]; exact ((Ext.refl w).alloc _).alloc _
    have hwl : w.heap.size ≤ wA.heap.size := eA.size
    clear hwA
    have XA := hid xA
    have ZA := hid zA
    have hzl : w.heap.size + 1 < wA.heap.size := zA.lt
    have EA := hid eA
    clear xA zA eA
    obtain ⟨C, hC⟩ : ∃ C : World → Prop, C = Cls w wA [w.heap.size] [(w.heap.size + 1, 32, 36)] := ⟨_, rfl⟩
    have hC0 : ∀ w', C w' ↔ Cls w wA [w.heap.size] [(w.heap.size + 1, 32, 36)] w' := fun w' => by rw [hC]
    clear hC
    have HCC := hid hC0
    clear hC0
    have hCx : ∀ w w', C w → Ext w w' → C w' := fun w w' h1 h2 => (HCC.out w').2 (((HCC.out w).1 h1).ext h2)
    have hCA : C wA := (HCC.out _).2 (Cls.one_room EA.out (Kept.one XA.out.lt) ZA.out (by simp))
    have hca : ∀ w1, C w1 → CellsAt w1 (A.add (r * 32)) (last.map u8v) := fun w1 h1 => HCA.out.ext ((HCC.out w1).1 h1).base
    have hwr : IntKind.i64.wrap (r : Int) = (r : Int) := IntWalk.i64_in _ (by omega)
    refine wp_region_held_drew (S := C) (by kernel_rfl) (hCx _ _ hCA (Ext.refl _).drew) (fun hS0 => ?_)
    refine held_take 0 (v := ?tv1) rfl (by kernel_rfl) (by kernel_rfl) (by kernel_rfl) (fun _ _ _ h => h) (.inl ⟨rfl, ?ty1⟩) hS0 ?tr1
    case ty1 => (intro _ _; go_simp; try with_reducible rfl)
    case tr1 =>
    simp only [Act.put, List.setIfInBounds_toArray, List.set_cons_succ, List.set_cons_zero]
    refine held_take 1 (v := ?tv2) rfl (by kernel_rfl) (by kernel_rfl) (by kernel_rfl) (fun _ _ _ h => h) (.inl ⟨rfl, ?ty2⟩) hS0 ?tr2
    case ty2 => (intro _ _; go_simp; try with_reducible rfl)
    case tr2 =>
    simp only [Act.put, List.setIfInBounds_toArray, List.set_cons_succ, List.set_cons_zero]
    refine held_take 2 (v := ?tv3) rfl (by kernel_rfl) (by kernel_rfl) (by kernel_rfl) (fun _ _ _ h => h) (.inl ⟨rfl, ?ty3⟩) hS0 ?tr3
    case ty3 => (intro _ _; go_simp; try with_reducible rfl)
    case tr3 =>
    simp only [Act.put, List.setIfInBounds_toArray, List.set_cons_succ, List.set_cons_zero]
    refine held_take 3 (v := ?tv4) rfl (by kernel_rfl) (by kernel_rfl) (by kernel_rfl) (fun _ _ _ h => h) (.inl ⟨rfl, ?ty4⟩) hS0 ?tr4
    case ty4 => (intro _ _; go_simp; try with_reducible rfl)
    case tr4 =>
    simp only [Act.put, List.setIfInBounds_toArray, List.set_cons_succ, List.set_cons_zero]
    refine held_take 4 (v := _) rfl (by kernel_rfl) (by kernel_rfl) (by kernel_rfl) (fun _ _ _ h => h) (yieldsI_run rfl (fun w1 _ => exec_index (i := r) rfl rfl rfl Try.underlying22 size_apisum (by omega) w1)) hS0 ?_
    simp only [Act.put, List.setIfInBounds_toArray, List.set_cons_succ, List.set_cons_zero]
    refine held_take 5 (v := _) rfl (by kernel_rfl) (by kernel_rfl) (by kernel_rfl) (fun _ _ _ h => h) (yieldsI_run rfl (fun w1 h => exec_load_at rfl rfl (hca w1 h) agg_apisum HL.out)) hS0 ?_
    simp only [Act.put, List.setIfInBounds_toArray, List.set_cons_succ, List.set_cons_zero]
    refine held_take 6 (v := ?tv5) rfl (by kernel_rfl) (by kernel_rfl) (by kernel_rfl) (fun _ _ _ h => h) (.inl ⟨rfl, ?ty5⟩) hS0 ?tr5
    case ty5 => (intro _ _; go_simp; try with_reducible rfl)
    case tr5 =>
    simp only [Act.put, List.setIfInBounds_toArray, List.set_cons_succ, List.set_cons_zero]
    refine held_take 7 (v := ?tv6) rfl (by kernel_rfl) (by kernel_rfl) (by kernel_rfl) (fun _ _ _ h => h) (.inl ⟨rfl, ?ty6⟩) hS0 ?tr6
    case ty6 => (intro _ _; go_simp; try with_reducible rfl)
    case tr6 =>
    simp only [Act.put, List.setIfInBounds_toArray, List.set_cons_succ, List.set_cons_zero]
    refine held_take 8 (v := ?tv7) rfl (by kernel_rfl) (by kernel_rfl) (by kernel_rfl) (fun _ _ _ h => h) (.inl ⟨rfl, ?ty7⟩) hS0 ?tr7
    case ty7 => (intro _ _; go_simp; try with_reducible rfl)
    case tr7 =>
    simp only [Act.put, List.setIfInBounds_toArray, List.set_cons_succ, List.set_cons_zero]
    refine held_take 9 (v := ?tv8) rfl (by kernel_rfl) (by kernel_rfl) (by kernel_rfl) (fun _ _ _ h => h) (.inl ⟨rfl, ?ty8⟩) hS0 ?tr8
    case ty8 => (intro _ _; go_simp; try with_reducible rfl)
    case tr8 =>
    simp only [Act.put, List.setIfInBounds_toArray, List.set_cons_succ, List.set_cons_zero]
    refine held_take 10 (v := _) rfl (by kernel_rfl) (by kernel_rfl) (by kernel_rfl) (fun _ _ _ h => h) (yieldsI_run rfl (fun w1 _ => exec_high (k := r) rfl rfl rfl Try.underlying22 size_apisum (by omega) w1)) hS0 ?_
    simp only [Act.put, List.setIfInBounds_toArray, List.set_cons_succ, List.set_cons_zero]
    clear hwr
    generalize wA.drew = wD at *
    have hwd : wA.heap.size ≤ wD.heap.size := ((HCC.out wD).1 hS0).kept.1
    refine held_one (i := 11) (by kernel_rfl) rfl ?_
    intro Q' hQ
    go_wp2_with fail
    refine hQ _ _ (hCx _ _ hS0 ((Ext.refl _).alloc _)) ?_
    clear hQ Q'
    generalize hwE : wD.alloc _ = wE
    have bE : Blk wE wD.heap.size (List.replicate 32 (.int .u8 0)) 36 := by rw [← hwE]; exact Blk.mk_alloc rfl rfl
    have hCE : C wE := by rw [← hwE]; exact hCx _ _ hS0 ((Ext.refl _).alloc _)
    clear hwE hS0
    have BE := hid bE
    have HCE := hid hCE
    clear bE hCE
    generalize wD.heap.size = gl at *
    try dsimp only
    try simp only [Act.put, List.setIfInBounds_toArray, List.set_cons_succ, List.set_cons_zero]
    refine held_one (i := 12) (by kernel_rfl) rfl ?_
    intro Q' hQ
    go_wp2_with (refine wpl_storew rfl _ _ _ rfl rfl rfl BE.out agg_apisum (by simp) HL.out o1 ?_)
    intro wF bF uF
    have hCF : C wF := (HCC.out wF).2 (((HCC.out wE).1 HCE.out).upd uF hwd hwl)
    go_wp2_with fail
    refine hQ _ _ hCF ?_
    clear hQ Q' uF BE HCE
    try dsimp only
    try simp only [Act.put, List.setIfInBounds_toArray, List.set_cons_succ, List.set_cons_zero]
    refine held_one (i := 13) (by kernel_rfl) rfl ?_
    intro Q' hQ
    go_wp2_with fail
    refine hQ _ _ hCF ?_
    clear hQ Q'
    refine wpAnyH_done (by kernel_rfl) ?_ _
    have XF := hid (((HCC.out wF).1 hCF).blk XA.out (by simp))
    have EF := hid ((HCC.out wF).1 hCF).base
    obtain ⟨vz, hvz, zF⟩ := ((HCC.out wF).1 hCF).at_room (r := w.heap.size + 1) (n := 32) (T := 36) (by simp)
    have ZF := hid zF
    have HVZ := hid hvz
    have BF := hid bF
    have hgl : gl < wF.heap.size := bF.lt
    have hwf : w.heap.size ≤ wF.heap.size := EF.out.size
    clear hCF zF hvz bF HCC hCx hCA hca XA ZA EA hwl
    clear HCA
    by_cases hik : i < k
    · have hlead := HIH.out k k2 i x rest r c (some A)
      have hml := HML.out
      have hv := HV.out
      rw [← HK.out] at hik hlead
      rw [sidesL_left (by omega) hik, List.length_append] at hml
      simp only [List.length_cons, List.length_nil] at hml
      rw [sidesL_left (by omega) hik, leadS_snoc _ _ _ _ _ _ (by rw [HR.out]; omega), if_neg (by decide)] at hv
      have hlead := fun w' hc' => hlead w' hik (by rw [HK.out]; omega) HX0.out HR32.out HR.out (by omega) hrc hc'
      have hy : (leadS nodeL x (sidesL i (splitN n)) rest).length = 32 := leadS_length _ nodeL_length _ _ _ HX0.out
      rw [HK.out] at hlead hik hy hv
      generalize leadS nodeL x (sidesL i k) rest = y at *
      have HLD := hid hlead
      have HY := hid hy
      have hnode := fun w' => node_c y last w' HY.out HL32.out
      rw [hv] at hnode
      have HND := hid hnode
      have HVL : Hid ((V.map u8v).length = 32) := hid (by rw [List.length_map, ← hv, nodeL_length])
      have o2 := one_u8 V
      clear hlead hy hnode hml hv HML HV HK HIH hc
      go_wp2
      obtain ⟨C, hC⟩ : ∃ C : World → Prop, C = Cls w wF [w.heap.size, gl] [(w.heap.size + 1, 32, 36)] := ⟨_, rfl⟩
      have hC0 : ∀ w', C w' ↔ Cls w wF [w.heap.size, gl] [(w.heap.size + 1, 32, 36)] w' := fun w' => by rw [hC]
      clear hC
      have HCC := hid hC0
      clear hC0
      have hCx : ∀ w w', C w → Ext w w' → C w' := fun w w' h1 h2 => (HCC.out w').2 (((HCC.out w).1 h1).ext h2)
      have hCA : C wF := (HCC.out _).2 (Cls.one_room EF.out (Kept.two XF.out.lt BF.out.lt) ZF.out HVZ.out)
      have hs1 : ∀ w1, C w1 → Blk w1 w.heap.size (x.map u8v) 36 := fun w1 h1 => ((HCC.out w1).1 h1).blk XF.out (by simp)
      have hs2 : ∀ w1, C w1 → Blk w1 gl (last.map u8v) 36 := fun w1 h1 => ((HCC.out w1).1 h1).blk BF.out (by simp)
      refine wp_region_held_drew (S := C) (by kernel_rfl) (hCx _ _ hCA (Ext.refl _).drew) (fun hS0 => ?_)
      refine held_take 0 (v := _) rfl (by kernel_rfl) (by kernel_rfl) (by kernel_rfl) (fun _ _ _ h => h) (yieldsI_loadw rfl _ _ rfl rfl hs1 agg_apisum HX.out) hS0 ?_
      simp only [Act.put, List.setIfInBounds_toArray, List.set_cons_succ, List.set_cons_zero]
      refine held_take 1 (v := ?tv9) rfl (by kernel_rfl) (by kernel_rfl) (by kernel_rfl) (fun _ _ _ h => h) (.inl ⟨rfl, ?ty9⟩) hS0 ?tr9
      case ty9 => (intro _ _; go_simp; try with_reducible rfl)
      case tr9 =>
      simp only [Act.put, List.setIfInBounds_toArray, List.set_cons_succ, List.set_cons_zero]
      refine held_take 2 (v := ?tv10) rfl (by kernel_rfl) (by kernel_rfl) (by kernel_rfl) (fun _ _ _ h => h) (.inl ⟨rfl, ?ty10⟩) hS0 ?tr10
      case ty10 => (intro _ _; go_simp; try with_reducible rfl)
      case tr10 =>
      simp only [Act.put, List.setIfInBounds_toArray, List.set_cons_succ, List.set_cons_zero]
      refine held_take 3 (v := ?tv11) rfl (by kernel_rfl) (by kernel_rfl) (by kernel_rfl) (fun _ _ _ h => h) (.inl ⟨rfl, ?ty11⟩) hS0 ?tr11
      case ty11 => (intro _ _; go_simp; try with_reducible rfl)
      case tr11 =>
      simp only [Act.put, List.setIfInBounds_toArray, List.set_cons_succ, List.set_cons_zero]
      refine held_take 5 (v := _) rfl (by kernel_rfl) (by kernel_rfl) (by kernel_rfl) (fun _ _ _ h => h) (yieldsI_loadw rfl _ _ rfl rfl hs2 agg_apisum HL.out) hS0 ?_
      simp only [Act.put, List.setIfInBounds_toArray, List.set_cons_succ, List.set_cons_zero]
      generalize wF.drew = wG at *
      have eG : Ext w wG := ((HCC.out wG).1 hS0).base
      refine held_one (i := 4) (by kernel_rfl) rfl ?_
      intro Q' hQ
      go_wp2_with fail
      refine (HLD.out wG (HCR.out.ext eG)).mono ?_
      rintro e wH ⟨rfl, eH⟩
      have hCH := hCx _ _ hS0 eH
      go_wp2_with fail
      refine hQ _ _ hCH ?_
      clear hQ Q' hS0 eH eG HLD HCR
      try dsimp only
      try simp only [Act.put, List.setIfInBounds_toArray, List.set_cons_succ, List.set_cons_zero]
      refine held_one (i := 6) (by kernel_rfl) rfl ?_
      intro Q' hQ
      go_wp2_with fail
      refine (HND.out wH).mono ?_
      rintro e wI ⟨rfl, eI⟩
      have hCI := hCx _ _ hCH eI
      go_wp2_with fail
      refine hQ _ _ hCI ?_
      clear hQ Q' hCH eI HND hs1 hs2
      obtain ⟨vy, hvy, zI⟩ := ((HCC.out wI).1 hCI).at_room (r := w.heap.size + 1) (n := 32) (T := 36) (by simp)
      have ZI := hid zI
      have HVY := hid hvy
      have HCI := hid hCI
      clear zI hvy hCI
      try dsimp only
      try simp only [Act.put, List.setIfInBounds_toArray, List.set_cons_succ, List.set_cons_zero]
      refine held_one (i := 7) (by kernel_rfl) rfl ?_
      intro Q' hQ
      go_wp2_with (refine wpl_storew rfl _ _ _ rfl rfl rfl ZI.out agg_apisum HVY.out HVL.out o2 ?_)
      intro wJ bJ uJ
      have hCJ : C wJ := (HCC.out wJ).2 (((HCC.out wI).1 HCI.out).store uJ bJ (by simp [HVL.out]) (by omega) (by simp <;> omega))
      go_wp2_with fail
      refine hQ _ _ hCJ ?_
      clear hQ Q'
      have EJ := hid ((HCC.out wJ).1 hCJ).base
      refine wpAnyH_done (by kernel_rfl) ?_ _
      go_wp2
      refine ret_row rfl rfl bJ agg_apisum HVL.out rfl ⟨rfl, EJ.out⟩
    · have hlead := HIH.out (n - k) (by omega) (i - k) x rest r c (some A)
      have hml := HML.out
      have hv := HV.out
      rw [← HK.out] at hik hlead
      rw [sidesL_right (by omega) hik, List.length_append] at hml
      simp only [List.length_cons, List.length_nil] at hml
      rw [sidesL_right (by omega) hik, leadS_snoc _ _ _ _ _ _ (by rw [HR.out]; omega), if_pos rfl] at hv
      have hlead := fun w' hc' => hlead w' (by rw [HK.out]; omega) (by rw [HK.out]; omega) HX0.out HR32.out HR.out (by omega) hrc hc'
      have hy : (leadS nodeL x (sidesL (i - splitN n) (n - splitN n)) rest).length = 32 := leadS_length _ nodeL_length _ _ _ HX0.out
      rw [HK.out] at hlead hik hy hv
      generalize leadS nodeL x (sidesL (i - k) (n - k)) rest = y at *
      have HLD := hid hlead
      have HY := hid hy
      have hnode := fun w' => node_c last y w' HL32.out HY.out
      rw [hv] at hnode
      have HND := hid hnode
      have HVL : Hid ((V.map u8v).length = 32) := hid (by rw [List.length_map, ← hv, nodeL_length])
      have o2 := one_u8 V
      clear hlead hy hnode hml hv HML HV HK HIH hc
      have hd1 : ((i : Int) - (k : Int)) = ((i - k : Nat) : Int) := by omega
      have hd2 : ((n : Int) - (k : Int)) = ((n - k : Nat) : Int) := by omega
      have HD1 := hid hd1
      have HD2 := hid hd2
      clear hd1 hd2
      go_wp2
      have hd1 : IntKind.i64.wrap ((i : Int) - (k : Int)) = ((i - k : Nat) : Int) := by rw [IntWalk.i64_in _ (by omega)]; omega
      have hd2 : IntKind.i64.wrap ((n : Int) - (k : Int)) = ((n - k : Nat) : Int) := by rw [IntWalk.i64_in _ (by omega)]; omega
      obtain ⟨C, hC⟩ : ∃ C : World → Prop, C = Cls w wF [w.heap.size, gl] [(w.heap.size + 1, 32, 36)] := ⟨_, rfl⟩
      have hC0 : ∀ w', C w' ↔ Cls w wF [w.heap.size, gl] [(w.heap.size + 1, 32, 36)] w' := fun w' => by rw [hC]
      clear hC
      have HCC := hid hC0
      clear hC0
      have hCx : ∀ w w', C w → Ext w w' → C w' := fun w w' h1 h2 => (HCC.out w').2 (((HCC.out w).1 h1).ext h2)
      have hCA : C wF := (HCC.out _).2 (Cls.one_room EF.out (Kept.two XF.out.lt BF.out.lt) ZF.out HVZ.out)
      have hs1 : ∀ w1, C w1 → Blk w1 w.heap.size (x.map u8v) 36 := fun w1 h1 => ((HCC.out w1).1 h1).blk XF.out (by simp)
      have hs2 : ∀ w1, C w1 → Blk w1 gl (last.map u8v) 36 := fun w1 h1 => ((HCC.out w1).1 h1).blk BF.out (by simp)
      refine wp_region_held_drew (S := C) (by kernel_rfl) (hCx _ _ hCA (Ext.refl _).drew) (fun hS0 => ?_)
      refine held_take 0 (v := _) rfl (by kernel_rfl) (by kernel_rfl) (by kernel_rfl) (fun _ _ _ h => h) (yieldsI_loadw rfl _ _ rfl rfl hs2 agg_apisum HL.out) hS0 ?_
      simp only [Act.put, List.setIfInBounds_toArray, List.set_cons_succ, List.set_cons_zero]
      refine held_take 1 (v := _) rfl (by kernel_rfl) (by kernel_rfl) (by kernel_rfl) (fun _ _ _ h => h) (yieldsI_loadw rfl _ _ rfl rfl hs1 agg_apisum HX.out) hS0 ?_
      simp only [Act.put, List.setIfInBounds_toArray, List.set_cons_succ, List.set_cons_zero]
      refine held_take 2 (v := ?tv12) rfl (by kernel_rfl) (by kernel_rfl) (by kernel_rfl) (fun _ _ _ h => h) (.inl ⟨rfl, ?ty12⟩) hS0 ?tr12
      case ty12 => (intro _ _; go_simp; try with_reducible rfl)
      case tr12 =>
      simp only [Act.put, List.setIfInBounds_toArray, List.set_cons_succ, List.set_cons_zero]
      refine held_take 3 (v := ?tv13) rfl (by kernel_rfl) (by kernel_rfl) (by kernel_rfl) (fun _ _ _ h => h) (.inl ⟨rfl, ?ty13⟩) hS0 ?tr13
      case ty13 => (intro _ _; go_simp; try with_reducible rfl)
      case tr13 =>
      simp only [Act.put, List.setIfInBounds_toArray, List.set_cons_succ, List.set_cons_zero]
      refine held_take 4 (v := ?tv14) rfl (by kernel_rfl) (by kernel_rfl) (by kernel_rfl) (fun _ _ _ h => h) (.inl ⟨rfl, ?ty14⟩) hS0 ?tr14
      case ty14 => (intro _ _; go_simp; try with_reducible rfl)
      case tr14 =>
      simp only [Act.put, List.setIfInBounds_toArray, List.set_cons_succ, List.set_cons_zero]
      refine held_take 5 (v := ?tv15) rfl (by kernel_rfl) (by kernel_rfl) (by kernel_rfl) (fun _ _ _ h => h) (.inl ⟨rfl, ?ty15⟩) hS0 ?tr15
      case ty15 => (intro _ _; go_simp; try with_reducible rfl)
      case tr15 =>
      simp only [Act.put, List.setIfInBounds_toArray, List.set_cons_succ, List.set_cons_zero]
      refine held_take 6 (v := ?tv16) rfl (by kernel_rfl) (by kernel_rfl) (by kernel_rfl) (fun _ _ _ h => h) (.inl ⟨rfl, ?ty16⟩) hS0 ?tr16
      case ty16 => (intro _ _; go_simp; try with_reducible rfl)
      case tr16 =>
      simp only [Act.put, List.setIfInBounds_toArray, List.set_cons_succ, List.set_cons_zero]
      refine held_take 7 (v := ?tv17) rfl (by kernel_rfl) (by kernel_rfl) (by kernel_rfl) (fun _ _ _ h => h) (.inl ⟨rfl, ?ty17⟩) hS0 ?tr17
      case ty17 => (intro _ _; go_simp; try with_reducible rfl)
      case tr17 =>
      simp only [Act.put, List.setIfInBounds_toArray, List.set_cons_succ, List.set_cons_zero]
      refine held_take 8 (v := ?tv18) rfl (by kernel_rfl) (by kernel_rfl) (by kernel_rfl) (fun _ _ _ h => h) (.inl ⟨rfl, ?ty18⟩) hS0 ?tr18
      case ty18 => (intro _ _; go_simp; try with_reducible rfl)
      case tr18 =>
      simp only [Act.put, List.setIfInBounds_toArray, List.set_cons_succ, List.set_cons_zero]
      clear hd1 hd2
      generalize wF.drew = wG at *
      have eG : Ext w wG := ((HCC.out wG).1 hS0).base
      refine held_one (i := 9) (by kernel_rfl) rfl ?_
      intro Q' hQ
      go_wp2_with fail
      refine (HLD.out wG (HCR.out.ext eG)).mono ?_
      rintro e wH ⟨rfl, eH⟩
      have hCH := hCx _ _ hS0 eH
      go_wp2_with fail
      refine hQ _ _ hCH ?_
      clear hQ Q' hS0 eH eG HLD HCR
      try dsimp only
      try simp only [Act.put, List.setIfInBounds_toArray, List.set_cons_succ, List.set_cons_zero]
      refine held_one (i := 10) (by kernel_rfl) rfl ?_
      intro Q' hQ
      go_wp2_with fail
      refine (HND.out wH).mono ?_
      rintro e wI ⟨rfl, eI⟩
      have hCI := hCx _ _ hCH eI
      go_wp2_with fail
      refine hQ _ _ hCI ?_
      clear hQ Q' hCH eI HND hs1 hs2
      obtain ⟨vy, hvy, zI⟩ := ((HCC.out wI).1 hCI).at_room (r := w.heap.size + 1) (n := 32) (T := 36) (by simp)
      have ZI := hid zI
      have HVY := hid hvy
      have HCI := hid hCI
      clear zI hvy hCI
      try dsimp only
      try simp only [Act.put, List.setIfInBounds_toArray, List.set_cons_succ, List.set_cons_zero]
      refine held_one (i := 11) (by kernel_rfl) rfl ?_
      intro Q' hQ
      go_wp2_with (refine wpl_storew rfl _ _ _ rfl rfl rfl ZI.out agg_apisum HVY.out HVL.out o2 ?_)
      intro wJ bJ uJ
      have hCJ : C wJ := (HCC.out wJ).2 (((HCC.out wI).1 HCI.out).store uJ bJ (by simp [HVL.out]) (by omega) (by simp <;> omega))
      go_wp2_with fail
      refine hQ _ _ hCJ ?_
      clear hQ Q'
      have EJ := hid ((HCC.out wJ).1 hCJ).base
      refine wpAnyH_done (by kernel_rfl) ?_ _
      go_wp2
      refine ret_row rfl rfl bJ agg_apisum HVL.out rfl ⟨rfl, EJ.out⟩
end

section
open Go Go.RowKit

theorem info_bool : (Try.prog.info? 4).map (fun i => (i.zero, i.size, i.bytes)) = some (some (.bool false), 1, 1) := by kernel_rfl
theorem own_sliceT {w : World} {B : Nat} {T : TypeId} {z : Nat} {v : Value} {n : Nat} {xs : List Value} (hz : 0 < z) (h : w.ownsRow B T z v n xs) :
    ∃ a c, v = .slice a n c ∧ n ≤ c ∧ c ≤ maxLen ∧ (a = none → c = 0) ∧ Cells w a xs := by
  obtain ⟨hl, h⟩ := h
  rcases h with ⟨rfl, rfl⟩ | ⟨g, cap, cur, rfl, hb, hg, h1, h2, h3, h4⟩
  · refine ⟨none, 0, rfl, Nat.le_refl _, by unfold maxLen; omega, fun _ => rfl, .inl ?_⟩
    exact List.length_eq_zero_iff.1 (by omega)
  · refine ⟨_, cap, rfl, h1, h2, (fun h => by cases h), .inr ⟨g, 0, rfl, fun i u hu => ?_⟩⟩
    rw [← h4] at hu
    have hi : i < n * z := by
      have := (List.getElem?_eq_some_iff.1 hu).1
      simp only [List.length_take] at this; omega
    rw [List.getElem?_take_of_lt hi] at hu
    rw [Nat.zero_add]
    exact Blk.cell' (vs := cur.toList) (T := T) (by simpa [Blk] using hg) hu

set_option maxRecDepth 100000 in
set_option maxHeartbeats 1000000 in
theorem sides_c : ∀ (n i : Nat) (w : World), i < n → n ≤ 65536 →
    Calls Try.prog 53 #[.int .i64 (i : Int), .int .i64 (n : Int)] w fun e w' => ∃ v, e = .returned v ∧ w'.ownsRow w.heap.size 4 1 v (sidesL i n).length ((sidesL i n).map Value.bool) ∧ Ext w w' := by
  intro n
  induction n using Nat.strongRecOn with
  | ind n ih =>
  intro i w h1 h2
  have HIH := hid ih
  clear ih
  obtain ⟨i0, hi, hz, hsz, hb1⟩ := info_parts info_bool
  by_cases hn : n = 1
  · subst hn
    have hs : sidesL i 1 = [] := sidesL_one _ _ (by omega)
    rw [hs]
    clear hs HIH
    go_enter Try.func53, Try.ntmps53
    go_wp2
    go_ret
    exact ⟨_, rfl, ⟨rfl, .inl ⟨rfl, rfl⟩⟩, Ext.refl w⟩
  · have hsp := splitN_spec (n := n) (by omega)
    have hc := hid (fun w => half_c n w (by omega) (by omega))
    have hle := sidesL_le i n
    have hl := hid (fun h => sidesL_left (i := i) (n := n) (by omega) h)
    have hr := hid (fun h => sidesL_right (i := i) (n := n) (by omega) h)
    obtain ⟨L, hL⟩ : ∃ L, sidesL i n = L := ⟨_, rfl⟩
    rw [hL] at hl hr hle ⊢
    clear hL
    obtain ⟨k, hk⟩ : ∃ k, splitN n = k := ⟨_, rfl⟩
    rw [hk] at hsp hc hl hr
    clear hk
    obtain ⟨k1, k2, k3⟩ := hsp
    by_cases hik : i < k
    · have hrec := hid (fun w => HIH.out k k2 i w hik (by omega))
      have hLs := hl.out hik
      generalize sidesL i k = L' at *
      subst hLs
      rw [List.length_append, List.map_append] at *
      simp only [List.length_cons, List.length_nil, List.map_cons, List.map_nil] at *
      clear hl hr HIH
      go_enter Try.func53, Try.ntmps53
      go_wp2_with (first | (go_at_call 47; refine (hc.out _).mono ?_; rintro e w' ⟨rfl, rfl⟩))
      refine (hrec.out w).mono ?_
      rintro e w1 ⟨v1, rfl, own1, e1⟩
      have zB : Blk (w1.alloc (.cells #[.bool false] 4)) w1.heap.size [.bool false] 4 := Blk.mk_alloc rfl rfl
      have e2 : Ext w1 (w1.alloc (.cells #[.bool false] 4)) := (Ext.refl w1).alloc _
      have O2 := hid (ownsRow_ext own1 e2)
      have E2 := hid (e1.ext e2)
      have N2 := hid (news_blk zB)
      have hb2 : w.heap.size ≤ (w1.alloc (.cells #[.bool false] 4)).heap.size := E2.out.size
      clear own1 e1 zB e2
      go_wp2_with (first | (at_builtin; refine wpList_append_own _ rfl _ _ 75 rfl w.heap.size 4 i0 (.bool false) 1 1 Try.underlying75 hi hz hsz hb1 rfl (by decide) v1 L'.length _ rfl O2.out ⟨w1.heap.size, 0, none⟩ 1 1 [.bool false] rfl rfl N2.out (by simp [Value.oneCell']) (by unfold maxLen; omega) (by omega) hb2 ?_))
      intro v3 w3 own3 g3 _
      have hv3 := own_block_ge O2.out
      have E3 := hid (E2.out.grown g3 (by intro q hq; exact hv3 _ hq))
      have O3 := hid own3
      clear own3 g3 hv3 O2 E2 N2 hb2
      go_wp2
      go_ret
      exact ⟨_, rfl, O3.out, E3.out⟩
    · have hrec := hid (fun w => HIH.out (n - k) (by omega) (i - k) w (by omega) (by omega))
      have hLs := hr.out hik
      have hd1 : ((i : Int) - (k : Int)) = ((i - k : Nat) : Int) := by omega
      have hd2 : ((n : Int) - (k : Int)) = ((n - k : Nat) : Int) := by omega
      have HD1 := hid hd1
      have HD2 := hid hd2
      clear hd1 hd2
      generalize sidesL (i - k) (n - k) = L' at *
      subst hLs
      rw [List.length_append, List.map_append] at *
      simp only [List.length_cons, List.length_nil, List.map_cons, List.map_nil] at *
      clear hl hr HIH
      go_enter Try.func53, Try.ntmps53
      go_wp2_with (first | (go_at_call 47; refine (hc.out _).mono ?_; rintro e w' ⟨rfl, rfl⟩))
      rw [HD1.out, HD2.out]
      refine (hrec.out w).mono ?_
      rintro e w1 ⟨v1, rfl, own1, e1⟩
      have zB : Blk (w1.alloc (.cells #[.bool true] 4)) w1.heap.size [.bool true] 4 := Blk.mk_alloc rfl rfl
      have e2 : Ext w1 (w1.alloc (.cells #[.bool true] 4)) := (Ext.refl w1).alloc _
      have O2 := hid (ownsRow_ext own1 e2)
      have E2 := hid (e1.ext e2)
      have N2 := hid (news_blk zB)
      have hb2 : w.heap.size ≤ (w1.alloc (.cells #[.bool true] 4)).heap.size := E2.out.size
      clear own1 e1 zB e2
      go_wp2_with (first | (at_builtin; refine wpList_append_own _ rfl _ _ 75 rfl w.heap.size 4 i0 (.bool false) 1 1 Try.underlying75 hi hz hsz hb1 rfl (by decide) v1 L'.length _ rfl O2.out ⟨w1.heap.size, 0, none⟩ 1 1 [.bool true] rfl rfl N2.out (by simp [Value.oneCell']) (by unfold maxLen; omega) (by omega) hb2 ?_))
      intro v3 w3 own3 g3 _
      have hv3 := own_block_ge O2.out
      have E3 := hid (E2.out.grown g3 (by intro q hq; exact hv3 _ hq))
      have O3 := hid own3
      clear own3 g3 hv3 O2 E2 N2 hb2
      go_wp2
      go_ret
      exact ⟨_, rfl, O3.out, E3.out⟩
end

section
open Go Go.RowKit

def zero32 : List UInt8 := List.replicate 32 0
theorem zero32_map : zero32.map u8v = List.replicate 32 (.int .u8 0) := by simp [zero32, u8v]
theorem zero32_length : zero32.length = 32 := by simp [zero32]
def rootByL (x : List UInt8) (I Z : Int) (ls : List (List UInt8)) : List UInt8 × Int :=
  if Z < 1 ∨ 65536 < Z then (zero32, 4) else if I < 0 ∨ Z ≤ I then (zero32, 7) else if ls.length = (sidesL I.toNat Z.toNat).length then (leadS nodeL x (sidesL I.toNat Z.toNat) ls, 0) else (zero32, 12)
def sumErr (p : List UInt8 × Int) : Value := .tuple #[.agg (p.1.map u8v).toArray, .int .i64 p.2]

set_option maxRecDepth 100000 in
set_option maxHeartbeats 1000000 in
theorem rootBy_c (x : List UInt8) (I Z : Int) (ls : List (List UInt8)) (m c : Nat) (a : Option Addr) (w : World) (hx : x.length = 32) (h32 : All32 ls) (hm : ls.length = m) (hmc : m ≤ c) (hcl : Cells w a (rows ls)) :
    Calls Try.prog 22 #[.agg (x.map u8v).toArray, .agg #[.int .i64 I, .int .i64 Z, .slice a m c]] w fun e w' => e = .returned (sumErr (rootByL x I Z ls)) ∧ Ext w w' := by
  have HX : Hid ((x.map u8v).length = 32) := hid (by rw [List.length_map, hx])
  have HX0 := hid hx
  obtain ⟨V, hV⟩ : ∃ V, rootByL x I Z ls = V := ⟨_, rfl⟩
  rw [hV]
  have HV := hid hV
  have H32 := hid h32
  have HM := hid hm
  have HC := hid hcl
  clear hV hx h32 hm hcl
  go_enter Try.func22, Try.ntmps22
  go_upto_region 1 with (fail)
  generalize hwA : World.alloc (World.alloc (World.alloc w _) _) _ = wA
  have xA : Blk wA w.heap.size (x.map u8v) 36 := by rw [← hwA]; exact ((Blk.mk_alloc rfl rfl).alloc _).alloc _
  have pA : Blk wA (w.heap.size + 1) [.int .i64 I, .int .i64 Z, .slice a m c] 24 := by rw [← hwA]; exact (Blk.mk_alloc (by simp) rfl).alloc _
  have zA : Blk wA (w.heap.size + 2) (List.replicate 32 (.int .u8 0)) 36 := by rw [← hwA]; exact Blk.mk_alloc (by simp) rfl
  have eA : Ext w wA := by rw [← hwA]; exact ((((Ext.refl w).alloc _).alloc _).alloc _)
  have hwl : w.heap.size ≤ wA.heap.size := eA.size
  have hzl : w.heap.size + 2 < wA.heap.size := zA.lt
  clear hwA
  have c0 : wA.cell? ⟨w.heap.size + 1, 0, none⟩ = some (.int .i64 I) := pA.cell' rfl
  have c1 : wA.cell? ⟨w.heap.size + 1, 1, none⟩ = some (.int .i64 Z) := pA.cell' rfl
  have c2 : wA.cell? ⟨w.heap.size + 1, 2, none⟩ = some (.slice a m c) := pA.cell' rfl
  have XA := hid xA
  have PA := hid pA
  have ZA := hid zA
  have EA := hid eA
  clear xA zA eA pA
  have hv := HV.out
  unfold rootByL at hv
  clear HV
  by_cases a1 : Z < 1
  · rw [if_pos (.inl a1)] at hv
    have d1 : decide (Z < 1) = true := decide_eq_true a1
    go_wp2_with (refine wpl_storew rfl _ _ _ rfl rfl rfl ZA.out agg_apisum (by simp) (xs := List.replicate 32 (.int .u8 0)) (by simp) (one_zeros 32) ?_)
    intro w4 b4 u4
    go_wp2
    refine ret_row2 rfl rfl b4 agg_apisum (by simp) rfl ⟨by rw [← hv]; unfold sumErr; rw [zero32_map]; rfl, u4.ext EA.out (by omega)⟩
  by_cases a2 : 65536 < Z
  · rw [if_pos (.inr a2)] at hv
    have d1 : decide (Z < 1) = false := decide_eq_false a1
    have d2 : decide (65536 < Z) = true := decide_eq_true a2
    go_wp2_with (refine wpl_storew rfl _ _ _ rfl rfl rfl ZA.out agg_apisum (by simp) (xs := List.replicate 32 (.int .u8 0)) (by simp) (one_zeros 32) ?_)
    intro w4 b4 u4
    go_wp2
    refine ret_row2 rfl rfl b4 agg_apisum (by simp) rfl ⟨by rw [← hv]; unfold sumErr; rw [zero32_map]; rfl, u4.ext EA.out (by omega)⟩
  rw [if_neg (by omega)] at hv
  have d1 : decide (Z < 1) = false := decide_eq_false a1
  have d2 : decide (65536 < Z) = false := decide_eq_false a2
  by_cases b1 : I < 0
  · rw [if_pos (.inl b1)] at hv
    have d3 : decide (I < 0) = true := decide_eq_true b1
    go_wp2_with (refine wpl_storew rfl _ _ _ rfl rfl rfl ZA.out agg_apisum (by simp) (xs := List.replicate 32 (.int .u8 0)) (by simp) (one_zeros 32) ?_)
    intro w4 b4 u4
    go_wp2
    refine ret_row2 rfl rfl b4 agg_apisum (by simp) rfl ⟨by rw [← hv]; unfold sumErr; rw [zero32_map]; rfl, u4.ext EA.out (by omega)⟩
  have d3 : decide (I < 0) = false := decide_eq_false b1
  by_cases b2 : Z ≤ I
  · rw [if_pos (.inr b2)] at hv
    have d4 : decide (Z ≤ I) = true := decide_eq_true b2
    go_wp2_with (refine wpl_storew rfl _ _ _ rfl rfl rfl ZA.out agg_apisum (by simp) (xs := List.replicate 32 (.int .u8 0)) (by simp) (one_zeros 32) ?_)
    intro w4 b4 u4
    go_wp2
    refine ret_row2 rfl rfl b4 agg_apisum (by simp) rfl ⟨by rw [← hv]; unfold sumErr; rw [zero32_map]; rfl, u4.ext EA.out (by omega)⟩
  have d4 : decide (Z ≤ I) = false := decide_eq_false b2
  rw [if_neg (by omega)] at hv
  obtain ⟨i, rfl⟩ := Int.eq_ofNat_of_zero_le (show 0 ≤ I by omega)
  obtain ⟨n, rfl⟩ := Int.eq_ofNat_of_zero_le (show 0 ≤ Z by omega)
  rw [Int.toNat_natCast, Int.toNat_natCast, HM.out] at hv
  have hst := hid (fun w => steps_c i n w (by omega) (by omega))
  have hld := hid (fun h w' hc => lead_c n i x ls m c a w' (by omega) (by omega) HX0.out H32.out HM.out h hmc hc)
  have hyl := hid (leadS_length nodeL nodeL_length x (sidesL i n) ls HX0.out)
  have HNle := sidesL_le i n
  generalize leadS nodeL x (sidesL i n) ls = y at *
  generalize (sidesL i n).length = N at *
  have HV2 := hid hv
  clear hv
  have d5 : decide (n ≤ i) = false := decide_eq_false (by omega)
  have d6 : decide (65536 < n) = false := decide_eq_false (by omega)
  have d7 : decide (n < 1) = false := decide_eq_false (by omega)
  go_wp2
  obtain ⟨C, hC⟩ : ∃ C : World → Prop, C = Cls w wA [w.heap.size, w.heap.size + 1] [(w.heap.size + 2, 32, 36)] := ⟨_, rfl⟩
  have hC0 : ∀ w', C w' ↔ Cls w wA [w.heap.size, w.heap.size + 1] [(w.heap.size + 2, 32, 36)] w' := fun w' => by rw [hC]
  clear hC
  have HCC := hid hC0
  clear hC0
  have hCx : ∀ w w', C w → Ext w w' → C w' := fun w w' h1 h2 => (HCC.out w').2 (((HCC.out w).1 h1).ext h2)
  have hCA : C wA := (HCC.out _).2 (Cls.one_room EA.out (Kept.two XA.out.lt PA.out.lt) ZA.out (by simp))
  have e0 : ∀ w1, C w1 → w1.cell? ⟨w.heap.size + 1, 0, none⟩ = some (.int .i64 (i : Int)) := fun w1 h1 => (((HCC.out w1).1 h1).blk PA.out (by simp)).cell' rfl
  have e1 : ∀ w1, C w1 → w1.cell? ⟨w.heap.size + 1, 1, none⟩ = some (.int .i64 (n : Int)) := fun w1 h1 => (((HCC.out w1).1 h1).blk PA.out (by simp)).cell' rfl
  have e2 : ∀ w1, C w1 → w1.cell? ⟨w.heap.size + 1, 2, none⟩ = some (.slice a m c) := fun w1 h1 => (((HCC.out w1).1 h1).blk PA.out (by simp)).cell' rfl
  refine wp_region_held_drew (S := C) (by kernel_rfl) (hCx _ _ hCA (Ext.refl _).drew) (fun hS0 => ?_)
  clear c0 c1 c2
  refine held_take 0 (v := ?tv1) rfl (by kernel_rfl) (by kernel_rfl) (by kernel_rfl) (fun _ _ _ h => h) (.inl ⟨rfl, ?ty1⟩) hS0 ?tr1
  case ty1 => (intro _ _; go_simp; try with_reducible rfl)
  case tr1 =>
  simp only [Act.put, List.setIfInBounds_toArray, List.set_cons_succ, List.set_cons_zero]
  refine held_take 1 (v := ?tv2) rfl (by kernel_rfl) (by kernel_rfl) (by kernel_rfl) (fun _ _ _ h => h) (.inl ⟨rfl, ?ty2⟩) hS0 ?tr2
  case ty2 => (intro wq hwq; have hcq := (e2) wq hwq; go_simp; try with_reducible rfl)
  case tr2 =>
  simp only [Act.put, List.setIfInBounds_toArray, List.set_cons_succ, List.set_cons_zero]
  refine held_take 2 (v := ?tv3) rfl (by kernel_rfl) (by kernel_rfl) (by kernel_rfl) (fun _ _ _ h => h) (.inl ⟨rfl, ?ty3⟩) hS0 ?tr3
  case ty3 => (intro _ _; go_simp; try with_reducible rfl)
  case tr3 =>
  simp only [Act.put, List.setIfInBounds_toArray, List.set_cons_succ, List.set_cons_zero]
  refine held_take 3 (v := ?tv4) rfl (by kernel_rfl) (by kernel_rfl) (by kernel_rfl) (fun _ _ _ h => h) (.inl ⟨rfl, ?ty4⟩) hS0 ?tr4
  case ty4 => (intro _ _; go_simp; try with_reducible rfl)
  case tr4 =>
  simp only [Act.put, List.setIfInBounds_toArray, List.set_cons_succ, List.set_cons_zero]
  refine held_take 4 (v := ?tv5) rfl (by kernel_rfl) (by kernel_rfl) (by kernel_rfl) (fun _ _ _ h => h) (.inl ⟨rfl, ?ty5⟩) hS0 ?tr5
  case ty5 => (intro wq hwq; have hcq := (e0) wq hwq; go_simp; try with_reducible rfl)
  case tr5 =>
  simp only [Act.put, List.setIfInBounds_toArray, List.set_cons_succ, List.set_cons_zero]
  refine held_take 5 (v := ?tv6) rfl (by kernel_rfl) (by kernel_rfl) (by kernel_rfl) (fun _ _ _ h => h) (.inl ⟨rfl, ?ty6⟩) hS0 ?tr6
  case ty6 => (intro _ _; go_simp; try with_reducible rfl)
  case tr6 =>
  simp only [Act.put, List.setIfInBounds_toArray, List.set_cons_succ, List.set_cons_zero]
  refine held_take 6 (v := ?tv7) rfl (by kernel_rfl) (by kernel_rfl) (by kernel_rfl) (fun _ _ _ h => h) (.inl ⟨rfl, ?ty7⟩) hS0 ?tr7
  case ty7 => (intro wq hwq; have hcq := (e1) wq hwq; go_simp; try with_reducible rfl)
  case tr7 =>
  simp only [Act.put, List.setIfInBounds_toArray, List.set_cons_succ, List.set_cons_zero]
  generalize wA.drew = wD at *
  refine held_one (i := 7) (by kernel_rfl) rfl ?_
  intro Q' hQ
  go_wp2_with fail
  refine (hst.out wD).mono ?_
  rintro e w' ⟨rfl, rfl⟩
  go_wp2_with fail
  refine hQ _ _ hS0 ?_
  clear hQ Q'
  by_cases hmn : m = N
  · have hv := HV2.out
    rw [if_pos hmn] at hv
    have hlead := hid (hld.out hmn)
    have g1 : ((m : Int) != (N : Int)) = false := by simp [hmn]
    have g2 : (m != N) = false := by simp [hmn]
    have HV := hid hv
    clear hv HV2 hld hst hmn
    try dsimp only
    try simp only [Act.put, List.setIfInBounds_toArray, List.set_cons_succ, List.set_cons_zero]
    refine held_take 8 (v := ?tv8) rfl (by kernel_rfl) (by kernel_rfl) (by kernel_rfl) (fun _ _ _ h => h) (.inl ⟨rfl, ?ty8⟩) hS0 ?tr8
    case ty8 => (intro _ _; go_simp; try with_reducible rfl)
    case tr8 =>
    simp only [Act.put, List.setIfInBounds_toArray, List.set_cons_succ, List.set_cons_zero]
    refine held_one (i := 9) (by kernel_rfl) rfl ?_
    intro Q' hQ
    go_wp2_with fail
    refine hQ _ _ hS0 ?_
    clear hQ Q'
    refine wpAnyH_done (by kernel_rfl) ?_ _
    have XD := hid (((HCC.out wD).1 hS0).blk XA.out (by simp))
    have ED := hid ((HCC.out wD).1 hS0).base
    obtain ⟨vz, hvz, zD⟩ := ((HCC.out wD).1 hS0).at_room (r := w.heap.size + 2) (n := 32) (T := 36) (by simp)
    have ZD := hid zD
    have HVZ := hid hvz
    have f0 := e0 wD hS0
    have f1 := e1 wD hS0
    have f2 := e2 wD hS0
    clear zD hvz e0 e1 e2 hCx hCA
    go_wp2_with (first | (refine wpl_loadw rfl 36 _ rfl rfl XD.out agg_apisum HX.out ?_))
    refine (hlead.out wD (HC.out.ext ED.out)).mono ?_
    rintro e wE ⟨rfl, eE⟩
    have ZE := hid (ZD.out.ext eE)
    have EE := hid (ED.out.ext eE)
    have hyv : Hid ((y.map u8v).length = 32) := hid (by rw [List.length_map, hyl.out])
    have o2 := one_u8 y
    clear eE hS0 f0 f1 f2 hlead
    go_wp2_with (first | (refine wpl_storew rfl _ _ _ rfl rfl rfl ZE.out agg_apisum HVZ.out hyv.out o2 ?_))
    intro w4 b4 u4
    go_wp2
    refine ret_row2 rfl rfl b4 agg_apisum hyv.out rfl ⟨by rw [← HV.out]; rfl, u4.ext EE.out (by omega)⟩
  · have hv := HV2.out
    rw [if_neg hmn] at hv
    have g1 : ((m : Int) != (N : Int)) = true := by simp; omega
    have g2 : (m != N) = true := by simp [hmn]
    have HV := hid hv
    clear hv HV2 hld hst hmn
    try dsimp only
    try simp only [Act.put, List.setIfInBounds_toArray, List.set_cons_succ, List.set_cons_zero]
    refine held_take 8 (v := ?tv9) rfl (by kernel_rfl) (by kernel_rfl) (by kernel_rfl) (fun _ _ _ h => h) (.inl ⟨rfl, ?ty9⟩) hS0 ?tr9
    case ty9 => (intro _ _; go_simp; try with_reducible rfl)
    case tr9 =>
    simp only [Act.put, List.setIfInBounds_toArray, List.set_cons_succ, List.set_cons_zero]
    refine held_one (i := 9) (by kernel_rfl) rfl ?_
    intro Q' hQ
    go_wp2_with fail
    refine hQ _ _ hS0 ?_
    clear hQ Q'
    refine wpAnyH_done (by kernel_rfl) ?_ _
    have ED := hid ((HCC.out wD).1 hS0).base
    obtain ⟨vz, hvz, zD⟩ := ((HCC.out wD).1 hS0).at_room (r := w.heap.size + 2) (n := 32) (T := 36) (by simp)
    have ZD := hid zD
    have HVZ := hid hvz
    clear zD hvz e0 e1 e2 hCx hCA hS0
    go_wp2_with (refine wpl_storew rfl _ _ _ rfl rfl rfl ZD.out agg_apisum HVZ.out (xs := List.replicate 32 (.int .u8 0)) (by simp) (one_zeros 32) ?_)
    intro w4 b4 u4
    go_wp2
    refine ret_row2 rfl rfl b4 agg_apisum (by simp) rfl ⟨by rw [← HV.out]; unfold sumErr; rw [zero32_map]; rfl, u4.ext ED.out (by omega)⟩
end

section
open Go Go.RowKit

theorem gby_self (w : World) (r : Option Nat) : w.grownBy w r := ⟨rfl, rfl, rfl, Nat.le_refl _, fun _ _ _ => rfl⟩
theorem gby_ext {w w1 w2 : World} {r : Option Nat} (h : w.grownBy w1 r) (e : Ext w1 w2) : w.grownBy w2 r :=
  ⟨e.os.trans h.os, e.tape.trans h.tape, e.output.trans h.output, Nat.le_trans h.size e.size, fun k hk hn => (e.block k (Nat.lt_of_lt_of_le hk h.size)).trans (h.block k hk hn)⟩
theorem gby_upd {w w1 w2 : World} {g : Nat} (h : w.grownBy w1 (some g)) (u : Upd w1 g w2) : w.grownBy w2 (some g) :=
  ⟨u.os.trans h.os, u.tape.trans h.tape, u.output.trans h.output, by rw [u.size]; exact h.size, fun k hk hn => (u.block k (fun e => hn (by rw [e]))).trans (h.block k hk hn)⟩
theorem gby_new {w w1 w2 : World} {g : Nat} {r : Option Nat} (h : w.grownBy w1 r) (u : Upd w1 g w2) (hg : w.heap.size ≤ g) : w.grownBy w2 r :=
  ⟨u.os.trans h.os, u.tape.trans h.tape, u.output.trans h.output, by rw [u.size]; exact h.size, fun k hk hn => (u.block k (by omega)).trans (h.block k hk hn)⟩
/-- the cells behind a slice's address, and none of them in block g -/
def CellsOff (w : World) (g : Nat) (a : Option Addr) (xs : List Value) : Prop := xs = [] ∨ ∃ b off, a = some ⟨b, off, none⟩ ∧ b ≠ g ∧ ∀ i u, xs[i]? = some u → w.cell? ⟨b, off + i, none⟩ = some u
theorem CellsOff.cells {w : World} {g : Nat} {a : Option Addr} {xs : List Value} (h : CellsOff w g a xs) : Cells w a xs := by
  rcases h with h | ⟨b, off, ha, _, h⟩
  · exact .inl h
  · exact .inr ⟨b, off, ha, h⟩
theorem CellsOff.grown {w w' : World} {g : Nat} {a : Option Addr} {xs : List Value} (h : CellsOff w g a xs) (k : w.grownBy w' (some g)) : CellsOff w' g a xs := by
  rcases h with h | ⟨b, off, ha, hb, h⟩
  · exact .inl h
  · exact .inr ⟨b, off, ha, hb, fun i u hu => k.cell (h i u hu) (by simpa using hb)⟩
theorem CellsOff.ext {w w' : World} {g : Nat} {a : Option Addr} {xs : List Value} (h : CellsOff w g a xs) (k : Ext w w') : CellsOff w' g a xs := by
  rcases h with h | ⟨b, off, ha, hb, h⟩
  · exact .inl h
  · refine .inr ⟨b, off, ha, hb, fun i u hu => ?_⟩
    have h1 := h i u hu
    have hb := block_lt_of_cell h1
    have := k.cell (p := ⟨b, off + i, none⟩) hb
    rw [this]; exact h1
theorem own_off {w : World} {B g : Nat} {T : TypeId} {z : Nat} {v : Value} {n : Nat} {xs : List Value} (hz : 0 < z) (h : w.ownsRow B T z v n xs) (hg : g < B) :
    ∃ a c, v = .slice a n c ∧ n ≤ c ∧ c ≤ maxLen ∧ (a = none → c = 0) ∧ CellsOff w g a xs := by
  obtain ⟨hl, h⟩ := h
  rcases h with ⟨rfl, rfl⟩ | ⟨gr, cap, cur, rfl, hb, hgr, h1, h2, h3, h4⟩
  · refine ⟨none, 0, rfl, Nat.le_refl _, by unfold maxLen; omega, fun _ => rfl, .inl ?_⟩
    exact List.length_eq_zero_iff.1 (by omega)
  · refine ⟨_, cap, rfl, h1, h2, (fun h => by cases h), .inr ⟨gr, 0, rfl, by omega, fun i u hu => ?_⟩⟩
    rw [← h4] at hu
    have hi : i < n * z := by
      have := (List.getElem?_eq_some_iff.1 hu).1
      simp only [List.length_take] at this; omega
    rw [List.getElem?_take_of_lt hi] at hu
    rw [Nat.zero_add]
    exact Blk.cell' (vs := cur.toList) (T := T) (by simpa [Blk] using hgr) hu
theorem CellsOff.at {w : World} {g : Nat} {a : Option Addr} {xs : List Value} (h : CellsOff w g a xs) {i : Nat} {u : Value} (hu : xs[i]? = some u) :
    ∃ b off, a = some ⟨b, off, none⟩ ∧ w.cell? ⟨b, off + i, none⟩ = some u := by
  rcases h with rfl | ⟨b, off, ha, _, h⟩
  · simp at hu
  · exact ⟨b, off, ha, h i u hu⟩
theorem CellsOff.of {w w' : World} {g : Nat} {a : Option Addr} {xs : List Value} (h : Cells w a xs) (hg : w.heap.size ≤ g) (e : Ext w w') : CellsOff w' g a xs := by
  rcases h.ext e with h' | ⟨b, off, ha, h'⟩
  · exact .inl h'
  · rcases h with h | ⟨b2, off2, ha2, h2⟩
    · exact .inl h
    · rw [ha] at ha2
      cases ha2
      by_cases h0 : xs = []
      · exact .inl h0
      · refine .inr ⟨b, off, ha, ?_, h'⟩
        obtain ⟨u, hu⟩ : ∃ u, xs[0]? = some u := ⟨xs[0]'(List.length_pos_iff.2 h0), by simp⟩
        have := block_lt_of_cell (h2 0 u hu)
        simp only at this
        omega

section
variable {P : Program} {ops : Array Oper} {rest : List Oper} {o : Oper} {a : Act} {C : World → Prop}
theorem yieldsE_run {v : Value} (hr : ∀ w, C w → (execOp a.eval o).run P w = .ok (.value v) w) : yieldsE P C o a v := by
  intro w hw
  rw [hr w hw]
  first | exact ⟨rfl, rfl⟩ | exact ⟨rfl, hw⟩
end
end

section
open Go Go.RowKit

set_option maxRecDepth 100000 in
set_option maxHeartbeats 1000000 in
theorem rrootBy_c (x : List UInt8) (I Z : Int) (ls : List (List UInt8)) (m c : Nat) (a : Option Addr) (w : World) (hx : x.length = 32) (h32 : All32 ls) (hm : ls.length = m) (hmc : m ≤ c) (hcl : Cells w a (rows ls)) :
    Calls Try.prog 23 #[.agg (x.map u8v).toArray, .agg #[.int .i64 I, .int .i64 Z, .slice a m c]] w fun e w' => e = .returned (sumErr (rootByL x I Z ls)) ∧ Ext w w' := by
  have HX : Hid ((x.map u8v).length = 32) := hid (by rw [List.length_map, hx])
  have HX0 := hid hx
  obtain ⟨V, hV⟩ : ∃ V, rootByL x I Z ls = V := ⟨_, rfl⟩
  rw [hV]
  have HV := hid hV
  have H32 := hid h32
  have HM := hid hm
  have HC := hid hcl
  clear hV hx h32 hm hcl
  go_enter Try.func23, Try.ntmps23
  go_upto_region 1 with (fail)
  generalize hwA : World.alloc (World.alloc (World.alloc w _) _) _ = wA
  have xA : Blk wA w.heap.size (x.map u8v) 36 := by rw [← hwA]; exact ((Blk.mk_alloc rfl rfl).alloc _).alloc _
  have pA : Blk wA (w.heap.size + 1) [.int .i64 I, .int .i64 Z, .slice a m c] 24 := by rw [← hwA]; exact (Blk.mk_alloc (by simp) rfl).alloc _
  have zA : Blk wA (w.heap.size + 2) (List.replicate 32 (.int .u8 0)) 36 := by rw [← hwA]; exact Blk.mk_alloc (by simp) rfl
  have eA : Ext w wA := by rw [← hwA]; exact ((((Ext.refl w).alloc _).alloc _).alloc _)
  have hwl : w.heap.size ≤ wA.heap.size := eA.size
  have hzl : w.heap.size + 2 < wA.heap.size := zA.lt
  clear hwA
  have c0 : wA.cell? ⟨w.heap.size + 1, 0, none⟩ = some (.int .i64 I) := pA.cell' rfl
  have c1 : wA.cell? ⟨w.heap.size + 1, 1, none⟩ = some (.int .i64 Z) := pA.cell' rfl
  have c2 : wA.cell? ⟨w.heap.size + 1, 2, none⟩ = some (.slice a m c) := pA.cell' rfl
  have XA := hid xA
  have PA := hid pA
  have ZA := hid zA
  have EA := hid eA
  clear xA zA eA pA
  have hv := HV.out
  unfold rootByL at hv
  clear HV
  by_cases a1 : Z < 1
  · rw [if_pos (.inl a1)] at hv
    have d1 : decide (Z < 1) = true := decide_eq_true a1
    go_wp2_with (refine wpl_storew rfl _ _ _ rfl rfl rfl ZA.out agg_apisum (by simp) (xs := List.replicate 32 (.int .u8 0)) (by simp) (one_zeros 32) ?_)
    intro w4 b4 u4
    go_wp2
    refine ret_row2 rfl rfl b4 agg_apisum (by simp) rfl ⟨by rw [← hv]; unfold sumErr; rw [zero32_map]; rfl, u4.ext EA.out (by omega)⟩
  by_cases a2 : 65536 < Z
  · rw [if_pos (.inr a2)] at hv
    have d1 : decide (Z < 1) = false := decide_eq_false a1
    have d2 : decide (65536 < Z) = true := decide_eq_true a2
    go_wp2_with (refine wpl_storew rfl _ _ _ rfl rfl rfl ZA.out agg_apisum (by simp) (xs := List.replicate 32 (.int .u8 0)) (by simp) (one_zeros 32) ?_)
    intro w4 b4 u4
    go_wp2
    refine ret_row2 rfl rfl b4 agg_apisum (by simp) rfl ⟨by rw [← hv]; unfold sumErr; rw [zero32_map]; rfl, u4.ext EA.out (by omega)⟩
  rw [if_neg (by omega)] at hv
  have d1 : decide (Z < 1) = false := decide_eq_false a1
  have d2 : decide (65536 < Z) = false := decide_eq_false a2
  by_cases b1 : I < 0
  · rw [if_pos (.inl b1)] at hv
    have d3 : decide (I < 0) = true := decide_eq_true b1
    go_wp2_with (refine wpl_storew rfl _ _ _ rfl rfl rfl ZA.out agg_apisum (by simp) (xs := List.replicate 32 (.int .u8 0)) (by simp) (one_zeros 32) ?_)
    intro w4 b4 u4
    go_wp2
    refine ret_row2 rfl rfl b4 agg_apisum (by simp) rfl ⟨by rw [← hv]; unfold sumErr; rw [zero32_map]; rfl, u4.ext EA.out (by omega)⟩
  have d3 : decide (I < 0) = false := decide_eq_false b1
  by_cases b2 : Z ≤ I
  · rw [if_pos (.inr b2)] at hv
    have d4 : decide (Z ≤ I) = true := decide_eq_true b2
    go_wp2_with (refine wpl_storew rfl _ _ _ rfl rfl rfl ZA.out agg_apisum (by simp) (xs := List.replicate 32 (.int .u8 0)) (by simp) (one_zeros 32) ?_)
    intro w4 b4 u4
    go_wp2
    refine ret_row2 rfl rfl b4 agg_apisum (by simp) rfl ⟨by rw [← hv]; unfold sumErr; rw [zero32_map]; rfl, u4.ext EA.out (by omega)⟩
  have d4 : decide (Z ≤ I) = false := decide_eq_false b2
  rw [if_neg (by omega)] at hv
  obtain ⟨i, rfl⟩ := Int.eq_ofNat_of_zero_le (show 0 ≤ I by omega)
  obtain ⟨n, rfl⟩ := Int.eq_ofNat_of_zero_le (show 0 ≤ Z by omega)
  rw [Int.toNat_natCast, Int.toNat_natCast, HM.out] at hv
  have hsd := hid (fun w => sides_c n i w (by omega) (by omega))
  have hls := hid (fun (h : m = (sidesL i n).length) => (h : m = (sidesL i n).length))
  have HNle := sidesL_le i n
  generalize sidesL i n = L at *
  obtain ⟨N, hN⟩ : ∃ N, L.length = N := ⟨_, rfl⟩
  rw [hN] at hv hsd HNle hls
  have HN := hid hN
  clear hN
  have HV2 := hid hv
  clear hv hls
  have d5 : decide (n ≤ i) = false := decide_eq_false (by omega)
  have d6 : decide (65536 < n) = false := decide_eq_false (by omega)
  have d7 : decide (n < 1) = false := decide_eq_false (by omega)
  go_wp2_with fail
  refine (hsd.out wA).mono ?_
  rintro e wB ⟨vB, rfl, ownB, eB⟩
  obtain ⟨ab, cb, rfl, hnc, hcm, hab, hcb⟩ := own_off (g := w.heap.size) (by omega) ownB (by omega)
  have CB := hid hcb
  have EB := hid (EA.out.ext eB)
  have XB := hid (XA.out.ext eB)
  have PB := hid (PA.out.ext eB)
  have ZB := hid (ZA.out.ext eB)
  have c0 : wB.cell? ⟨w.heap.size + 1, 0, none⟩ = some (.int .i64 (i : Int)) := PB.out.cell' rfl
  have c1 : wB.cell? ⟨w.heap.size + 1, 1, none⟩ = some (.int .i64 (n : Int)) := PB.out.cell' rfl
  have c2 : wB.cell? ⟨w.heap.size + 1, 2, none⟩ = some (.slice a m c) := PB.out.cell' rfl
  have hAB := eB.size
  clear ownB eB hcb XA PA ZA EA hsd
  by_cases hmn : m = N
  · have hv := HV2.out
    rw [if_pos hmn] at hv
    subst hmn
    have g1 : ((m : Int) != (m : Int)) = false := by simp
    have g2 : (m != m) = false := by simp
    have HV := hid hv
    clear hv HV2
    go_wp2
    go_loopw [45] (fun t wr => ∃ k : Nat, k ≤ m ∧ t = .int .i64 (k : Int) ∧ wB.grownBy wr (some w.heap.size) ∧ Blk wr w.heap.size ((leadS nodeL x (L.take k) (ls.take k)).map u8v) 36) (fun t _ => m - (intOf t).toNat)
    case atStart => exact ⟨0, by omega, rfl, gby_self _ _, by simpa [leadS] using XB.out⟩
    case round =>
      obtain ⟨k, hk, rfl, hg, hb⟩ := hrel
      have HG := hid hg
      have HB := hid hb
      clear hg hb
      by_cases hlt : k < m
      · obtain ⟨bb, hbb⟩ : ∃ bb, L[k]? = some bb := ⟨L[k]'(by rw [HN.out]; exact hlt), by simp⟩
        obtain ⟨pk, hpk⟩ : ∃ pk, ls[k]? = some pk := ⟨ls[k]'(by rw [HM.out]; exact hlt), by simp⟩
        obtain ⟨gb, ob, rfl, hcell⟩ := (CB.out.grown HG.out).at (i := k) (u := .bool bb) (by rw [List.getElem?_map, hbb]; rfl)
        have hnx := leadS_take nodeL x L ls k (by rw [HN.out]; exact hlt) (by rw [HM.out]; exact hlt)
        have hL2 : L[k]'(by rw [HN.out]; exact hlt) = bb := by have := (List.getElem?_eq_some_iff.1 hbb).2; exact this
        have hp2 : ls[k]'(by rw [HM.out]; exact hlt) = pk := by have := (List.getElem?_eq_some_iff.1 hpk).2; exact this
        rw [hL2, hp2] at hnx
        have hyl := leadS_length nodeL nodeL_length x (L.take k) (ls.take k) HX0.out
        generalize leadS nodeL x (L.take k) (ls.take k) = y at *
        have hpl := H32.out.at hpk
        have EW : Ext w wr := EB.out.grown HG.out (by intro q hq; cases hq; exact Nat.le_refl _)
        obtain ⟨A, rfl, hca⟩ : ∃ A, a = some A ∧ CellsAt wr (A.add (k * 32)) (pk.map u8v) := by
          cases a with
          | none => rcases HC.out with h | ⟨_, _, h, _⟩
                    · have := rows_length H32.out; rw [h, HM.out] at this; simp at this; omega
                    · cases h
          | some A => exact ⟨A, rfl, (HC.out.rowAt H32.out hpk).ext EW⟩
        have HCA := hid hca
        have PR := hid (PB.out.grown HG.out (by simp))
        have HYL : Hid ((y.map u8v).length = 32) := hid (by rw [List.length_map, hyl])
        have HPL : Hid ((pk.map u8v).length = 32) := hid (by rw [List.length_map, hpl])
        have HYL0 := hid hyl
        have HPL0 := hid hpl
        clear hyl hpl hL2 hp2 hpk hbb hca EW c0 c1 c2
        cases bb with
        | true =>
          rw [if_pos rfl] at hnx
          have HNX := hid hnx
          clear hnx
          go_wp2
          obtain ⟨C, hC⟩ : ∃ C : World → Prop, C = Cls wr wr [w.heap.size, w.heap.size + 1] [] := ⟨_, rfl⟩
          have hC0 : ∀ w', C w' ↔ Cls wr wr [w.heap.size, w.heap.size + 1] [] w' := fun w' => by rw [hC]
          clear hC
          have HCC := hid hC0
          clear hC0
          have hCx : ∀ w w', C w → Ext w w' → C w' := fun w w' h1 h2 => (HCC.out w').2 (((HCC.out w).1 h1).ext h2)
          have hCA : C wr := (HCC.out _).2 (Cls.no_room (Ext.refl _) (Kept.two HB.out.lt PR.out.lt))
          have hs1 : ∀ w1, C w1 → Blk w1 w.heap.size (y.map u8v) 36 := fun w1 h1 => ((HCC.out w1).1 h1).blk HB.out (by simp)
          have e2 : ∀ w1, C w1 → w1.cell? ⟨w.heap.size + 1, 2, none⟩ = some (.slice (some A) m c) := fun w1 h1 => (((HCC.out w1).1 h1).blk PR.out (by simp)).cell' rfl
          have hca : ∀ w1, C w1 → CellsAt w1 (A.add (k * 32)) (pk.map u8v) := fun w1 h1 => HCA.out.ext ((HCC.out w1).1 h1).base
          refine wp_region_al (C := C) 7 [] (World.heap wr |>.size) (by kernel_rfl) (by kernel_rfl) (by kernel_rfl) (hCx _ _ hCA (Ext.refl _).drew) (fun w o h => hCx _ _ h ((Ext.refl w).alloc o)) (fun w h => ((HCC.out w).1 h).kept.1) (by simp) ?_
          simp only [List.take_succ_cons, List.take_zero, List.drop_succ_cons, List.drop_zero]
          refine wpQE_do rfl rfl _ (fun _ _ => ⟨rfl, rfl⟩) ?_
          simp only [Act.put, List.setIfInBounds_toArray, List.set_cons_succ, List.set_cons_zero]
          refine wpQE_do rfl rfl ?dv1 (yieldsE_run (v := ?dv1) ?dy1) ?dr1
          case dy1 => (intro wq hwq; have hcq := (e2) wq hwq; go_simp; try with_reducible rfl)
          case dr1 =>
          simp only [Act.put, List.setIfInBounds_toArray, List.set_cons_succ, List.set_cons_zero]
          refine wpQE_do rfl rfl _ (fun _ _ => ⟨rfl, rfl⟩) ?_
          simp only [Act.put, List.setIfInBounds_toArray, List.set_cons_succ, List.set_cons_zero]
          refine wpQE_do rfl rfl _ (yieldsE_run (fun w1 _ => exec_index (i := k) rfl rfl rfl Try.underlying22 size_apisum hlt w1)) ?_
          simp only [Act.put, List.setIfInBounds_toArray, List.set_cons_succ, List.set_cons_zero]
          refine wpQE_do rfl rfl _ (yieldsE_run (fun w1 h => exec_load_at rfl rfl (hca w1 h) agg_apisum HPL.out)) ?_
          simp only [Act.put, List.setIfInBounds_toArray, List.set_cons_succ, List.set_cons_zero]
          refine wpQE_do rfl rfl _ (yieldsE_loadw _ _ rfl rfl hs1 agg_apisum HYL.out) ?_
          simp only [Act.put, List.setIfInBounds_toArray, List.set_cons_succ, List.set_cons_zero]
          refine wpQE_do rfl rfl _ (yieldsE_call rfl Try.call21 (by simp [Act.eval]) (fun w1 _ => rnode_c pk y w1 HPL0.out HYL0.out) hCx) ?_
          simp only [Act.put, List.setIfInBounds_toArray, List.set_cons_succ, List.set_cons_zero]
          refine wpQE_nil ?_
          intro gs w5 hCw5 _ _
          simp only [putAl, Act.put, List.setIfInBounds_toArray, List.set_cons_succ, List.set_cons_zero]
          have B5 := hid (hs1 w5 hCw5)
          have E5 := hid ((HCC.out w5).1 hCw5).base
          have HNV : Hid (((nodeL pk y).map u8v).length = 32) := hid (by rw [List.length_map, nodeL_length])
          have o3 := one_u8 (nodeL pk y)
          clear hs1 e2 hca hCx hCA HCC hCw5
          go_wp2_with (refine wpl_storew rfl _ _ _ rfl rfl rfl B5.out agg_apisum HYL.out HNV.out o3 ?_)
          intro w6 b6 u6
          go_wp2
          go_roundw
          case rel => exact ⟨k + 1, by omega, by go_num, grown_upd (grown_ext HG.out E5.out) u6, by rw [HNX.out]; exact b6⟩
          case measure => simp [intOf]; omega
        | false =>
          rw [if_neg (by decide)] at hnx
          have HNX := hid hnx
          clear hnx
          go_wp2
          obtain ⟨C, hC⟩ : ∃ C : World → Prop, C = Cls wr wr [w.heap.size, w.heap.size + 1] [] := ⟨_, rfl⟩
          have hC0 : ∀ w', C w' ↔ Cls wr wr [w.heap.size, w.heap.size + 1] [] w' := fun w' => by rw [hC]
          clear hC
          have HCC := hid hC0
          clear hC0
          have hCx : ∀ w w', C w → Ext w w' → C w' := fun w w' h1 h2 => (HCC.out w').2 (((HCC.out w).1 h1).ext h2)
          have hCA : C wr := (HCC.out _).2 (Cls.no_room (Ext.refl _) (Kept.two HB.out.lt PR.out.lt))
          have hs1 : ∀ w1, C w1 → Blk w1 w.heap.size (y.map u8v) 36 := fun w1 h1 => ((HCC.out w1).1 h1).blk HB.out (by simp)
          have e2 : ∀ w1, C w1 → w1.cell? ⟨w.heap.size + 1, 2, none⟩ = some (.slice (some A) m c) := fun w1 h1 => (((HCC.out w1).1 h1).blk PR.out (by simp)).cell' rfl
          have hca : ∀ w1, C w1 → CellsAt w1 (A.add (k * 32)) (pk.map u8v) := fun w1 h1 => HCA.out.ext ((HCC.out w1).1 h1).base
          refine wp_region_al (C := C) 7 [] (World.heap wr |>.size) (by kernel_rfl) (by kernel_rfl) (by kernel_rfl) (hCx _ _ hCA (Ext.refl _).drew) (fun w o h => hCx _ _ h ((Ext.refl w).alloc o)) (fun w h => ((HCC.out w).1 h).kept.1) (by simp) ?_
          simp only [List.take_succ_cons, List.take_zero, List.drop_succ_cons, List.drop_zero]
          refine wpQE_do rfl rfl _ (yieldsE_loadw _ _ rfl rfl hs1 agg_apisum HYL.out) ?_
          simp only [Act.put, List.setIfInBounds_toArray, List.set_cons_succ, List.set_cons_zero]
          refine wpQE_do rfl rfl _ (fun _ _ => ⟨rfl, rfl⟩) ?_
          simp only [Act.put, List.setIfInBounds_toArray, List.set_cons_succ, List.set_cons_zero]
          refine wpQE_do rfl rfl ?dv2 (yieldsE_run (v := ?dv2) ?dy2) ?dr2
          case dy2 => (intro wq hwq; have hcq := (e2) wq hwq; go_simp; try with_reducible rfl)
          case dr2 =>
          simp only [Act.put, List.setIfInBounds_toArray, List.set_cons_succ, List.set_cons_zero]
          refine wpQE_do rfl rfl _ (fun _ _ => ⟨rfl, rfl⟩) ?_
          simp only [Act.put, List.setIfInBounds_toArray, List.set_cons_succ, List.set_cons_zero]
          refine wpQE_do rfl rfl _ (yieldsE_run (fun w1 _ => exec_index (i := k) rfl rfl rfl Try.underlying22 size_apisum hlt w1)) ?_
          simp only [Act.put, List.setIfInBounds_toArray, List.set_cons_succ, List.set_cons_zero]
          refine wpQE_do rfl rfl _ (yieldsE_run (fun w1 h => exec_load_at rfl rfl (hca w1 h) agg_apisum HPL.out)) ?_
          simp only [Act.put, List.setIfInBounds_toArray, List.set_cons_succ, List.set_cons_zero]
          refine wpQE_do rfl rfl _ (yieldsE_call rfl Try.call21 (by simp [Act.eval]) (fun w1 _ => rnode_c y pk w1 HYL0.out HPL0.out) hCx) ?_
          simp only [Act.put, List.setIfInBounds_toArray, List.set_cons_succ, List.set_cons_zero]
          refine wpQE_nil ?_
          intro gs w5 hCw5 _ _
          simp only [putAl, Act.put, List.setIfInBounds_toArray, List.set_cons_succ, List.set_cons_zero]
          have B5 := hid (hs1 w5 hCw5)
          have E5 := hid ((HCC.out w5).1 hCw5).base
          have HNV : Hid (((nodeL y pk).map u8v).length = 32) := hid (by rw [List.length_map, nodeL_length])
          have o3 := one_u8 (nodeL y pk)
          clear hs1 e2 hca hCx hCA HCC hCw5
          go_wp2_with (refine wpl_storew rfl _ _ _ rfl rfl rfl B5.out agg_apisum HYL.out HNV.out o3 ?_)
          intro w6 b6 u6
          go_wp2
          go_roundw
          case rel => exact ⟨k + 1, by omega, by go_num, grown_upd (grown_ext HG.out E5.out) u6, by rw [HNX.out]; exact b6⟩
          case measure => simp [intOf]; omega
      · obtain rfl : k = m := by omega
        have hf : leadS nodeL x (L.take k) (ls.take k) = leadS nodeL x L ls := by rw [List.take_of_length_le (by rw [HN.out]; omega), List.take_of_length_le (by rw [HM.out]; omega)]
        have hb := HB.out
        rw [hf] at hb
        have hyl := leadS_length nodeL nodeL_length x L ls HX0.out
        generalize leadS nodeL x L ls = y at *
        have B2 := hid hb
        have EW := hid (EB.out.grown HG.out (by intro q hq; cases hq; exact Nat.le_refl _))
        have ZR := hid (ZB.out.grown HG.out (by simp))
        have HYL : Hid ((y.map u8v).length = 32) := hid (by rw [List.length_map, hyl])
        have o2 := one_u8 y
        clear hb hf HB hyl
        go_wp2_with (first | (refine wpl_loadw rfl 36 _ rfl rfl B2.out agg_apisum HYL.out ?_) | (refine wpl_storew rfl _ _ _ rfl rfl rfl ZR.out agg_apisum (by simp) HYL.out o2 ?_))
        intro w4 b4 u4
        go_wp2
        refine ret_row2 rfl rfl b4 agg_apisum HYL.out rfl ⟨by rw [← HV.out]; rfl, u4.ext EW.out (by omega)⟩
  · have hv := HV2.out
    rw [if_neg hmn] at hv
    have g1 : ((m : Int) != (N : Int)) = true := by simp; omega
    have g2 : (m != N) = true := by simp [hmn]
    have g3 : ((N : Int) != (m : Int)) = true := by simp; omega
    have g4 : (N != m) = true := by simp; omega
    have HV := hid hv
    clear hv HV2 hmn
    go_wp2_with (refine wpl_storew rfl _ _ _ rfl rfl rfl ZB.out agg_apisum (by simp) (xs := List.replicate 32 (.int .u8 0)) (by simp) (one_zeros 32) ?_)
    intro w4 b4 u4
    go_wp2
    refine ret_row2 rfl rfl b4 agg_apisum (by simp) rfl ⟨by rw [← HV.out]; unfold sumErr; rw [zero32_map]; rfl, u4.ext EB.out (by omega)⟩
end

section
open Go Go.RowKit

theorem agg_proof : AggT Try.prog 24 3 := ⟨⟨_, Try.underlying24, rfl⟩, by kernel_rfl⟩
theorem rootByL_length (x : List UInt8) (I Z : Int) (ls : List (List UInt8)) (hx : x.length = 32) : (rootByL x I Z ls).1.length = 32 := by
  unfold rootByL
  split
  · exact zero32_length
  · split
    · exact zero32_length
    · split
      · exact leadS_length _ nodeL_length _ _ _ hx
      · exact zero32_length
def provedL (root x : List UInt8) (I Z : Int) (ls : List (List UInt8)) : Int := if (rootByL x I Z ls).2 = 0 then (if (rootByL x I Z ls).1 == root then 0 else 12) else (rootByL x I Z ls).2

set_option maxRecDepth 100000 in
set_option maxHeartbeats 1000000 in
theorem proved_c (root x : List UInt8) (I Z : Int) (ls : List (List UInt8)) (m c : Nat) (a : Option Addr) (w : World) (hr : root.length = 32) (hx : x.length = 32) (h32 : All32 ls) (hm : ls.length = m) (hmc : m ≤ c) (hcl : Cells w a (rows ls)) :
    Calls Try.prog 24 #[.agg (root.map u8v).toArray, .agg (x.map u8v).toArray, .agg #[.int .i64 I, .int .i64 Z, .slice a m c]] w fun e w' => e = .returned (.int .i64 (provedL root x I Z ls)) ∧ Ext w w' := by
  have HX : Hid ((x.map u8v).length = 32) := hid (by rw [List.length_map, hx])
  have HR : Hid ((root.map u8v).length = 32) := hid (by rw [List.length_map, hr])
  have HR0 := hid hr
  obtain ⟨V, hV⟩ : ∃ V, provedL root x I Z ls = V := ⟨_, rfl⟩
  rw [hV]
  unfold provedL at hV
  have hy := rootByL_length x I Z ls hx
  have hrb := hid (fun w' h => rootBy_c x I Z ls m c a w' hx h32 hm hmc h)
  generalize rootByL x I Z ls = p at *
  obtain ⟨y, q⟩ := p
  unfold sumErr at hrb
  simp only at hrb hy hV
  have HYL : Hid ((y.map u8v).length = 32) := hid (by rw [List.length_map, hy])
  have HY0 := hid hy
  have HV := hid hV
  have HC := hid hcl
  have o1 := one_u8 y
  clear hV hx h32 hm hcl hr hy
  go_enter Try.func24, Try.ntmps24
  go_upto_region 1 with (fail)
  generalize hwA : World.alloc (World.alloc (World.alloc w _) _) _ = wA
  have rA : Blk wA w.heap.size (root.map u8v) 36 := by rw [← hwA]; exact ((Blk.mk_alloc rfl rfl).alloc _).alloc _
  have xA : Blk wA (w.heap.size + 1) (x.map u8v) 36 := by rw [← hwA]; exact (Blk.mk_alloc (by simp) rfl).alloc _
  have pA : Blk wA (w.heap.size + 2) [.int .i64 I, .int .i64 Z, .slice a m c] 24 := by rw [← hwA]; exact Blk.mk_alloc (by simp) rfl
  have eA : Ext w wA := by rw [← hwA]; exact ((((Ext.refl w).alloc _).alloc _).alloc _)
  clear hwA
  have XA := hid xA
  have PA := hid pA
  have RA := hid rA
  have EA := hid eA
  clear xA rA eA pA
  go_wp2_with (first | (refine wpl_loadw rfl 36 _ rfl rfl XA.out agg_apisum HX.out ?_) | (refine wpl_loadw rfl 24 _ rfl rfl PA.out agg_proof rfl ?_))
  refine (hrb.out wA (HC.out.ext EA.out)).mono ?_
  rintro e wB ⟨rfl, eB⟩
  have RB := hid (RA.out.ext eB)
  have EB := hid (EA.out.ext eB)
  clear eB
  go_wp2_with (first | (refine wpl_storew rfl _ _ _ rfl rfl rfl (Blk.mk_alloc rfl rfl) agg_apisum (by simp) HYL.out o1 ?_))
  intro wC bC uC
  have eC : Ext wB wC := uC.ext ((Ext.refl wB).alloc _) (Nat.le_refl _)
  have RC := hid (RB.out.ext eC)
  have EC := hid (EB.out.ext eC)
  have BC := hid bC
  have hneq := hid (fun w => neq_arr Try.underlying36 y root HY0.out HR0.out w)
  clear eC uC bC RB EB RA XA PA EA HC hrb o1
  by_cases hq : q = 0
  · subst hq
    have hv := HV.out
    rw [if_pos rfl] at hv
    have hn2 := hneq.out
    clear HV hneq
    cases hyr : (y == root) with
    | true =>
      rw [hyr] at hv hn2
      have HN := hid hn2
      have HV2 := hid hv
      clear hv hn2 hyr
      go_wp2_with (first | (refine wpg_loadw rfl 36 _ rfl rfl BC.out agg_apisum HYL.out ?_) | (refine wpg_loadw rfl 36 _ rfl rfl RC.out agg_apisum HR.out ?_) | (refine wpg_cmp rfl .neq _ _ _ _ rfl rfl rfl guard_sum HN.out ?_))
      go_ret
      exact ⟨by rw [← HV2.out]; rfl, EC.out⟩
    | false =>
      rw [hyr] at hv hn2
      have HN := hid hn2
      have HV2 := hid hv
      clear hv hn2 hyr
      go_wp2_with (first | (refine wpg_loadw rfl 36 _ rfl rfl BC.out agg_apisum HYL.out ?_) | (refine wpg_loadw rfl 36 _ rfl rfl RC.out agg_apisum HR.out ?_) | (refine wpg_cmp rfl .neq _ _ _ _ rfl rfl rfl guard_sum HN.out ?_))
      go_ret
      exact ⟨by rw [← HV2.out]; rfl, EC.out⟩
  · have hv := HV.out
    rw [if_neg hq] at hv
    subst hv
    clear HV hneq
    have hqf : (q == 0) = false := by simp [hq]
    go_wp2
    go_ret
    exact ⟨rfl, EC.out⟩
end

section
open Go Go.RowKit

set_option maxRecDepth 100000 in
set_option maxHeartbeats 1000000 in
theorem rawProofs_c (x root : List UInt8) (I Z : Int) (ls : List (List UInt8)) (m c : Nat) (a : Option Addr) (w : World) (hx : x.length = 32) (hr : root.length = 32) (h32 : All32 ls) (hm : ls.length = m) (hmc : m ≤ c) (hcl : Cells w a (rows ls)) :
    Calls Try.prog 5 #[.agg (x.map u8v).toArray, .agg (root.map u8v).toArray, .agg #[.int .i64 I, .int .i64 Z, .slice a m c]] w fun e w' => e = .returned (.bool true) ∧ Ext w w' := by
  have HX : Hid ((x.map u8v).length = 32) := hid (by rw [List.length_map, hx])
  have HR : Hid ((root.map u8v).length = 32) := hid (by rw [List.length_map, hr])
  have HR0 := hid hr
  have hy := rootByL_length x I Z ls hx
  have hrb := hid (fun w' h => rootBy_c x I Z ls m c a w' hx h32 hm hmc h)
  have hrr := hid (fun w' h => rrootBy_c x I Z ls m c a w' hx h32 hm hmc h)
  obtain ⟨V, hV⟩ : ∃ V, provedL root x I Z ls = V := ⟨_, rfl⟩
  have hpr := hid (fun w' h => proved_c root x I Z ls m c a w' hr hx h32 hm hmc h)
  rw [hV] at hpr
  unfold provedL at hV
  generalize rootByL x I Z ls = p at *
  obtain ⟨y, q⟩ := p
  unfold sumErr at hrb hrr
  simp only at hrb hrr hy hV
  have HYL : Hid ((y.map u8v).length = 32) := hid (by rw [List.length_map, hy])
  have HV := hid hV
  have HC := hid hcl
  have o1 := one_u8 y
  have hneq := neq_arr Try.underlying36 y root hy hr
  have hself : ∀ w, (binOp .neq 36 (.agg (y.map u8v).toArray) (.agg (y.map u8v).toArray)).run Try.prog w = .ok (.bool false) w := fun w => by rw [neq_arr Try.underlying36 y y hy hy w]; simp
  have HNE := hid hneq
  have HSE := hid hself
  clear hV hx h32 hm hcl hr hy hneq hself
  go_enter Try.func5, Try.ntmps5
  go_upto_region 1 with (fail)
  generalize hwA : World.alloc (World.alloc (World.alloc w _) _) _ = wA
  have xA : Blk wA w.heap.size (x.map u8v) 36 := by rw [← hwA]; exact ((Blk.mk_alloc rfl rfl).alloc _).alloc _
  have rA : Blk wA (w.heap.size + 1) (root.map u8v) 36 := by rw [← hwA]; exact (Blk.mk_alloc (by simp) rfl).alloc _
  have pA : Blk wA (w.heap.size + 2) [.int .i64 I, .int .i64 Z, .slice a m c] 24 := by rw [← hwA]; exact Blk.mk_alloc (by simp) rfl
  have eA : Ext w wA := by rw [← hwA]; exact ((((Ext.refl w).alloc _).alloc _).alloc _)
  clear hwA
  have XA := hid xA
  have PA := hid pA
  have RA := hid rA
  have EA := hid eA
  clear xA rA eA pA
  go_wp2_with fail
  refine (landed_c wA).mono ?_
  rintro e wB ⟨rfl, eB⟩
  have XB := hid (XA.out.ext eB)
  have RB := hid (RA.out.ext eB)
  have PB := hid (PA.out.ext eB)
  have EB := hid (EA.out.ext eB)
  clear eB XA PA RA EA
  go_wp2_with (first | (refine wpl_loadw rfl 36 _ rfl rfl XB.out agg_apisum HX.out ?_) | (refine wpl_loadw rfl 24 _ rfl rfl PB.out agg_proof rfl ?_))
  refine (hrb.out wB (HC.out.ext EB.out)).mono ?_
  rintro e wC ⟨rfl, eC⟩
  go_wp2_with (first | (refine wpl_storew rfl _ _ _ rfl rfl rfl (Blk.mk_alloc rfl rfl) agg_apisum (by simp) HYL.out o1 ?_))
  intro wD bD uD
  have eD : Ext wB wD := eC.ext (uD.ext ((Ext.refl wC).alloc _) (Nat.le_refl _))
  have XD := hid (XB.out.ext eD)
  have RD := hid (RB.out.ext eD)
  have PD := hid (PB.out.ext eD)
  have ED := hid (EB.out.ext eD)
  have BD := hid bD
  clear eD bD uD eC XB RB PB EB
  generalize wC.heap.size = g1 at *
  go_wp2_with (first | (refine wpl_loadw rfl 36 _ rfl rfl XD.out agg_apisum HX.out ?_) | (refine wpl_loadw rfl 24 _ rfl rfl PD.out agg_proof rfl ?_))
  refine (hrr.out wD (HC.out.ext ED.out)).mono ?_
  rintro e wE ⟨rfl, eE⟩
  go_wp2_with (first | (refine wpl_storew rfl _ _ _ rfl rfl rfl (Blk.mk_alloc rfl rfl) agg_apisum (by simp) HYL.out o1 ?_))
  intro wF bF uF
  have eF : Ext wD wF := eE.ext (uF.ext ((Ext.refl wE).alloc _) (Nat.le_refl _))
  have XF := hid (XD.out.ext eF)
  have RF := hid (RD.out.ext eF)
  have PF := hid (PD.out.ext eF)
  have EF := hid (ED.out.ext eF)
  have B1 := hid (BD.out.ext eF)
  have B2 := hid bF
  clear eF bF uF eE XD RD PD ED BD hrb hrr o1
  generalize wE.heap.size = g2 at *
  have hp := hpr.out wF (HC.out.ext EF.out)
  have HP := hid hp
  clear hp hpr
  by_cases hq : q = 0
  · subst hq
    have hv := HV.out
    rw [if_pos rfl] at hv
    have hn2 := HNE.out
    clear HV HNE
    cases hyr : (y == root) with
    | true =>
      rw [hyr] at hv hn2
      obtain rfl : (0 : Int) = V := hv
      have HN := hid hn2
      clear hn2 hyr
      go_wp2_with (first | (refine wpl_loadw rfl 36 (.tmp 7) rfl rfl B1.out agg_apisum HYL.out ?_) | (refine wpl_loadw rfl 36 (.tmp 9) rfl rfl B2.out agg_apisum HYL.out ?_) | (refine wpl_loadw rfl 36 (.tmp 4) rfl rfl RF.out agg_apisum HR.out ?_) | (refine wpl_loadw rfl 36 (.tmp 3) rfl rfl XF.out agg_apisum HX.out ?_) | (refine wpl_loadw rfl 24 _ rfl rfl PF.out agg_proof rfl ?_) | (refine wpg_loadw rfl 36 (.tmp 9) rfl rfl B2.out agg_apisum HYL.out ?_) | (refine wpg_loadw rfl 36 (.tmp 4) rfl rfl RF.out agg_apisum HR.out ?_) | (refine wpg_cmp rfl .neq _ _ _ _ rfl rfl rfl guard_sum HSE.out ?_) | (refine wpg_cmp rfl .neq _ _ _ _ rfl rfl rfl guard_sum HN.out ?_))
      refine HP.out.mono ?_
      rintro e wG ⟨rfl, eG⟩
      go_wp2
      go_ret
      exact ⟨rfl, EF.out.ext eG⟩
    | false =>
      rw [hyr] at hv hn2
      obtain rfl : (12 : Int) = V := hv
      have HN := hid hn2
      clear hn2 hyr
      go_wp2_with (first | (refine wpl_loadw rfl 36 (.tmp 7) rfl rfl B1.out agg_apisum HYL.out ?_) | (refine wpl_loadw rfl 36 (.tmp 9) rfl rfl B2.out agg_apisum HYL.out ?_) | (refine wpl_loadw rfl 36 (.tmp 4) rfl rfl RF.out agg_apisum HR.out ?_) | (refine wpl_loadw rfl 36 (.tmp 3) rfl rfl XF.out agg_apisum HX.out ?_) | (refine wpl_loadw rfl 24 _ rfl rfl PF.out agg_proof rfl ?_) | (refine wpg_loadw rfl 36 (.tmp 9) rfl rfl B2.out agg_apisum HYL.out ?_) | (refine wpg_loadw rfl 36 (.tmp 4) rfl rfl RF.out agg_apisum HR.out ?_) | (refine wpg_cmp rfl .neq _ _ _ _ rfl rfl rfl guard_sum HSE.out ?_) | (refine wpg_cmp rfl .neq _ _ _ _ rfl rfl rfl guard_sum HN.out ?_))
      refine HP.out.mono ?_
      rintro e wG ⟨rfl, eG⟩
      go_wp2
      go_ret
      exact ⟨rfl, EF.out.ext eG⟩
  · have hv := HV.out
    rw [if_neg hq] at hv
    subst hv
    clear HV HNE
    have hqf : (q == 0) = false := by simp [hq]
    have hqq : (q != q) = false := by simp
    have hqe : (q == q) = true := by simp
    go_wp2_with (first | (refine wpl_loadw rfl 36 (.tmp 7) rfl rfl B1.out agg_apisum HYL.out ?_) | (refine wpl_loadw rfl 36 (.tmp 9) rfl rfl B2.out agg_apisum HYL.out ?_) | (refine wpl_loadw rfl 36 (.tmp 4) rfl rfl RF.out agg_apisum HR.out ?_) | (refine wpl_loadw rfl 36 (.tmp 3) rfl rfl XF.out agg_apisum HX.out ?_) | (refine wpl_loadw rfl 24 _ rfl rfl PF.out agg_proof rfl ?_) | (refine wpg_loadw rfl 36 (.tmp 9) rfl rfl B2.out agg_apisum HYL.out ?_) | (refine wpg_loadw rfl 36 (.tmp 4) rfl rfl RF.out agg_apisum HR.out ?_) | (refine wpg_cmp rfl .neq _ _ _ _ rfl rfl rfl guard_sum HSE.out ?_))
    refine HP.out.mono ?_
    rintro e wG ⟨rfl, eG⟩
    go_wp2
    go_ret
    exact ⟨rfl, EF.out.ext eG⟩
end

section
open Go Go.RowKit Go.ChangeShapes Go.WideShapes Go.ChangeAt

theorem u8_of {n : Int} (h : (Lit.int .u8 n).wf = true) : ∃ x : UInt8, Value.int .u8 n = u8v x := by
  have hb := bounds_u8 h
  refine ⟨UInt8.ofNat n.toNat, ?_⟩
  unfold u8v
  congr 1
  rw [UInt8.toNat_ofNat']
  omega

theorem u8s_of : ∀ (vs : List Value), (∀ (i : Nat) (v : Value), vs[i]? = some v → ∃ x : UInt8, v = u8v x) → ∃ l : List UInt8, vs = l.map u8v
  | [], _ => ⟨[], rfl⟩
  | v :: vs, h => by
    obtain ⟨x, hx⟩ := h 0 v rfl
    obtain ⟨l, hl⟩ := u8s_of vs fun i u hu => h (i + 1) u (by simpa using hu)
    exact ⟨x :: l, by rw [hx, hl]; rfl⟩

section
variable {H : Type} {enc : TypeId × Value → H} {P : Program} {w : World}
/-- an array of octets -/
theorem open_octets {r : Reach} {b0 base : Nat} {sp : Nat → Bool} {held : Bool} {t e : TypeId} {n : Nat} {v : Value} {d : DataW H} {ps : List MemPlace} (ht : P.underlying t = some (.array n e)) (he : P.underlying e = some (.int .u8)) (hce : P.cellsOf e = 1) (hct : P.cellsOf t = n)
    (hval : Value.okWide P w r b0 t v) (hd : DataW.Trod enc P w base sp held t v d ps) : ∃ l : List UInt8, l.length = n ∧ v = .agg (l.map u8v).toArray := by
  unfold Value.okWide at hval
  rw [ht] at hval
  obtain ⟨cs, rfl, hs, _⟩ := hval
  obtain ⟨fuel, hf⟩ := hd
  obtain ⟨xs, m, _, _, hlen, hxl, hel⟩ := DataW.trod_array ht hf
  have hcl : cs.toList.length = n := by rw [Array.length_toList, hs, hct]
  obtain ⟨l, hl⟩ := u8s_of cs.toList fun i u hu => by
    have hi : i < n := by
      have := (List.getElem?_eq_some_iff.1 hu).1
      omega
    have h1 := hel i hi
    rw [hce, Nat.mul_one] at h1
    have hx : xs[i]? = some xs[i] := by simp
    have h2 : (cs.toList.drop i).take 1 = [u] := by
      have h3 := List.getElem?_drop (xs := cs.toList) (i := i) (j := 0)
      rw [Nat.add_zero, hu] at h3
      cases hd : cs.toList.drop i with
      | nil => rw [hd] at h3; simp at h3
      | cons y r => rw [hd] at h3; simp at h3; simp [h3]
    have h4 : DataW.trod enc P w base sp held m e [u] = some xs[i] := by
      rw [← h2, ← hx]; exact h1
    obtain ⟨k, hk, _, hw⟩ := DataW.trod_int he h4
    have hu' : u = .int .u8 k := by simpa using hk
    rw [hu']; exact u8_of hw
  refine ⟨l, ?_, ?_⟩
  · have := congrArg List.length hl
    rw [hcl, List.length_map] at this; exact this.symm
  · rw [← hl]
end
end

section
open Go Go.RowKit Go.ChangeShapes Go.WideShapes Go.ChangeAt

section
variable {H : Type} {enc : TypeId × Value → H} {P : Program} {w : World}
/-- a slice of octets, read whole -/
theorem open_bytes {r : Reach} {b0 base : Nat} {held : Bool} {t e : TypeId} {v : Value} {d : DataW H} {ps : List MemPlace} (ht : P.underlying t = some (.slice e)) (he : P.underlying e = some (.int .u8)) (hce : P.cellsOf e = 1)
    (hval : Value.okWide P w r b0 t v) (hd : DataW.Trod enc P w base (fun _ => true) held t v d ps) :
    ∃ (a : Option Addr) (n c : Nat) (l : List UInt8) (es sp : List (DataW H)), v = .slice a n c ∧ l.length = n ∧ n ≤ c ∧ (a = none → c = 0) ∧ Cells w a (l.map u8v) ∧ ((d = .nil ∧ c = 0) ∨ (d = .slice es sp ∧ es.length + sp.length = c)) := by
  obtain ⟨a, n, c, rfl⟩ := okWide_slice ht hval
  obtain ⟨fuel, hf⟩ := hd
  rcases open_ints ht he hce hf with ⟨hcs, hx⟩ | ⟨ad, len, cap, zs, hcs, _, hle, hmax, hlen, hx, hcell, hwf⟩
  · simp [Value.cells] at hcs
    obtain ⟨rfl, rfl, rfl⟩ := hcs
    simp only [Prod.mk.injEq] at hx
    exact ⟨none, 0, 0, [], [], [], rfl, rfl, Nat.le_refl _, fun _ => rfl, .inl rfl, .inl ⟨hx.1, rfl⟩⟩
  · simp [Value.cells] at hcs
    obtain ⟨rfl, rfl, rfl⟩ := hcs
    simp only [Prod.mk.injEq] at hx
    simp only [if_true] at hlen
    obtain ⟨l, hl⟩ := u8s_of ((zs.take n).map (Value.int .u8)) fun i u hu => by
      have hm := List.mem_of_getElem? hu
      obtain ⟨z, hz, rfl⟩ := List.mem_map.1 hm
      exact u8_of (hwf z (List.mem_of_mem_take hz))
    have hll : l.length = n := by
      have := congrArg List.length hl
      simp only [List.length_map, List.length_take] at this
      omega
    refine ⟨some ad, n, c, l, lits .u8 (zs.take n), lits .u8 (zs.drop n), rfl, hll, hle, (fun h => by cases h), ?_, .inr ⟨hx.1, ?_⟩⟩
    · by_cases hn : n = 0
      · left
        have : l = [] := List.length_eq_zero_iff.1 (by omega)
        rw [this]; rfl
      · obtain ⟨b, off, rfl, hat⟩ := ints_at hcell (by omega)
        refine .inr ⟨b, off, rfl, fun i u hu => ?_⟩
        rw [← hl] at hu
        have hi : i < n := by
          have := (List.getElem?_eq_some_iff.1 hu).1
          simp at this; omega
        rw [hat i (by omega)]
        rw [List.getElem?_map, List.getElem?_take_of_lt hi] at hu
        rw [List.getD_eq_getElem?_getD]
        cases hz : zs[i]? with
        | none => rw [hz] at hu; simp at hu
        | some z => rw [hz] at hu; simpa using hu
    · simp [lits]; omega
end
end

section
open Go Go.RowKit Go.ChangeShapes Go.WideShapes Go.ChangeAt Go.Deep

theorem cells?_at {w : World} {base : Nat} {p : Addr} {k : Nat} {cs : List Value} (h : w.cells? base p k = some cs) : cs.length = k ∧ CellsAt w p cs := by
  unfold World.cells? at h
  split at h
  · refine ⟨by simpa using mapM_some_length h, fun j u hu => ?_⟩
    have hj : j < k := by
      have h1 := (List.getElem?_eq_some_iff.1 hu).1
      have h2 := mapM_some_length h
      simp at h2; omega
    have := mapM_some_get h j j (by simp [hj])
    rw [hu] at this
    exact this
  · cases h

section
variable {H : Type} {enc : TypeId × Value → H} {P : Program} {w : World}
theorem octets_of_trod {base : Nat} {sp : Nat → Bool} {held : Bool} {t e : TypeId} {n f : Nat} {cs : List Value} {x : DataW H × List MemPlace} (ht : P.underlying t = some (.array n e)) (he : P.underlying e = some (.int .u8)) (hce : P.cellsOf e = 1) (hct : P.cellsOf t = n)
    (hf : DataW.trod enc P w base sp held f t cs = some x) : ∃ l : List UInt8, l.length = n ∧ cs = l.map u8v := by
  obtain ⟨xs, m, _, _, hlen, hxl, hel⟩ := DataW.trod_array ht hf
  have hcl : cs.length = n := by rw [hlen, hct]
  obtain ⟨l, hl⟩ := u8s_of cs fun i u hu => by
    have hi : i < n := by
      have := (List.getElem?_eq_some_iff.1 hu).1
      omega
    have h1 := hel i hi
    rw [hce, Nat.mul_one] at h1
    have hx : xs[i]? = some xs[i] := by simp
    have h2 : (cs.drop i).take 1 = [u] := by
      have h3 := List.getElem?_drop (xs := cs) (i := i) (j := 0)
      rw [Nat.add_zero, hu] at h3
      cases hd : cs.drop i with
      | nil => rw [hd] at h3; simp at h3
      | cons y r => rw [hd] at h3; simp at h3; simp [h3]
    have h4 : DataW.trod enc P w base sp held m e [u] = some xs[i] := by
      rw [← h2, ← hx]; exact h1
    obtain ⟨k, hk, _, hw⟩ := DataW.trod_int he h4
    have hu' : u = .int .u8 k := by simpa using hk
    rw [hu']; exact u8_of hw
  refine ⟨l, ?_, hl⟩
  have := congrArg List.length hl
  rw [hcl, List.length_map] at this; exact this.symm

/-- a slice of rows, its cell read -/
theorem sums_of_trod {base f : Nat} {held : Bool} {t e q : TypeId} {cs : List Value} {x : DataW H × List MemPlace} (ht : P.underlying t = some (.slice e)) (he : P.underlying e = some (.array 32 q)) (hq : P.underlying q = some (.int .u8)) (cq : P.cellsOf q = 1) (ce : P.cellsOf e = 32)
    (hf : DataW.trod enc P w base (fun _ => true) held f t cs = some x) :
    ∃ (a : Option Addr) (n c : Nat) (ls : List (List UInt8)) (es sp : List (DataW H)), cs = [.slice a n c] ∧ ls.length = n ∧ All32 ls ∧ n ≤ c ∧ (a = none → c = 0) ∧ Cells w a (rows ls) ∧ ((x.1 = .nil ∧ c = 0) ∨ (x.1 = .slice es sp ∧ es.length + sp.length = c)) := by
  rcases DataW.trod_slice ht hf with ⟨h0, h1⟩ | ⟨a, len, cap, elems, rest, n, _, rfl, rfl, hb, hl, hm, hlen, hel, hsp, hns⟩
  · exact ⟨none, 0, 0, [], [], [], h0, rfl, All32.nil, Nat.le_refl _, fun _ => rfl, .inl rfl, .inl ⟨by rw [h1], rfl⟩⟩
  · have each : ∀ i, i < len → ∃ l : List UInt8, l.length = 32 ∧ CellsAt w (a.add (i * 32)) (l.map u8v) := by
      intro i hi
      have h1 := hel i hi
      have hx : elems[i]? = some (elems[i]'(by omega)) := by simp
      rw [ce, hx, Option.bind_eq_some_iff] at h1
      obtain ⟨cs', hcs, hy⟩ := h1
      obtain ⟨l, hl1, rfl⟩ := octets_of_trod he hq cq ce hy
      exact ⟨l, hl1, (cells?_at hcs).2⟩
    obtain ⟨g, hg⟩ := choose_lt each
    have h32 : All32 ((List.range len).map g) := fun l hl => by
      obtain ⟨i, hi, rfl⟩ := List.mem_map.1 hl
      exact (hg i (List.mem_range.1 hi)).1
    obtain ⟨hrl, _⟩ := hsp rfl
    refine ⟨some a, len, cap, (List.range len).map g, _, _, rfl, by simp, h32, hl, (fun h => by cases h), ?_, .inr ⟨rfl, by simp; omega⟩⟩
    by_cases h0 : len = 0
    · left; subst h0; rfl
    · obtain ⟨hl0, hc0⟩ := hg 0 (by omega)
      obtain ⟨b, off, spot⟩ := a
      have hspot : spot = none := by
        have := hc0 0 (u8v ((g 0)[0]'(by omega))) (by simp [hl0])
        simpa [Addr.add] using World.cell?_spot this
      subst hspot
      refine .inr ⟨b, off, rfl, fun i u hu => ?_⟩
      have hi : i < 32 * len := by
        have := (List.getElem?_eq_some_iff.1 hu).1
        rw [rows_length h32] at this; simpa using this
      obtain ⟨_, hcr⟩ := hg (i / 32) (by omega)
      have hrow : ((List.range len).map g)[i / 32]? = some (g (i / 32)) := by
        rw [List.getElem?_map, List.getElem?_range (by omega)]; rfl
      have h2 := rows_at h32 hrow
      have h3 : ((g (i / 32)).map u8v)[i % 32]? = some u := by
        rw [← h2, List.getElem?_take_of_lt (Nat.mod_lt _ (by omega)), List.getElem?_drop, Nat.div_add_mod]; exact hu
      have h4 := hcr _ _ h3
      rw [addr_add, addr_add] at h4
      rw [show off + i / 32 * 32 + i % 32 = off + i by omega] at h4
      exact h4

/-- a struct of two ints and a slice of rows -/
theorem open_proof {r : Reach} {b0 base : Nat} {held : Bool} {t e q : TypeId} {f0 f1 f2 : Field} {v : Value} {d : DataW H} {ps : List MemPlace} (ht : P.underlying t = some (.struct #[f0, f1, f2])) (h0 : P.underlying f0.type = some (.int .i64)) (h1 : P.underlying f1.type = some (.int .i64))
    (h2 : P.underlying f2.type = some (.slice e)) (he : P.underlying e = some (.array 32 q)) (hq : P.underlying q = some (.int .u8)) (cq : P.cellsOf q = 1) (ce : P.cellsOf e = 32) (c0 : P.cellsOf f0.type = 1) (c1 : P.cellsOf f1.type = 1) (c2 : P.cellsOf f2.type = 1) (ct : P.cellsOf t = 3)
    (o0 : f0.offset = 0) (o1 : f1.offset = 1) (o2 : f2.offset = 2)
    (hval : Value.okWide P w r b0 t v) (hd : DataW.Trod enc P w base (fun _ => true) held t v d ps) :
    ∃ (I Z : Int) (a : Option Addr) (n c : Nat) (ls : List (List UInt8)), v = .agg #[.int .i64 I, .int .i64 Z, .slice a n c] ∧ ls.length = n ∧ All32 ls ∧ n ≤ c ∧ (a = none → c = 0) ∧ Cells w a (rows ls) ∧
      ∃ (D : DataW H) (es sp : List (DataW H)), d = .agg [.lit (.int .i64 I), .lit (.int .i64 Z), D] ∧ ((D = .nil ∧ c = 0) ∨ (D = .slice es sp ∧ es.length + sp.length = c)) ∧ (Lit.int .i64 I).wf = true ∧ (Lit.int .i64 Z).wf = true := by
  obtain ⟨cs, rfl, hs⟩ := okWide_struct ht hval
  obtain ⟨fuel, hf⟩ := hd
  obtain ⟨y0, y1, y2, m, hx, hl, g0, g1, g2⟩ := trod_struct3 ht hf
  rw [c0, o0] at g0
  rw [c1, o1] at g1
  rw [c2, o2] at g2
  obtain ⟨I, hI, hI2, wI⟩ := DataW.trod_int h0 g0
  obtain ⟨Z, hZ, hZ2, wZ⟩ := DataW.trod_int h1 g1
  obtain ⟨a, n, c, ls, es, sp, hsl, hln, h32, hnc, hnil, hcl, hdd⟩ := sums_of_trod h2 he hq cq ce g2
  have hcs : cs = #[.int .i64 I, .int .i64 Z, .slice a n c] := by
    have hsz : cs.size = 3 := by rw [hs, ct]
    obtain ⟨l⟩ := cs
    match l, hsz with
    | [p0, p1, p2], _ =>
      simp [Value.cells] at hI hZ hsl
      rw [hI, hZ, hsl]
  refine ⟨I, Z, a, n, c, ls, by rw [hcs], hln, h32, hnc, hnil, hcl, y2.1, es, sp, ?_, hdd, wI, wZ⟩
  simp only [Prod.mk.injEq] at hx
  rw [hx.1, hI2, hZ2]
end
end
end Go.Proofs.Ytfiigjdiohmkmaa
