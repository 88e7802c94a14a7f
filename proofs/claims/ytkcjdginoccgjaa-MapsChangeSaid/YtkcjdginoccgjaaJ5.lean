/- Contracts and laws that the claim's row leans on (15 texts, joined): What keyref1.MapRoot computes, plain; of two entries; conditions: the keys part below the depth. Keys in order are divided by a bit just at one place; plain; condition: the keys' lengths. The sum of a part of a Map's tree, and its Root; conditions: at most 1000 entries. The root hangs on the entries alone; Map.Root; conditions: at most 1000 entries. keylaw1.key: some sum, the same each time; no condition. tree.Changed; conditions: the lengths. tree.Changed where nothing was; conditions: the lengths. Entries of a map, built of two rows; a slice of two entries; no condition. keyref1.Changed, but where nothing was; conditions: the lengths. keyref1.Changed where nothing was; conditions: the lengths. Entries looked for by their keys: the closures, slices.IndexFunc; conditions: the sizes. slices.Delete of one entry; conditions: the row's block is known. The law's helper that makes a map and its entries; conditions: the slice of steps lies in memory. slices.Reverse at entries; conditions: the block is known whole. The law of maps, plain parts, and slices.Reverse whatever the row; conditions: the sizes. -/
import Derived.Test.YtkcjdginoccgjaaJ4
import Derived.Laws.StructEq
namespace Go.Proofs.Ytkcjdginoccgjaa
section
open Go Go.RowKit

def mrBase : List (List UInt8) → List UInt8
  | [] => zero32
  | x :: _ => mleafL (x.take 32) (x.drop 32)
def mapRootL : Nat → Nat → List (List UInt8) → List UInt8
  | 0, _, l => mrBase l
  | f + 1, lvl, l => if l.length ≤ 1 then mrBase l else nodeL (mapRootL f (lvl + 1) (sideE lvl 0 l)) (mapRootL f (lvl + 1) (sideE lvl 1 l))
theorem mapRootL_le (f lvl : Nat) {l : List (List UInt8)} (h : l.length ≤ 1) : mapRootL f lvl l = mrBase l := by
  cases f with
  | zero => rfl
  | succ f => simp only [mapRootL]; rw [if_pos h]
theorem mapRootL_two (f lvl : Nat) {l : List (List UInt8)} (h : 1 < l.length) : mapRootL (f + 1) lvl l = nodeL (mapRootL f (lvl + 1) (sideE lvl 0 l)) (mapRootL f (lvl + 1) (sideE lvl 1 l)) := by
  simp only [mapRootL]; rw [if_neg (by omega)]
theorem mrBase_length (l : List (List UInt8)) : (mrBase l).length = 32 := by
  cases l with
  | nil => exact zero32_len
  | cons x _ => exact mleafL_length _ _
theorem mapRootL_length (f lvl : Nat) (l : List (List UInt8)) : (mapRootL f lvl l).length = 32 := by
  cases f with
  | zero => exact mrBase_length l
  | succ f =>
    simp only [mapRootL]
    split
    · exact mrBase_length l
    · exact nodeL_length _ _
/-- any two entries part at a level from lvl on, below lvl + f -/
def Parts (f lvl : Nat) (l : List (List UInt8)) : Prop := l.Pairwise fun x y => ∃ b, lvl ≤ b ∧ b < lvl + f ∧ bitL x b ≠ bitL y b
theorem Parts.zero {lvl : Nat} {l : List (List UInt8)} (h : Parts 0 lvl l) : l.length ≤ 1 := by
  match l, h with
  | [], _ => simp
  | [x], _ => simp
  | x :: y :: l, h =>
    unfold Parts at h
    rw [List.pairwise_cons] at h
    obtain ⟨b, h1, h2, _⟩ := h.1 y (by simp)
    omega
theorem Parts.side {f lvl : Nat} {l : List (List UInt8)} (h : Parts (f + 1) lvl l) (c : Nat) : Parts f (lvl + 1) (sideE lvl c l) := by
  unfold Parts sideE at *
  rw [List.pairwise_filter]
  refine h.imp ?_
  rintro x y ⟨b, h1, h2, h3⟩ hx hy
  have hx' : bitL x lvl = c := by simpa using hx
  have hy' : bitL y lvl = c := by simpa using hy
  refine ⟨b, ?_, by omega, h3⟩
  rcases Nat.lt_or_ge lvl b with hlt | hge
  · omega
  · obtain rfl : b = lvl := by omega
    exact absurd (hx'.trans hy'.symm) h3
theorem bitL_app {k v : List UInt8} (hk : k.length = 32) {i : Nat} (h : i < 256) : bitL (k ++ v) i = bitL k i := by
  unfold bitL
  rw [List.getElem?_append_left (by omega)]
theorem mrBase_app {k v : List UInt8} (hk : k.length = 32) (l : List (List UInt8)) : mrBase ((k ++ v) :: l) = mleafL k v := by
  show mleafL ((k ++ v).take 32) ((k ++ v).drop 32) = _
  rw [List.take_append_of_le_length (by omega), List.take_of_length_le (by omega), List.drop_append_of_le_length (by omega), List.drop_of_length_le (by omega), List.nil_append]
theorem mapRoot_pair (k v o u : List UInt8) (hk : k.length = 32) (ho : o.length = 32) (t : Nat) (ht : t < 256) (hpart : bitL o t ≠ bitL k t) :
    ∀ (f D : Nat), D ≤ t → t < D + f → (∀ j, D ≤ j → j < t → bitL o j = bitL k j) → mapRootL f D [k ++ v, o ++ u] = downL k D t (sideL k t (mleafL k v) (mleafL o u)) := by
  intro f
  induction f with
  | zero => intro D h1 h2; omega
  | succ f ih =>
    intro D h1 h2 hs
    rw [mapRootL_two f D (by simp)]
    have ek := bitL_app (v := v) hk (i := D) (by omega)
    have eo := bitL_app (v := u) ho (i := D) (by omega)
    have k2 := bitL_lt k D
    have o2 := bitL_lt o D
    by_cases hd : D = t
    · subst hd
      rw [downL_self]
      unfold sideL
      by_cases h0 : bitL k D = 0
      · have ho1 : bitL o D = 1 := by omega
        have e0 : sideE D 0 [k ++ v, o ++ u] = [k ++ v] := by simp [sideE, ek, eo, h0, ho1]
        have e1 : sideE D 1 [k ++ v, o ++ u] = [o ++ u] := by simp [sideE, ek, eo, h0, ho1]
        rw [e0, e1, mapRootL_le _ _ (by simp), mapRootL_le _ _ (by simp), mrBase_app hk, mrBase_app ho, if_pos h0]
      · have hk1 : bitL k D = 1 := by omega
        have ho0 : bitL o D = 0 := by omega
        have e0 : sideE D 0 [k ++ v, o ++ u] = [o ++ u] := by simp [sideE, ek, eo, hk1, ho0]
        have e1 : sideE D 1 [k ++ v, o ++ u] = [k ++ v] := by simp [sideE, ek, eo, hk1, ho0]
        rw [e0, e1, mapRootL_le _ _ (by simp), mapRootL_le _ _ (by simp), mrBase_app hk, mrBase_app ho, if_neg h0]
    · rw [downL_out _ _ _ _ (by omega)]
      have hsame := hs D (by omega) (by omega)
      have hih := ih (D + 1) (by omega) (by omega) (fun j h3 h4 => hs j (by omega) h4)
      by_cases h0 : bitL k D = 0
      · have ho1 : bitL o D = 0 := by omega
        have e0 : sideE D 0 [k ++ v, o ++ u] = [k ++ v, o ++ u] := by simp [sideE, ek, eo, h0, ho1]
        have e1 : sideE D 1 [k ++ v, o ++ u] = [] := by simp [sideE, ek, eo, h0, ho1]
        rw [e0, e1, hih, mapRootL_le _ _ (l := []) (by simp)]
        generalize downL k (D + 1) t (sideL k t (mleafL k v) (mleafL o u)) = q
        unfold sideL
        rw [if_pos h0]; rfl
      · have hk1 : bitL k D = 1 := by omega
        have ho1 : bitL o D = 1 := by omega
        have e0 : sideE D 0 [k ++ v, o ++ u] = [] := by simp [sideE, ek, eo, hk1, ho1]
        have e1 : sideE D 1 [k ++ v, o ++ u] = [k ++ v, o ++ u] := by simp [sideE, ek, eo, hk1, ho1]
        rw [e0, e1, hih, mapRootL_le _ _ (l := []) (by simp)]
        generalize downL k (D + 1) t (sideL k t (mleafL k v) (mleafL o u)) = q
        unfold sideL
        rw [if_neg h0]; rfl
theorem All64.side {ls : List (List UInt8)} (h : All64 ls) (l b : Nat) : All64 (sideE l b ls) := h.filter _

set_option maxRecDepth 100000 in
set_option maxHeartbeats 2000000 in
theorem mapRoot_base (lvl : Nat) (es : List (List UInt8)) (a : Option Addr) (n c : Nat) (w : World) (hl : es.length = n) (hn : n ≤ 1) (h64 : All64 es) (hcl : Cells w a (rows es)) :
    Calls Try.prog 23 #[.slice a n c, .int .i64 (lvl : Int)] w fun e w' => e = .returned (.agg ((mrBase es).map u8v).toArray) ∧ Ext w w' := by
  have HZ := hid (show (zero32.map u8v).length = 32 by rw [List.length_map, zero32_len])
  by_cases h0 : n = 0
  · subst h0
    obtain rfl := List.length_eq_zero_iff.1 hl
    rw [show mrBase [] = zero32 from rfl]
    clear hcl h64 hl hn
    go_enter Try.func23, Try.ntmps23
    go_upto_region 1 with (fail)
    generalize hwA : World.alloc w _ = wA
    have zA : Blk wA w.heap.size (zero32.map u8v) 32 := by rw [← hwA, zero32_map]; exact Blk.mk_alloc rfl rfl
    have eA : Ext w wA := by rw [← hwA]; exact (Ext.refl w).alloc _
    clear hwA
    have ZA := hid zA
    have EA := hid eA
    clear zA eA
    go_wp2_with (first | (refine wpl_storew rfl _ (.tmp 4) _ rfl rfl rfl ZA.out agg_apisum HZ.out (xs := List.replicate 32 (.int .u8 0)) (by simp) (one_zeros 32) ?_))
    intro w4 b4 u4
    have b5 : Blk w4 w.heap.size (zero32.map u8v) 32 := by rw [zero32_map]; exact b4
    go_wp2
    exact ret_row rfl rfl b5 agg_apisum HZ.out rfl ⟨rfl, u4.ext EA.out (by omega)⟩
  · obtain rfl : n = 1 := by omega
    obtain ⟨x, rfl⟩ := List.length_eq_one_iff.1 hl
    have hx : x.length = 64 := h64 x (by simp)
    obtain ⟨A, rfl, hca⟩ : ∃ A, a = some A ∧ CellsAt w (A.add (0 * 64)) (x.map u8v) := by
      cases a with
      | none => rcases hcl with h | ⟨_, _, h, _⟩
                · have := rows_length64 h64; rw [h] at this; simp at this
                · cases h
      | some A => exact ⟨A, rfl, hcl.rowAt64 h64 rfl⟩
    have h1 : CellsAt w (A.add (0 * 64)) ((x.take 32).map u8v) := by
      intro j u hu
      refine hca j u ?_
      rw [List.map_take, List.getElem?_take] at hu
      split at hu
      · exact hu
      · cases hu
    have h2 : CellsAt w ((A.add (0 * 64)).add 32) ((x.drop 32).map u8v) := by
      intro j u hu
      have h := hca (32 + j) u (by rw [← hu, List.map_drop, List.getElem?_drop])
      rw [Addr.add_add]
      exact h
    have l1 : (x.take 32).length = 32 := by rw [List.length_take]; omega
    have l2 : (x.drop 32).length = 32 := by rw [List.length_drop]; omega
    rw [show mrBase [x] = mleafL (x.take 32) (x.drop 32) from rfl]
    generalize x.take 32 = k at *
    generalize x.drop 32 = v at *
    have hlf := hid (fun w' => rleafOf_c k v w' l1 l2)
    have HS := hid (show ((mleafL k v).map u8v).length = 32 by rw [List.length_map, mleafL_length])
    have os := one_u8 (mleafL k v)
    have HK := hid (show (k.map u8v).length = 32 by rw [List.length_map, l1])
    have HV := hid (show (v.map u8v).length = 32 by rw [List.length_map, l2])
    have H1 := hid h1
    have H2 := hid h2
    clear h1 h2 l1 l2 hca hx h64 hl hcl hn h0
    generalize mleafL k v = s at *
    go_enter Try.func23, Try.ntmps23
    go_upto_region 1 with (fail)
    generalize hwA : World.alloc w _ = wA
    have zA : Blk wA w.heap.size (zero32.map u8v) 32 := by rw [← hwA, zero32_map]; exact Blk.mk_alloc rfl rfl
    have eA : Ext w wA := by rw [← hwA]; exact (Ext.refl w).alloc _
    clear hwA
    have ZA := hid zA
    have EA := hid eA
    clear zA eA
    go_wp2_with fail
    obtain ⟨C, hC⟩ : ∃ C : World → Prop, C = Cls w wA [] [(w.heap.size, 32, 32)] := ⟨_, rfl⟩
    have hC0 : ∀ w', C w' ↔ Cls w wA [] [(w.heap.size, 32, 32)] w' := fun w' => by rw [hC]
    clear hC
    have HCC := hid hC0
    clear hC0
    have hCx : ∀ w w', C w → Ext w w' → C w' := fun w w' h1 h2 => (HCC.out w').2 (((HCC.out w).1 h1).ext h2)
    have hCA : C wA := (HCC.out _).2 (Cls.one_room EA.out (Kept.none _) ZA.out HZ.out)
    refine wp_region_held_drew (S := C) (by kernel_rfl) (hCx _ _ hCA (Ext.refl _).drew) (fun hS0 => ?_)
    refine held_take 0 (v := ?tv1) rfl (by kernel_rfl) (by kernel_rfl) (by kernel_rfl) (fun _ _ _ h => h) (.inl ⟨rfl, ?ty1⟩) hS0 ?tr1
    case ty1 => (intro _ _; go_simp; try with_reducible rfl)
    case tr1 =>
    simp only [Act.put, List.setIfInBounds_toArray, List.set_cons_succ, List.set_cons_zero]
    refine held_take 1 (v := _) rfl (by kernel_rfl) (by kernel_rfl) (by kernel_rfl) (fun _ _ _ h => h) (yieldsI_run rfl (fun w1 _ => exec_index (i := 0) rfl rfl rfl Try.underlying43 size_entry (by omega) w1)) hS0 ?_
    simp only [Act.put, List.setIfInBounds_toArray, List.set_cons_succ, List.set_cons_zero]
    refine held_take 2 (v := ?tv2) rfl (by kernel_rfl) (by kernel_rfl) (by kernel_rfl) (fun _ _ _ h => h) (.inl ⟨rfl, ?ty2⟩) hS0 ?tr2
    case ty2 => (intro _ _; go_simp; try with_reducible rfl)
    case tr2 =>
    simp only [Act.put, List.setIfInBounds_toArray, List.set_cons_succ, List.set_cons_zero]
    refine held_take 3 (v := _) rfl (by kernel_rfl) (by kernel_rfl) (by kernel_rfl) (fun _ _ _ h => h) (yieldsI_run rfl (fun w1 h => exec_load_at rfl rfl (H1.out.ext ((HCC.out w1).1 h).base) agg_apisum HK.out)) hS0 ?_
    simp only [Act.put, List.setIfInBounds_toArray, List.set_cons_succ, List.set_cons_zero]
    refine held_take 4 (v := ?tv3) rfl (by kernel_rfl) (by kernel_rfl) (by kernel_rfl) (fun _ _ _ h => h) (.inl ⟨rfl, ?ty3⟩) hS0 ?tr3
    case ty3 => (intro _ _; go_simp; try with_reducible rfl)
    case tr3 =>
    simp only [Act.put, List.setIfInBounds_toArray, List.set_cons_succ, List.set_cons_zero]
    refine held_take 5 (v := _) rfl (by kernel_rfl) (by kernel_rfl) (by kernel_rfl) (fun _ _ _ h => h) (yieldsI_run rfl (fun w1 _ => exec_index (i := 0) rfl rfl rfl Try.underlying43 size_entry (by omega) w1)) hS0 ?_
    simp only [Act.put, List.setIfInBounds_toArray, List.set_cons_succ, List.set_cons_zero]
    refine held_take 6 (v := ?tv4) rfl (by kernel_rfl) (by kernel_rfl) (by kernel_rfl) (fun _ _ _ h => h) (.inl ⟨rfl, ?ty4⟩) hS0 ?tr4
    case ty4 => (intro _ _; go_simp; try with_reducible rfl)
    case tr4 =>
    simp only [Act.put, List.setIfInBounds_toArray, List.set_cons_succ, List.set_cons_zero]
    refine held_take 7 (v := _) rfl (by kernel_rfl) (by kernel_rfl) (by kernel_rfl) (fun _ _ _ h => h) (yieldsI_run rfl (fun w1 h => exec_load_at rfl rfl (H2.out.ext ((HCC.out w1).1 h).base) agg_apisum HV.out)) hS0 ?_
    simp only [Act.put, List.setIfInBounds_toArray, List.set_cons_succ, List.set_cons_zero]
    generalize wA.drew = wD at *
    refine held_one (i := 8) (by kernel_rfl) rfl ?_
    intro Q' hQ
    go_wp2_with fail
    refine (hlf.out _).mono ?_
    rintro e wE ⟨rfl, eq9⟩
    have hS9 := hCx _ _ hS0 eq9
    go_wp2_with fail
    refine hQ _ _ hS9 ?_
    clear hQ Q' hS0 eq9
    have hS0 := hS9
    clear hS9
    try dsimp only
    try simp only [Act.put, List.setIfInBounds_toArray, List.set_cons_succ, List.set_cons_zero]
    obtain ⟨vz, hvz, zG⟩ := ((HCC.out wE).1 hS0).at_room (r := w.heap.size) (n := 32) (T := 32) (by simp)
    have ZG := hid zG
    have HVZ := hid hvz
    have HG := hid hS0
    clear zG hvz hS0
    refine held_one (i := 9) (by kernel_rfl) rfl ?_
    intro Q' hQ
    go_wp2_with (refine wpl_storew rfl _ _ _ rfl rfl rfl ZG.out agg_apisum HVZ.out HS.out os ?_)
    intro wH bH uH
    have hH : C wH := (HCC.out wH).2 (((HCC.out wE).1 HG.out).store uH bH (by simp [HS.out]) (Nat.le_refl _) (by simp))
    go_wp2_with fail
    refine hQ _ _ hH ?_
    clear hQ Q'
    have EH := hid ((HCC.out wH).1 hH).base
    refine wpAnyH_done (by kernel_rfl) ?_ _
    go_wp2
    exact ret_row rfl rfl bH agg_apisum HS.out rfl ⟨rfl, EH.out⟩

set_option maxRecDepth 100000 in
set_option maxHeartbeats 2000000 in
theorem mapRoot_c : ∀ (f lvl : Nat) (es : List (List UInt8)) (a : Option Addr) (n c : Nat) (w : World), es.length = n → n ≤ 1000000 → All64 es → lvl + f ≤ 256 → Parts f lvl es → Cells w a (rows es) →
    Calls Try.prog 23 #[.slice a n c, .int .i64 (lvl : Int)] w fun e w' => e = .returned (.agg ((mapRootL f lvl es).map u8v).toArray) ∧ Ext w w' := by
  intro f
  induction f with
  | zero =>
    intro lvl es a n c w hl hn h64 hf hp hcl
    exact mapRoot_base lvl es a n c w hl (by rw [← hl]; exact hp.zero) h64 hcl
  | succ f ih =>
    intro lvl es a n c w hl hn h64 hf hp hcl
    by_cases hn1 : n ≤ 1
    · rw [mapRootL_le _ _ (by omega)]
      exact mapRoot_base lvl es a n c w hl hn1 h64 hcl
    · rw [mapRootL_two f lvl (by omega)]
      have hsp := hid (fun w' h => rsplit_c es lvl a n c w' hl hn h64 (by omega) h)
      have s0 := sideE_le lvl 0 es
      have s1 := sideE_le lvl 1 es
      have ha0 := hid (fun a' c' w' h => ih (lvl + 1) (sideE lvl 0 es) a' _ c' w' rfl (by omega) (h64.side _ _) (by omega) (hp.side 0) h)
      have ha1 := hid (fun a' c' w' h => ih (lvl + 1) (sideE lvl 1 es) a' _ c' w' rfl (by omega) (h64.side _ _) (by omega) (hp.side 1) h)
      have l0 := mapRootL_length f (lvl + 1) (sideE lvl 0 es)
      have l1 := mapRootL_length f (lvl + 1) (sideE lvl 1 es)
      have hw1 : IntKind.i64.wrap ((lvl : Int) + 1) = ((lvl + 1 : Nat) : Int) := by rw [IntWalk.i64_in _ (by omega)]; omega
      have HC := hid hcl
      have HZ := hid (show (zero32.map u8v).length = 32 by rw [List.length_map, zero32_len])
      generalize mapRootL f (lvl + 1) (sideE lvl 0 es) = p at *
      generalize mapRootL f (lvl + 1) (sideE lvl 1 es) = q at *
      generalize sideE lvl 0 es = sa at *
      generalize sideE lvl 1 es = sb at *
      obtain ⟨na, hna⟩ : ∃ na, sa.length = na := ⟨_, rfl⟩
      obtain ⟨nb, hnb⟩ : ∃ nb, sb.length = nb := ⟨_, rfl⟩
      rw [hna] at ha0 hsp
      rw [hnb] at ha1 hsp
      obtain ⟨lvl1, hlvl1⟩ : ∃ l1, l1 = lvl + 1 := ⟨_, rfl⟩
      rw [← hlvl1] at ha0 ha1 hw1
      have ND := hid (fun w' => rnode_c p q w' l0 l1)
      have HS := hid (show ((nodeL p q).map u8v).length = 32 by rw [List.length_map, nodeL_length])
      have os := one_u8 (nodeL p q)
      generalize nodeL p q = s at *
      have d0 : ((n : Int) == 0) = false := by simp; omega
      have d0' : (n == 0) = false := by simp; omega
      have d1 : ((n : Int) == 1) = false := by simp; omega
      have d2 : (n == 1) = false := by simp; omega
      clear ih hl hn h64 hp hcl s0 s1 l0 l1 hna hnb hlvl1 hn1
      go_enter Try.func23, Try.ntmps23
      go_upto_region 1 with (fail)
      generalize hwA : World.alloc w _ = wA
      have zA : Blk wA w.heap.size (zero32.map u8v) 32 := by rw [← hwA, zero32_map]; exact Blk.mk_alloc rfl rfl
      have eA : Ext w wA := by rw [← hwA]; exact (Ext.refl w).alloc _
      clear hwA
      have ZA := hid zA
      have EA := hid eA
      clear zA eA
      go_wp2_with fail
      refine (hsp.out wA (HC.out.ext EA.out)).mono ?_
      rintro e wB ⟨va, vb, rfl, oa, ob, eB⟩
      obtain ⟨aa, ca, rfl, -, -, -, cla⟩ := own_sliceT (by decide) oa
      obtain ⟨ab, cb, rfl, -, -, -, clb⟩ := own_sliceT (by decide) ob
      have CA := hid cla
      have CB := hid clb
      have ZB := hid (ZA.out.ext eB)
      have EB := hid (EA.out.ext eB)
      clear eB ZA EA
      clear oa ob cla clb hsp
      go_wp2_with fail
      refine (ha0.out aa ca wB CA.out).mono ?_
      rintro e wC ⟨rfl, eC⟩
      have CBC := hid (CB.out.ext eC)
      have ZC := hid (ZB.out.ext eC)
      have EC := hid (EB.out.ext eC)
      clear eC ZB EB
      clear CA CB ha0
      go_wp2_with fail
      refine (ha1.out ab cb wC CBC.out).mono ?_
      rintro e wD ⟨rfl, eD⟩
      have ZD := hid (ZC.out.ext eD)
      have ED := hid (EC.out.ext eD)
      clear eD ZC EC
      clear CBC ha1
      go_wp2_with fail
      refine (ND.out wD).mono ?_
      rintro e wE ⟨rfl, eE⟩
      have ZE := hid (ZD.out.ext eE)
      have EE := hid (ED.out.ext eE)
      clear eE ZD ED
      go_wp2_with (refine wpl_storew rfl _ _ _ rfl rfl rfl ZE.out agg_apisum HZ.out HS.out os ?_)
      intro wH bH uH
      go_wp2
      exact ret_row rfl rfl bH agg_apisum HS.out rfl ⟨rfl, uH.ext EE.out (Nat.le_refl _)⟩
end

section
open Go Go.RowKit

theorem cmp_at : ∀ (q : Nat) (x y : List UInt8) (a b : UInt8), (∀ i, i < q → x[i]? = y[i]?) → x[q]? = some a → y[q]? = some b → b.toNat < a.toNat → ltB x y = false
  | 0, x, y, a, b, _, hx, hy, hab => by
    cases x with
    | nil => simp at hx
    | cons c x =>
      cases y with
      | nil => simp at hy
      | cons d y =>
        simp at hx hy
        subst hx
        subst hy
        unfold ltB cmpB Lib.compareBytes
        have h1 : ¬ c = d := fun h => by rw [h] at hab; omega
        have h2 : ¬ c < d := fun h => by have := UInt8.lt_iff_toNat_lt.1 h; omega
        have h3 : d < c := UInt8.lt_iff_toNat_lt.2 hab
        simp [h2, h3]
  | q + 1, x, y, a, b, h, hx, hy, hab => by
    cases x with
    | nil => simp at hx
    | cons c x =>
      cases y with
      | nil => simp at hy
      | cons d y =>
        have h0 := h 0 (by omega)
        simp at h0
        subst h0
        have ih := cmp_at q x y a b (fun i hi => by have := h (i + 1) (by omega); simpa using this) (by simpa using hx) (by simpa using hy) hab
        unfold ltB cmpB at ih ⊢
        unfold Lib.compareBytes
        simpa using ih
theorem octet_bits {a b : Nat} (ha : a < 256) (hb : b < 256) (h : ∀ j, j < 8 → a / 2 ^ (7 - j) % 2 = b / 2 ^ (7 - j) % 2) : a = b := by
  have h0 := h 0 (by omega)
  have h1 := h 1 (by omega)
  have h2 := h 2 (by omega)
  have h3 := h 3 (by omega)
  have h4 := h 4 (by omega)
  have h5 := h 5 (by omega)
  have h6 := h 6 (by omega)
  have h7 := h 7 (by omega)
  simp at h0 h1 h2 h3 h4 h5 h6 h7
  omega
theorem octet_less {a b j : Nat} (ha : a < 256) (hb : b < 256) (hj : j < 8) (h : ∀ i, i < j → a / 2 ^ (7 - i) % 2 = b / 2 ^ (7 - i) % 2) (h1 : a / 2 ^ (7 - j) % 2 = 1) (h0 : b / 2 ^ (7 - j) % 2 = 0) : b < a := by
  have g : ∀ i, i < 8 → i < j → a / 2 ^ (7 - i) % 2 = b / 2 ^ (7 - i) % 2 := fun i _ hi => h i hi
  have g0 := g 0 (by omega)
  have g1 := g 1 (by omega)
  have g2 := g 2 (by omega)
  have g3 := g 3 (by omega)
  have g4 := g 4 (by omega)
  have g5 := g 5 (by omega)
  have g6 := g 6 (by omega)
  clear g h
  rcases (by omega : j = 0 ∨ j = 1 ∨ j = 2 ∨ j = 3 ∨ j = 4 ∨ j = 5 ∨ j = 6 ∨ j = 7) with rfl | rfl | rfl | rfl | rfl | rfl | rfl | rfl <;> simp at g0 g1 g2 g3 g4 g5 g6 h1 h0 <;> omega
theorem bits_order {x y : List UInt8} (hx : x.length = 32) (hy : y.length = 32) {l : Nat} (hl : l < 256) (h : ∀ j, j < l → bitL x j = bitL y j) (h1 : bitL x l = 1) (h0 : bitL y l = 0) : ltB x y = false := by
  obtain ⟨q, r, hr, rfl⟩ : ∃ q r, r < 8 ∧ l = 8 * q + r := ⟨l / 8, l % 8, Nat.mod_lt _ (by omega), by omega⟩
  have hq : q < 32 := by omega
  have at8 : ∀ (z : List UInt8) i, i < z.length → z[i]? = some (z[i]?.getD 0) := fun z i hi => by simp [hi]
  refine cmp_at q x y (x[q]?.getD 0) (y[q]?.getD 0) (fun i hi => ?_) (at8 x q (by omega)) (at8 y q (by omega)) ?_
  · rw [at8 x i (by omega), at8 y i (by omega)]
    congr 1
    refine UInt8.toNat_inj.1 (octet_bits (UInt8.toNat_lt _) (UInt8.toNat_lt _) fun j hj => ?_)
    rw [← bitL_8 x i j hj, ← bitL_8 y i j hj]
    exact h _ (by omega)
  · refine octet_less (UInt8.toNat_lt _) (UInt8.toNat_lt _) hr (fun i hi => ?_) ?_ ?_
    · rw [← bitL_8 x q i (by omega), ← bitL_8 y q i (by omega)]
      exact h _ (by omega)
    · rw [← bitL_8 x q r hr]; exact h1
    · rw [← bitL_8 y q r hr]; exact h0

/-- the keys agree below a level -/
def Pre (lvl : Nat) (ks : List (List UInt8)) : Prop := ∀ x ∈ ks, ∀ y ∈ ks, ∀ j, j < lvl → bitL x j = bitL y j
theorem Pre.zero (ks : List (List UInt8)) : Pre 0 ks := fun _ _ _ _ j hj => by omega
theorem Pre.side {lvl : Nat} {ks : List (List UInt8)} (h : Pre lvl ks) (b : Nat) : Pre (lvl + 1) (sideE lvl b ks) := by
  intro x hx y hy j hj
  obtain ⟨hx1, hx2⟩ := List.mem_filter.1 hx
  obtain ⟨hy1, hy2⟩ := List.mem_filter.1 hy
  by_cases hjl : j < lvl
  · exact h x hx1 y hy1 j hjl
  · obtain rfl : j = lvl := by omega
    simp at hx2 hy2
    rw [hx2, hy2]
abbrev Sorted32 (ks : List (List UInt8)) : Prop := ks.Pairwise (fun x y => ltB x y = true)
theorem sorted_parts {ks : List (List UInt8)} (h32 : All32 ks) (hs : Sorted32 ks) {lvl : Nat} (hp : Pre lvl ks) (hl : lvl ≤ 256) : Parts (256 - lvl) lvl ks := by
  unfold Parts
  unfold Sorted32 at hs
  rw [List.pairwise_iff_getElem] at hs ⊢
  intro i j hi hj hij
  have hne : ks[i] ≠ ks[j] := fun he => by
    have := hs i j hi hj hij
    rw [he, ltB_irrefl] at this; cases this
  have mi := List.getElem_mem hi
  have mj := List.getElem_mem hj
  have hd := difL_lt (h32 _ mi) (h32 _ mj) hne
  refine ⟨difL ks[i] ks[j], ?_, by omega, difL_part _ _ hd⟩
  rcases Nat.lt_or_ge (difL ks[i] ks[j]) lvl with h | h
  · exact absurd (hp _ mi _ mj _ h) (difL_part _ _ hd)
  · exact h
theorem halves_split : ∀ {ks : List (List UInt8)} {lvl : Nat}, All32 ks → Sorted32 ks → Pre lvl ks → lvl < 256 → ks.take (hiN lvl ks) = sideE lvl 0 ks ∧ ks.drop (hiN lvl ks) = sideE lvl 1 ks
  | [], _, _, _, _, _ => ⟨rfl, rfl⟩
  | x :: ks, lvl, h32, hs, hp, hl => by
    obtain ⟨hs1, hs2⟩ := List.pairwise_cons.1 hs
    have h32' : All32 ks := fun y hy => h32 y (List.mem_cons_of_mem _ hy)
    have hp' : Pre lvl ks := fun y hy z hz => hp y (List.mem_cons_of_mem _ hy) z (List.mem_cons_of_mem _ hz)
    have ih := halves_split h32' hs2 hp' hl
    have hb := bitL_lt x lvl
    unfold hiN sideE at ih ⊢
    by_cases h0 : bitL x lvl = 0
    · have e0 : (bitL x lvl == 0) = true := by simp [h0]
      have e1 : (bitL x lvl == 1) = false := by simp [h0]
      rw [List.takeWhile_cons, if_pos e0, List.filter_cons, if_pos e0, List.filter_cons, e1, List.length_cons, List.take_succ_cons, List.drop_succ_cons, ih.1, ih.2]
      exact ⟨rfl, by simp⟩
    · have h1 : bitL x lvl = 1 := by omega
      have e0 : (bitL x lvl == 0) = false := by simp [h1]
      have e1 : (bitL x lvl == 1) = true := by simp [h1]
      have hall : ∀ y ∈ ks, bitL y lvl = 1 := fun y hy => by
        have hy2 := bitL_lt y lvl
        rcases (by omega : bitL y lvl = 0 ∨ bitL y lvl = 1) with h | h
        · have := bits_order (h32 x (by simp)) (h32' y hy) hl (fun j hj => hp x (by simp) y (List.mem_cons_of_mem _ hy) j hj) h1 h
          rw [hs1 y hy] at this; cases this
        · exact h
      have f0 : ks.filter (fun y => bitL y lvl == 0) = [] := List.filter_eq_nil_iff.2 (fun y hy => by simp [hall y hy])
      have f1 : ks.filter (fun y => bitL y lvl == 1) = ks := List.filter_eq_self.2 (fun y hy => by simp [hall y hy])
      rw [List.takeWhile_cons, e0, List.filter_cons, e0, List.filter_cons, e1, f0, f1]
      exact ⟨rfl, rfl⟩

/-- a key with its value -/
def entK (hs : List Ent) (k : List UInt8) : List UInt8 := k ++ getK hs k
theorem side_ent {hs : List Ent} {lvl b : Nat} (hl : lvl < 256) {ks : List (List UInt8)} (h32 : All32 ks) : sideE lvl b (ks.map (entK hs)) = (sideE lvl b ks).map (entK hs) := by
  unfold sideE
  rw [List.filter_map]
  congr 1
  apply List.filter_congr
  intro x hx
  show (bitL (x ++ getK hs x) lvl == b) = _
  rw [bitL_app (h32 x hx) hl]
theorem All32.side {ks : List (List UInt8)} (h : All32 ks) (l b : Nat) : All32 (sideE l b ks) := fun x hx => h x (List.mem_filter.1 hx).1
theorem Sorted32.side {ks : List (List UInt8)} (h : Sorted32 ks) (l b : Nat) : Sorted32 (sideE l b ks) := h.filter _
end

section
open Go Go.RowKit

theorem zero32_mapT : zero32.map u8v = List.replicate 32 (.int .u8 0) := by simp [zero32, u8v]
/-- what part computes of keys -/
def partK (hs : List Ent) (f lvl : Nat) (ks : List (List UInt8)) : List UInt8 := mapRootL f lvl (ks.map (entK hs))
theorem partK_len (hs : List Ent) (f lvl : Nat) (ks : List (List UInt8)) : (partK hs f lvl ks).length = 32 := mapRootL_length _ _ _

set_option maxRecDepth 100000 in
set_option maxHeartbeats 2000000 in
theorem part_base (p g : Nat) (hs : List Ent) (f lvl : Nat) (ks : List (List UInt8)) (a : Option Addr) (n c : Nat) (w : World) (hm : TMap w p g hs) (hl : ks.length = n) (hn : n ≤ 1) (h32 : All32 ks) (hcl : Cells w a (rows ks)) :
    Calls Try.prog 59 #[.pointer (some ⟨p, 0, none⟩), .slice a n c, .int .i64 (lvl : Int)] w fun e w' => e = .returned (.agg ((partK hs f lvl ks).map u8v).toArray) ∧ Ext w w' := by
  have HM := hid hm
  obtain ⟨S, hS⟩ : ∃ S, partK hs f lvl ks = S := ⟨_, rfl⟩
  have HS := hid (show (S.map u8v).length = 32 by rw [← hS, List.length_map, partK_len])
  have oS := one_u8 S
  rw [hS]
  have hSv : S = mrBase (ks.map (entK hs)) := by rw [← hS]; exact mapRootL_le f lvl (by rw [List.length_map]; omega)
  clear hS hm
  rcases (by omega : n = 0 ∨ n = 1) with rfl | rfl
  · have hl0 : ks = [] := List.length_eq_zero_iff.1 hl
    subst hl0
    have hz : S = zero32 := hSv
    subst hz
    clear hSv hl h32 hcl
    go_enter Try.func59, Try.ntmps59
    go_upto_region 1 with (fail)
    generalize hwA : World.alloc w _ = wA
    have zA : Blk wA w.heap.size (List.replicate 32 (.int .u8 0)) 32 := by rw [← hwA]; exact Blk.mk_alloc rfl rfl
    have eA : Ext w wA := by rw [← hwA]; exact (Ext.refl w).alloc _
    clear hwA
    have ZA := hid zA
    have EA := hid eA
    clear zA eA
    go_wp2_with (refine wpl_storew rfl _ _ _ rfl rfl rfl ZA.out agg_apisum (by simp) (xs := zero32.map u8v) HS.out oS ?_)
    intro w5 b5 u5
    go_wp2
    exact ret_row rfl rfl b5 agg_apisum HS.out rfl ⟨rfl, u5.ext EA.out (Nat.le_refl _)⟩
  · obtain ⟨k, rfl⟩ : ∃ k, ks = [k] := List.length_eq_one_iff.1 hl
    have hk : k.length = 32 := h32 k (by simp)
    have hSv2 : S = mleafL k (getK hs k) := by rw [hSv]; exact mrBase_app hk []
    obtain ⟨A, rfl, hca⟩ : ∃ A, a = some A ∧ CellsAt w (A.add (0 * 32)) (k.map u8v) := by
      cases a with
      | none => rcases hcl with h | ⟨_, _, h, _⟩
                · have := rows_length h32; rw [h] at this; simp at this
                · cases h
      | some A => exact ⟨A, rfl, hcl.rowAt h32 rfl⟩
    obtain ⟨v, hv⟩ : ∃ v, getK hs k = v := ⟨_, rfl⟩
    have hvl : v.length = 32 := by rw [← hv]; exact getK_len HM.out.ents k
    have hrun := hid (fun w' (h : TMap w' p g hs) => run_getK (w := w') h.map h.ents hk false)
    rw [hv] at hrun hSv2
    have HSG := hid (fun w' => single_c k v w' hk hvl)
    rw [← hSv2] at HSG
    have HKV := hid (show (k.map u8v).length = 32 by rw [List.length_map, hk])
    have HCA := hid hca
    clear hSv hSv2 hl h32 hcl hca hk hvl hv
    go_enter Try.func59, Try.ntmps59
    go_upto_region 5 with (fail)
    generalize hwA : World.alloc w _ = wA
    have zA : Blk wA w.heap.size (List.replicate 32 (.int .u8 0)) 32 := by rw [← hwA]; exact Blk.mk_alloc rfl rfl
    have eA : Ext w wA := by rw [← hwA]; exact (Ext.refl w).alloc _
    have hge : wA.heap.size = w.heap.size + 1 := by rw [← hwA]; simp
    clear hwA
    have ZA := hid zA
    have EA := hid eA
    have MA := hid (HM.out.ext eA)
    have HCB := hid (HCA.out.ext eA)
    clear zA eA HM HCA
    obtain ⟨C, hC⟩ : ∃ C : World → Prop, C = Cls wA wA [] [] := ⟨_, rfl⟩
    have hC0 : ∀ w', C w' ↔ Cls wA wA [] [] w' := fun w' => by rw [hC]
    clear hC
    have HCC := hid hC0
    clear hC0
    have hCx : ∀ w w', C w → Ext w w' → C w' := fun w w' h1 h2 => (HCC.out w').2 (((HCC.out w).1 h1).ext h2)
    have hCA : C wA := (HCC.out _).2 (Cls.no_room (Ext.refl wA) (Kept.none _))
    have hcp : ∀ w1, C w1 → w1.cell? ⟨p, 0, none⟩ = some (.map (some g)) := fun w1 h1 => (MA.out.ext ((HCC.out w1).1 h1).base).cell
    have hck : ∀ w1, C w1 → CellsAt w1 (A.add (0 * 32)) (k.map u8v) := fun w1 h1 => HCB.out.ext ((HCC.out w1).1 h1).base
    refine wp_region_w (S := C) (W := [12]) (by kernel_rfl) (hCx _ _ hCA (Ext.refl _).drew) (fun hS0 => ?_)
    refine w_pure 0 (v := ?tv1) rfl (by kernel_rfl) (by kernel_rfl) (by kernel_rfl) (fun _ _ _ h => h) (.inl ⟨rfl, ?ty1⟩) ?tr1
    case ty1 => (intro _ _; go_simp; try with_reducible rfl)
    case tr1 =>
    simp only [Act.put, List.setIfInBounds_toArray, List.set_cons_succ, List.set_cons_zero]
    refine w_pure 1 (v := _) rfl (by kernel_rfl) (by kernel_rfl) (by kernel_rfl) (fun _ _ _ h => h) (yieldsI_run rfl (fun w1 _ => exec_index (i := 0) rfl rfl rfl Try.underlying29 size_apisum (by omega) w1)) ?_
    simp only [Act.put, List.setIfInBounds_toArray, List.set_cons_succ, List.set_cons_zero]
    refine w_take 2 (v := _) rfl (by kernel_rfl) (by kernel_rfl) (by kernel_rfl) (by kernel_rfl) (by kernel_rfl) (fun _ _ _ h => h) (yieldsI_run rfl (fun w1 h => exec_load_at rfl rfl (hck w1 h) agg_apisum HKV.out)) hS0 ?_
    simp only [Act.put, List.setIfInBounds_toArray, List.set_cons_succ, List.set_cons_zero]
    refine w_pure 3 (v := ?tv2) rfl (by kernel_rfl) (by kernel_rfl) (by kernel_rfl) (fun _ _ _ h => h) (.inl ⟨rfl, ?ty2⟩) ?tr2
    case ty2 => (intro _ _; go_simp; try with_reducible rfl)
    case tr2 =>
    simp only [Act.put, List.setIfInBounds_toArray, List.set_cons_succ, List.set_cons_zero]
    refine w_pure 4 (v := ?tv3) rfl (by kernel_rfl) (by kernel_rfl) (by kernel_rfl) (fun _ _ _ h => h) (.inl ⟨rfl, ?ty3⟩) ?tr3
    case ty3 => (intro _ _; go_simp; try with_reducible rfl)
    case tr3 =>
    simp only [Act.put, List.setIfInBounds_toArray, List.set_cons_succ, List.set_cons_zero]
    refine w_pure 5 (v := ?tv4) rfl (by kernel_rfl) (by kernel_rfl) (by kernel_rfl) (fun _ _ _ h => h) (.inl ⟨rfl, ?ty4⟩) ?tr4
    case ty4 => (intro _ _; go_simp; try with_reducible rfl)
    case tr4 =>
    simp only [Act.put, List.setIfInBounds_toArray, List.set_cons_succ, List.set_cons_zero]
    refine w_take 6 (v := ?tv5) rfl (by kernel_rfl) (by kernel_rfl) (by kernel_rfl) (by kernel_rfl) (by kernel_rfl) (fun _ _ _ h => h) (.inl ⟨rfl, ?ty5⟩) hS0 ?tr5
    case ty5 => (intro wq hwq; have hcq := (hcp) wq hwq; go_simp; try with_reducible rfl)
    case tr5 =>
    simp only [Act.put, List.setIfInBounds_toArray, List.set_cons_succ, List.set_cons_zero]
    refine w_pure 7 (v := ?tv6) rfl (by kernel_rfl) (by kernel_rfl) (by kernel_rfl) (fun _ _ _ h => h) (.inl ⟨rfl, ?ty6⟩) ?tr6
    case ty6 => (intro _ _; go_simp; try with_reducible rfl)
    case tr6 =>
    simp only [Act.put, List.setIfInBounds_toArray, List.set_cons_succ, List.set_cons_zero]
    refine w_pure 8 (v := _) rfl (by kernel_rfl) (by kernel_rfl) (by kernel_rfl) (fun _ _ _ h => h) (yieldsI_run rfl (fun w1 _ => exec_index (i := 0) rfl rfl rfl Try.underlying29 size_apisum (by omega) w1)) ?_
    simp only [Act.put, List.setIfInBounds_toArray, List.set_cons_succ, List.set_cons_zero]
    refine w_take 9 (v := _) rfl (by kernel_rfl) (by kernel_rfl) (by kernel_rfl) (by kernel_rfl) (by kernel_rfl) (fun _ _ _ h => h) (yieldsI_run rfl (fun w1 h => exec_load_at rfl rfl (hck w1 h) agg_apisum HKV.out)) hS0 ?_
    simp only [Act.put, List.setIfInBounds_toArray, List.set_cons_succ, List.set_cons_zero]
    refine w_take 10 (v := _) rfl (by kernel_rfl) (by kernel_rfl) (by kernel_rfl) (by kernel_rfl) (by kernel_rfl) (fun _ _ _ h => h) (yieldsI_run rfl (fun w1 h => exec_getK rfl rfl rfl (hrun.out w1 (MA.out.ext ((HCC.out w1).1 h).base)))) hS0 ?_
    simp only [Act.put, List.setIfInBounds_toArray, List.set_cons_succ, List.set_cons_zero]
    generalize wA.drew = wB at *
    refine w_one (i := 11) (by kernel_rfl) rfl (by kernel_rfl) hS0 ?_
    intro Q' hQ
    go_wp2_with fail
    refine (HSG.out wB).mono ?_
    rintro e wC ⟨rfl, eq9⟩
    have hS9 := hCx _ _ hS0 eq9
    go_wp2_with fail
    refine hQ _ _ hS9 ?_
    clear hQ Q' hS0 eq9
    have hS0 := hS9
    clear hS9
    try dsimp only
    try simp only [Act.put, List.setIfInBounds_toArray, List.set_cons_succ, List.set_cons_zero]
    have EC := hid ((HCC.out wC).1 hS0).base
    have ZC := hid (ZA.out.ext EC.out)
    have EW := hid (EA.out.ext EC.out)
    clear hS0 hcp hck hrun
    refine w_late (i := 12) (by kernel_rfl) rfl (by kernel_rfl) ?_
    intro Q' hQ
    go_wp2_with (refine wpl_storew rfl _ _ _ rfl rfl rfl ZC.out agg_apisum (by simp) HS.out oS ?_)
    intro w5 b5 u5
    have B5 := hid b5
    have E5 := hid (u5.ext EW.out (Nat.le_refl _))
    clear b5 u5
    go_wp2_with fail
    refine hQ _ _ trivial ?_
    clear hQ Q'
    refine w_done (by kernel_rfl) ?_ _
    go_wp2_with fail
    exact ret_row rfl rfl B5.out agg_apisum HS.out rfl ⟨rfl, E5.out⟩

set_option maxRecDepth 100000 in
set_option maxHeartbeats 2000000 in
theorem part_c (p g : Nat) (hs : List Ent) : ∀ (f lvl : Nat) (ks : List (List UInt8)) (a : Option Addr) (n c : Nat) (w : World), TMap w p g hs → ks.length = n → n ≤ 1000 → n ≤ c → All32 ks → lvl + f = 256 → Pre lvl ks → Sorted32 ks → Cells w a (rows ks) →
    Calls Try.prog 59 #[.pointer (some ⟨p, 0, none⟩), .slice a n c, .int .i64 (lvl : Int)] w fun e w' => e = .returned (.agg ((partK hs f lvl ks).map u8v).toArray) ∧ Ext w w' := by
  intro f
  induction f with
  | zero =>
    intro lvl ks a n c w hm hl hn hnc h32 hlf hp hsr hcl
    have hpz := sorted_parts h32 hsr hp (by omega)
    rw [show 256 - lvl = 0 by omega] at hpz
    have := hpz.zero
    exact part_base p g hs 0 lvl ks a n c w hm hl (by omega) h32 hcl
  | succ f ih =>
    intro lvl ks a n c w hm hl hn hnc h32 hlf hp hsr hcl
    by_cases hn1 : n ≤ 1
    · exact part_base p g hs (f + 1) lvl ks a n c w hm hl hn1 h32 hcl
    · have hw1 : IntKind.i64.wrap ((lvl : Int) + 1) = ((lvl + 1 : Nat) : Int) := by rw [IntWalk.i64_in _ (by omega)]; omega
      have HM := hid hm
      have HC := hid hcl
      obtain ⟨sp0, sp1⟩ := halves_split h32 hsr hp (by omega : lvl < 256)
      have hH := hiN_le lvl ks
      have HHV := hid (fun w' h => halves_c ks lvl a n c w' hl hn hnc h32 (by omega) h)
      have l0 : (ks.take (hiN lvl ks)).length = hiN lvl ks := by rw [List.length_take]; omega
      have l1 : (ks.drop (hiN lvl ks)).length = n - hiN lvl ks := by rw [List.length_drop]; omega
      obtain ⟨H, hHd⟩ : ∃ H, hiN lvl ks = H := ⟨_, rfl⟩
      rw [hHd] at sp0 sp1 hH HHV l0 l1
      have c0 := hcl.rowsTake h32 H
      have c1 := hcl.rowsShift h32 c H (by omega)
      rw [sp0] at l0 c0
      rw [sp1] at l1 c1
      obtain ⟨q, hq⟩ : ∃ q, shiftz a c H 32 = q := ⟨_, rfl⟩
      rw [hq] at c1 HHV
      have ha0 := hid (fun w' h1 h2 => ih (lvl + 1) (sideE lvl 0 ks) a H c w' h1 l0 (by omega) (by omega) (h32.side lvl 0) (by omega) (hp.side 0) (hsr.side lvl 0) h2)
      have ha1 := hid (fun w' h1 h2 => ih (lvl + 1) (sideE lvl 1 ks) q (n - H) (c - H) w' h1 l1 (by omega) (by omega) (h32.side lvl 1) (by omega) (hp.side 1) (hsr.side lvl 1) h2)
      have C0 := hid c0
      have C1 := hid c1
      have hres : partK hs (f + 1) lvl ks = nodeL (partK hs f (lvl + 1) (sideE lvl 0 ks)) (partK hs f (lvl + 1) (sideE lvl 1 ks)) := by
        unfold partK
        rw [mapRootL_two f lvl (by rw [List.length_map]; omega), side_ent (by omega) h32, side_ent (by omega) h32]
      rw [hres]
      have ND := hid (fun w' => node_c _ _ w' (partK_len hs f (lvl + 1) (sideE lvl 0 ks)) (partK_len hs f (lvl + 1) (sideE lvl 1 ks)))
      have HS := hid (show ((nodeL (partK hs f (lvl + 1) (sideE lvl 0 ks)) (partK hs f (lvl + 1) (sideE lvl 1 ks))).map u8v).length = 32 by rw [List.length_map, nodeL_length])
      generalize partK hs f (lvl + 1) (sideE lvl 0 ks) = s0 at *
      generalize partK hs f (lvl + 1) (sideE lvl 1 ks) = s1 at *
      have os := one_u8 (nodeL s0 s1)
      generalize nodeL s0 s1 = s at *
      obtain ⟨lvl1, hlvl1⟩ : ∃ l1, l1 = lvl + 1 := ⟨_, rfl⟩
      rw [← hlvl1] at ha0 ha1 hw1
      have d0 : ((n : Int) == 0) = false := by simp; omega
      have d0' : (n == 0) = false := by simp; omega
      have d1 : ((n : Int) == 1) = false := by simp; omega
      have d2 : (n == 1) = false := by simp; omega
      clear ih hl hn h32 hp hcl sp0 sp1 l0 l1 hHd hlvl1 hn1 c0 c1 hq hres hm hsr hlf
      go_enter Try.func59, Try.ntmps59
      go_upto_region 1 with (fail)
      generalize hwA : World.alloc w _ = wA
      have zA : Blk wA w.heap.size (List.replicate 32 (.int .u8 0)) 32 := by rw [← hwA]; exact Blk.mk_alloc rfl rfl
      have eA : Ext w wA := by rw [← hwA]; exact (Ext.refl w).alloc _
      clear hwA
      have ZA := hid zA
      have EA := hid eA
      have MA := hid (HM.out.ext eA)
      clear zA eA
      go_wp2_with fail
      refine (HHV.out wA (HC.out.ext EA.out)).mono ?_
      rintro e wB ⟨rfl, eB⟩
      have MB := hid (MA.out.ext eB)
      have ZB := hid (ZA.out.ext eB)
      have EB := hid (EA.out.ext eB)
      clear eB ZA EA
      clear HHV MA
      go_wp2_with fail
      refine (ha0.out wB MB.out (C0.out.ext EB.out)).mono ?_
      rintro e wC ⟨rfl, eC⟩
      have MC := hid (MB.out.ext eC)
      have ZC := hid (ZB.out.ext eC)
      have EC := hid (EB.out.ext eC)
      clear eC ZB EB
      clear ha0 MB
      go_wp2_with fail
      refine (ha1.out wC MC.out (C1.out.ext EC.out)).mono ?_
      rintro e wD ⟨rfl, eD⟩
      have ZD := hid (ZC.out.ext eD)
      have ED := hid (EC.out.ext eD)
      clear eD ZC EC
      clear ha1
      go_wp2_with fail
      refine (ND.out wD).mono ?_
      rintro e wE ⟨rfl, eE⟩
      have ZE := hid (ZD.out.ext eE)
      have EE := hid (ED.out.ext eE)
      clear eE ZD ED
      go_wp2_with (refine wpl_storew rfl _ _ _ rfl rfl rfl ZE.out agg_apisum (by simp) HS.out os ?_)
      intro wH bH uH
      go_wp2
      exact ret_row rfl rfl bH agg_apisum HS.out rfl ⟨rfl, uH.ext EE.out (Nat.le_refl _)⟩
end

section
open Go Go.RowKit

theorem Parts.perm {f lvl : Nat} {l l' : List (List UInt8)} (h : Parts f lvl l) (hp : l.Perm l') : Parts f lvl l' := by
  unfold Parts at *
  exact (hp.pairwise_iff (fun {x y} ⟨b, h1, h2, h3⟩ => ⟨b, h1, h2, fun e => h3 e.symm⟩)).1 h
theorem mapRootL_perm : ∀ (f lvl : Nat) {l l' : List (List UInt8)}, Parts f lvl l → l.Perm l' → mapRootL f lvl l = mapRootL f lvl l'
  | f, lvl, l, l', h, hp => by
    by_cases hl : l.length ≤ 1
    · have : l = l' := by
        match l, hl with
        | [], _ => exact (List.nil_perm.1 hp).symm
        | [x], _ => exact List.singleton_perm.1 hp
      rw [this]
    · cases f with
      | zero => exact absurd h.zero hl
      | succ f =>
        rw [mapRootL_two f lvl (by omega), mapRootL_two f lvl (by rw [← hp.length_eq]; omega)]
        rw [mapRootL_perm f (lvl + 1) (h.side 0) (hp.filter _), mapRootL_perm f (lvl + 1) (h.side 1) (hp.filter _)]
        rfl
/-- the entries as rows of 64 octets -/
def entsL (hs : List Ent) : List (List UInt8) := hs.map fun p => p.1 ++ p.2
theorem entsL_64 {hs : List Ent} (h : Ents hs) : All64 (entsL hs) := fun x hx => by
  obtain ⟨p, hp, rfl⟩ := List.mem_map.1 hx
  rw [List.length_append, h.k32 p hp, h.v32 p hp]
theorem entsL_len (hs : List Ent) : (entsL hs).length = hs.length := by unfold entsL; rw [List.length_map]
theorem getK_of {hs : List Ent} (h : (hs.map Prod.fst).Nodup) {p : Ent} (hp : p ∈ hs) : getK hs p.1 = p.2 := by
  obtain ⟨j, hj⟩ := List.getElem?_of_mem hp
  have hx := ixK_of h (k := p.1) (v := p.2) hj
  unfold getK
  rw [hx]
  simp [hj]
theorem entK_map {hs : List Ent} (h : (hs.map Prod.fst).Nodup) : (hs.map Prod.fst).map (entK hs) = entsL hs := by
  unfold entsL
  rw [List.map_map]
  apply List.map_congr_left
  intro p hp
  show p.1 ++ getK hs p.1 = p.1 ++ p.2
  rw [getK_of h hp]
theorem keys_part {hs : List Ent} (h : Ents hs) : Parts 256 0 (hs.map Prod.fst) := by
  have hnd := h.nodup
  unfold Parts
  unfold List.Nodup at hnd
  rw [List.pairwise_iff_getElem] at hnd ⊢
  intro i j hi hj hij
  have hne := hnd i j hi hj hij
  have m : ∀ k ∈ hs.map Prod.fst, k.length = 32 := fun k hk => by
    obtain ⟨p, hp, rfl⟩ := List.mem_map.1 hk
    exact h.k32 p hp
  have hd := difL_lt (m _ (List.getElem_mem hi)) (m _ (List.getElem_mem hj)) hne
  exact ⟨_, by omega, by omega, difL_part _ _ hd⟩
theorem ents_part {hs : List Ent} (h : Ents hs) : Parts 256 0 (entsL hs) := by
  have h1 := keys_part h
  unfold Parts entsL at *
  rw [List.pairwise_map] at h1 ⊢
  refine h1.imp_of_mem ?_
  rintro p q hp hq ⟨b, h2, h3, h4⟩
  exact ⟨b, h2, h3, by rw [bitL_app (h.k32 p hp) (by omega), bitL_app (h.k32 q hq) (by omega)]; exact h4⟩
theorem rootK_perm {hs : List Ent} (h : Ents hs) {os : List (List UInt8)} (hp : os.Perm (hs.map Prod.fst)) : partK hs 256 0 os = mapRootL 256 0 (entsL hs) := by
  unfold partK
  have h1 : (os.map (entK hs)).Perm (entsL hs) := by rw [← entK_map h.nodup]; exact hp.map _
  exact mapRootL_perm 256 0 ((ents_part h).perm h1.symm) h1
theorem ents_perm {hs hs' : List Ent} (h : Ents hs) (hp : hs.Perm hs') : mapRootL 256 0 (entsL hs) = mapRootL 256 0 (entsL hs') :=
  mapRootL_perm 256 0 (ents_part h) (hp.map _)

set_option maxRecDepth 100000 in
set_option maxHeartbeats 1000000 in
theorem root_c (p g : Nat) (hs : List Ent) (w : World) (hm : TMap w p g hs) (hn : hs.length ≤ 1000) :
    Calls Try.prog 22 #[.pointer (some ⟨p, 0, none⟩)] w fun e w' => e = .returned (.agg ((mapRootL 256 0 (entsL hs)).map u8v).toArray) ∧ Ext w w' := by
  have HM := hid hm
  have HS := hid (show ((mapRootL 256 0 (entsL hs)).map u8v).length = 32 by rw [List.length_map, mapRootL_length])
  have os := one_u8 (mapRootL 256 0 (entsL hs))
  have HRP := hid (fun os h => rootK_perm (hs := hs) hm.ents (os := os) h)
  generalize mapRootL 256 0 (entsL hs) = s at *
  clear hm
  go_enter Try.func22, Try.ntmps22
  go_upto_region 1 with (fail)
  generalize hwA : World.alloc w _ = wA
  have zA : Blk wA w.heap.size (List.replicate 32 (.int .u8 0)) 32 := by rw [← hwA]; exact Blk.mk_alloc rfl rfl
  have eA : Ext w wA := by rw [← hwA]; exact (Ext.refl w).alloc _
  clear hwA
  have ZA := hid zA
  have EA := hid eA
  have MA := hid (HM.out.ext eA)
  clear zA eA HM
  go_wp2_with fail
  refine (keys_c p g hs wA MA.out hn).mono ?_
  rintro e wB ⟨a, ks, d, rfl, hp, hsr, hcl, hnd, _, eB⟩
  have MB := hid (MA.out.ext eB)
  have hpt := hid (fun w' h1 h2 => part_c p g hs 256 0 ks a ks.length d w' h1 rfl (by rw [hp.length_eq, List.length_map]; exact hn) hnd (fun x hx => by
    obtain ⟨q, hq, rfl⟩ := List.mem_map.1 (hp.mem_iff.1 hx)
    exact MA.out.ents.k32 q hq) rfl (Pre.zero _) hsr h2)
  rw [HRP.out ks hp] at hpt
  have HCL := hid hcl
  have ZB := hid (ZA.out.ext eB)
  have EB := hid (EA.out.ext eB)
  clear eB ZA EA
  clear hp hsr hcl hnd MA HRP
  generalize ks.length = m at *
  go_wp2_with fail
  refine (hpt.out wB MB.out HCL.out).mono ?_
  rintro e wC ⟨rfl, eC⟩
  have ZC := hid (ZB.out.ext eC)
  have EC := hid (EB.out.ext eC)
  clear eC ZB EB
  go_wp2_with (refine wpl_storew rfl _ _ _ rfl rfl rfl ZC.out agg_apisum (by simp) HS.out os ?_)
  intro wH bH uH
  go_wp2
  exact ret_row rfl rfl bH agg_apisum HS.out rfl ⟨rfl, uH.ext EC.out (Nat.le_refl _)⟩
end

section
open Go Go.RowKit

theorem and_below (n : Int) (m k : Nat) (hm : (BitVec.ofInt 64 (m : Int)).toNat = 2 ^ k - 1) (hk : k ≤ 62) : ∃ r : Nat, r < 2 ^ k ∧ bits .and .i64 n (m : Int) = (r : Int) := by
  refine ⟨(BitVec.ofInt 64 n).toNat % 2 ^ k, Nat.mod_lt _ (Nat.two_pow_pos k), ?_⟩
  change IntKind.i64.wrap ((BitVec.ofInt 64 n &&& BitVec.ofInt 64 (m : Int)).toNat : Int) = _
  rw [BitVec.toNat_and, hm, Nat.and_two_pow_sub_one_eq_mod]
  have h1 : (BitVec.ofInt 64 n).toNat % 2 ^ k < 2 ^ k := Nat.mod_lt _ (Nat.two_pow_pos k)
  have h2 : 2 ^ k ≤ 2 ^ 62 := Nat.pow_le_pow_right (by omega) hk
  exact IntWalk.i64_in _ (by omega)
theorem wrap_u8 (i : Int) : ∃ z : UInt8, IntKind.u8.wrap i = (z.toNat : Int) := by
  refine ⟨UInt8.ofNat (i % 256).toNat, ?_⟩
  have h0 : 0 ≤ i % 256 := Int.emod_nonneg _ (by omega)
  have h1 : i % 256 < 256 := Int.emod_lt_of_pos _ (by omega)
  have : IntKind.u8.wrap i = i % 256 := by simp [IntKind.wrap, IntKind.bits, IntKind.signed]
  rw [this]
  simp; omega

theorem octet_of (i : Int) : ∃ z : UInt8, i % 256 = (z.toNat : Int) := by
  have h0 : 0 ≤ i % 256 := Int.emod_nonneg _ (by omega)
  have h1 : i % 256 < 256 := Int.emod_lt_of_pos _ (by omega)
  exact ⟨UInt8.ofNat (i % 256).toNat, by simp; omega⟩
theorem shl_one (r : Nat) (h : r < 8) : ∃ z : UInt8, ∀ w, (Op.shift BinOp.shl IntKind.u8 1 IntKind.i64 (r : Int)).run Try.prog w = .ok (.int .u8 (z.toNat : Int)) w := by
  rcases (by omega : r = 0 ∨ r = 1 ∨ r = 2 ∨ r = 3 ∨ r = 4 ∨ r = 5 ∨ r = 6 ∨ r = 7) with rfl | rfl | rfl | rfl | rfl | rfl | rfl | rfl
  · exact ⟨1, fun w => rfl⟩
  · exact ⟨2, fun w => rfl⟩
  · exact ⟨4, fun w => rfl⟩
  · exact ⟨8, fun w => rfl⟩
  · exact ⟨16, fun w => rfl⟩
  · exact ⟨32, fun w => rfl⟩
  · exact ⟨64, fun w => rfl⟩
  · exact ⟨128, fun w => rfl⟩

set_option maxRecDepth 100000 in
set_option maxHeartbeats 2000000 in
theorem key_ex (n : Int) : ∃ kl : List UInt8, kl.length = 32 ∧ ∀ w, Calls Try.prog 31 #[.int .i64 n] w fun e w' => e = .returned (.agg (kl.map u8v).toArray) ∧ Ext w w' := by
  obtain ⟨r, hr, hb⟩ := and_below n 3 2 (by decide) (by omega)
  have hb2 : bits .and .i64 n 3 = (r : Int) := hb
  clear hb
  rcases (by omega : r = 0 ∨ r = 1 ∨ r = 2 ∨ r = 3) with rfl | rfl | rfl | rfl
  · obtain ⟨z, hz⟩ := octet_of (n / 4)
    refine ⟨sumL 0 [z], sumL_length _ _, fun w => ?_⟩
    have HSM := hid (fun w' a h => rsum_c 0 [z] 1 1 a w' (by omega) (by omega) rfl (by omega) h)
    have HS := hid (show ((sumL 0 [z]).map u8v).length = 32 by rw [List.length_map, sumL_length])
    have os := one_u8 (sumL 0 [z])
    generalize sumL 0 [z] = s at *
    go_enter Try.func31, Try.ntmps31
    go_upto_region 2 with (fail)
    generalize hwA : World.alloc (World.alloc w _) _ = wA
    have rA : Blk wA w.heap.size (List.replicate 32 (.int .u8 0)) 32 := by rw [← hwA]; exact (Blk.mk_alloc rfl rfl).alloc _
    have sA : Blk wA (w.heap.size + 1) (zero32.map u8v) 32 := by rw [← hwA, zero32_mapT]; exact Blk.mk_alloc (by simp) rfl
    have eA : Ext w wA := by rw [← hwA]; exact ((Ext.refl w).alloc _).alloc _
    clear hwA
    have RA := hid rA
    have SA := hid sA
    have EA := hid eA
    clear rA sA eA
    go_wp2_with fail
    have hbk : Cells (wA.alloc (.cells #[.int .u8 (z.toNat : Int)] 5)) (some ⟨wA.heap.size, 0, none⟩) ([z].map u8v) := Cells.of_blk0 (Blk.mk_alloc (T := 5) rfl rfl)
    refine (HSM.out _ _ hbk).mono ?_
    rintro e wB ⟨rfl, eB⟩
    have eC : Ext wA wB := ((Ext.refl wA).alloc _).ext eB
    have RB := hid (RA.out.ext eC)
    have SB := hid (SA.out.ext eC)
    have EB := hid (EA.out.ext eC)
    clear eB eC hbk RA SA EA HSM
    go_upto_region 10 with (first | (refine wpl_storew rfl _ (.tmp 3) _ rfl rfl rfl SB.out agg_apisum (by rw [List.length_map]; exact zero32_l) HS.out os ?_; intro w5 b5 u5; have SC := hid b5; have RC := hid (RB.out.upd u5 (by omega)); have EC := hid (u5.ext EB.out (by omega)); clear b5 u5))
    go_wp2_with (first | (refine wpl_loadw rfl 32 (.tmp 3) rfl rfl SC.out agg_apisum HS.out ?_) | (refine wpl_storew rfl _ (.tmp 2) _ rfl rfl rfl RC.out agg_apisum (by simp) HS.out os ?_))
    intro w6 b6 u6
    go_wp2_with fail
    exact ret_row rfl rfl b6 agg_apisum HS.out rfl ⟨rfl, u6.ext EC.out (Nat.le_refl _)⟩
  · obtain ⟨z, hz⟩ := octet_of (wrap64 (n / 4 * 16))
    obtain ⟨s, hs⟩ : ∃ s, zero32.set 0 z = s := ⟨_, rfl⟩
    refine ⟨s, by rw [← hs, List.length_set]; exact zero32_l, fun w => ?_⟩
    go_enter Try.func31, Try.ntmps31
    go_upto_region 2 with (fail)
    generalize hwA : World.alloc (World.alloc w _) _ = wA
    have rA : Blk wA w.heap.size (List.replicate 32 (.int .u8 0)) 32 := by rw [← hwA]; exact (Blk.mk_alloc rfl rfl).alloc _
    have sA : Blk wA (w.heap.size + 1) (zero32.map u8v) 32 := by rw [← hwA, zero32_mapT]; exact Blk.mk_alloc (by simp) rfl
    have eA : Ext w wA := by rw [← hwA]; exact ((Ext.refl w).alloc _).alloc _
    clear hwA
    have RA := hid rA
    have SA := hid sA
    have EA := hid eA
    have c1 : wA.cell? ⟨w.heap.size + 1, 0, none⟩ = some (.int .u8 0) := sA.cell' (i := 0) (by rw [zero32_mapT]; exact List.getElem?_replicate_of_lt (by omega))
    have f1 := sA.frozen 0
    clear rA sA eA
    go_upto_region 10 with (fail)
    have u : Upd wA (w.heap.size + 1) (wA.setCell ⟨w.heap.size + 1, 0, none⟩ (.int .u8 (z.toNat : Int))) := Upd.setCell _
    have hb : Blk (wA.setCell ⟨w.heap.size + 1, 0, none⟩ (.int .u8 (z.toNat : Int))) (w.heap.size + 1) (s.map u8v) 32 := by rw [← hs, List.map_set]; exact SA.out.set 0 (u8v z)
    have SB := hid hb
    have RB := hid (RA.out.upd u (by omega))
    have EB := hid (u.ext EA.out (by omega))
    clear u hb c1 f1 RA SA EA
    have HS := hid (show (s.map u8v).length = 32 by rw [List.length_map, ← hs, List.length_set]; exact zero32_l)
    have os := one_u8 s
    clear hs
    generalize World.setCell wA _ _ = wB at *
    go_wp2_with (first | (refine wpl_loadw rfl 32 (.tmp 3) rfl rfl SB.out agg_apisum HS.out ?_) | (refine wpl_storew rfl _ (.tmp 2) _ rfl rfl rfl RB.out agg_apisum (by simp) HS.out os ?_))
    intro w6 b6 u6
    go_wp2_with fail
    exact ret_row rfl rfl b6 agg_apisum HS.out rfl ⟨rfl, u6.ext EB.out (Nat.le_refl _)⟩
  · obtain ⟨z, hz⟩ := octet_of (n / 4)
    obtain ⟨s, hs⟩ : ∃ s, zero32.set 31 z = s := ⟨_, rfl⟩
    refine ⟨s, by rw [← hs, List.length_set]; exact zero32_l, fun w => ?_⟩
    go_enter Try.func31, Try.ntmps31
    go_upto_region 2 with (fail)
    generalize hwA : World.alloc (World.alloc w _) _ = wA
    have rA : Blk wA w.heap.size (List.replicate 32 (.int .u8 0)) 32 := by rw [← hwA]; exact (Blk.mk_alloc rfl rfl).alloc _
    have sA : Blk wA (w.heap.size + 1) (zero32.map u8v) 32 := by rw [← hwA, zero32_mapT]; exact Blk.mk_alloc (by simp) rfl
    have eA : Ext w wA := by rw [← hwA]; exact ((Ext.refl w).alloc _).alloc _
    clear hwA
    have RA := hid rA
    have SA := hid sA
    have EA := hid eA
    have c1 : wA.cell? ⟨w.heap.size + 1, 31, none⟩ = some (.int .u8 0) := sA.cell' (i := 31) (by rw [zero32_mapT]; exact List.getElem?_replicate_of_lt (by omega))
    have f1 := sA.frozen 31
    clear rA sA eA
    go_upto_region 10 with (fail)
    have u : Upd wA (w.heap.size + 1) (wA.setCell ⟨w.heap.size + 1, 31, none⟩ (.int .u8 (z.toNat : Int))) := Upd.setCell _
    have hb : Blk (wA.setCell ⟨w.heap.size + 1, 31, none⟩ (.int .u8 (z.toNat : Int))) (w.heap.size + 1) (s.map u8v) 32 := by rw [← hs, List.map_set]; exact SA.out.set 31 (u8v z)
    have SB := hid hb
    have RB := hid (RA.out.upd u (by omega))
    have EB := hid (u.ext EA.out (by omega))
    clear u hb c1 f1 RA SA EA
    have HS := hid (show (s.map u8v).length = 32 by rw [List.length_map, ← hs, List.length_set]; exact zero32_l)
    have os := one_u8 s
    clear hs
    generalize World.setCell wA _ _ = wB at *
    go_wp2_with (first | (refine wpl_loadw rfl 32 (.tmp 3) rfl rfl SB.out agg_apisum HS.out ?_) | (refine wpl_storew rfl _ (.tmp 2) _ rfl rfl rfl RB.out agg_apisum (by simp) HS.out os ?_))
    intro w6 b6 u6
    go_wp2_with fail
    exact ret_row rfl rfl b6 agg_apisum HS.out rfl ⟨rfl, u6.ext EB.out (Nat.le_refl _)⟩
  · obtain ⟨q, hq, hqb⟩ := and_below (n / 4) 31 5 (by decide) (by omega)
    have hq2 : bits .and .i64 (n / 4) 31 = (q : Int) := hqb
    obtain ⟨t, ht, htb⟩ := and_below (n / 128) 7 3 (by decide) (by omega)
    have ht2 : bits .and .i64 (n / 128) 7 = (t : Int) := htb
    obtain ⟨z, hz⟩ := octet_of ((2 : Int) ^ min t 8)
    have q32 : q < 32 := hq
    have i0 : (0 : Int) ≤ (q : Int) := by omega
    have i1 : (q : Int) < 32 := by omega
    clear hqb htb ht hq
    obtain ⟨s, hs⟩ : ∃ s, zero32.set q z = s := ⟨_, rfl⟩
    refine ⟨s, by rw [← hs, List.length_set]; exact zero32_l, fun w => ?_⟩
    go_enter Try.func31, Try.ntmps31
    go_upto_region 2 with (fail)
    generalize hwA : World.alloc (World.alloc w _) _ = wA
    have rA : Blk wA w.heap.size (List.replicate 32 (.int .u8 0)) 32 := by rw [← hwA]; exact (Blk.mk_alloc rfl rfl).alloc _
    have sA : Blk wA (w.heap.size + 1) (zero32.map u8v) 32 := by rw [← hwA, zero32_mapT]; exact Blk.mk_alloc (by simp) rfl
    have eA : Ext w wA := by rw [← hwA]; exact ((Ext.refl w).alloc _).alloc _
    clear hwA
    have RA := hid rA
    have SA := hid sA
    have EA := hid eA
    have c1 : wA.cell? ⟨w.heap.size + 1, q, none⟩ = some (.int .u8 0) := sA.cell' (i := q) (by rw [zero32_mapT]; exact List.getElem?_replicate_of_lt (by omega))
    have f1 := sA.frozen q
    clear rA sA eA
    go_upto_region 10 with (fail)
    have u : Upd wA (w.heap.size + 1) (wA.setCell ⟨w.heap.size + 1, q, none⟩ (.int .u8 (z.toNat : Int))) := Upd.setCell _
    have hb : Blk (wA.setCell ⟨w.heap.size + 1, q, none⟩ (.int .u8 (z.toNat : Int))) (w.heap.size + 1) (s.map u8v) 32 := by rw [← hs, List.map_set]; exact SA.out.set q (u8v z)
    have SB := hid hb
    have RB := hid (RA.out.upd u (by omega))
    have EB := hid (u.ext EA.out (by omega))
    clear u hb c1 f1 RA SA EA
    have HS := hid (show (s.map u8v).length = 32 by rw [List.length_map, ← hs, List.length_set]; exact zero32_l)
    have os := one_u8 s
    clear hs
    generalize World.setCell wA _ _ = wB at *
    go_wp2_with (first | (refine wpl_loadw rfl 32 (.tmp 3) rfl rfl SB.out agg_apisum HS.out ?_) | (refine wpl_storew rfl _ (.tmp 2) _ rfl rfl rfl RB.out agg_apisum (by simp) HS.out os ?_))
    intro w6 b6 u6
    go_wp2_with fail
    exact ret_row rfl rfl b6 agg_apisum HS.out rfl ⟨rfl, u6.ext EB.out (Nat.le_refl _)⟩
end

section
open Go Go.RowKit

def changedE (root k old v lv : List UInt8) (ls : List (List UInt8)) : Int :=
  if v == zero32 then 2 else if old == zero32 then absentE root k lv ls else thereE root k old lv ls
/-- the sum behind a change where nothing was -/
def freshL (k v lv : List UInt8) (ls : List (List UInt8)) : List UInt8 :=
  if ls.length = cntL lv 256 then mleafL k v
  else downL k (depL lv 256) (difL (ls[cntL lv 256]?.getD []) k) (sideL k (difL (ls[cntL lv 256]?.getD []) k) (mleafL k v) (mleafL (ls[cntL lv 256]?.getD []) (ls[cntL lv 256 + 1]?.getD [])))
def changedS (root k old v lv : List UInt8) (ls : List (List UInt8)) : List UInt8 :=
  if v == zero32 then zero32
  else if old == zero32 then (if absentE root k lv ls = 0 then upL lv k ls (depL lv 256) (freshL k v lv ls) else zero32)
  else if thereE root k old lv ls = 0 then upL lv k ls (depL lv 256) (mleafL k v) else zero32
theorem freshL_length (k v lv : List UInt8) (ls : List (List UInt8)) : (freshL k v lv ls).length = 32 := by
  unfold freshL
  split
  · exact mleafL_length _ _
  · exact downL_length _ _ (sideL_length _ _ _ _)
theorem thereE_ok {root k old lv : List UInt8} {ls : List (List UInt8)} (h : thereE root k old lv ls = 0) : ls.length = cntL lv 256 := by
  unfold thereE at h
  split at h
  · cases h
  · split at h
    · cases h
    · rename_i h1; omega
theorem absentE_ok {root k lv : List UInt8} {ls : List (List UInt8)} (h : absentE root k lv ls = 0) : ls.length = cntL lv 256 ∨ (ls.length = cntL lv 256 + 2 ∧ ls[cntL lv 256]?.getD [] ≠ k ∧ depL lv 256 ≤ difL (ls[cntL lv 256]?.getD []) k) := by
  unfold absentE at h
  split at h
  · left; assumption
  · split at h
    · rename_i h1
      split at h
      · cases h
      · rename_i h2
        refine .inr ⟨h1, fun e => h2 (.inl (by rw [e]; simp)), ?_⟩
        apply Nat.le_of_not_lt
        intro e
        exact h2 (.inr (.inl e))
    · cases h

set_option maxRecDepth 100000 in
set_option maxHeartbeats 4000000 in
theorem changed_old_c (root k old v lv : List UInt8) (ls : List (List UInt8)) (a : Option Addr) (n c : Nat) (w : World) (hr : root.length = 32) (hk : k.length = 32) (ho : old.length = 32) (hv : v.length = 32) (hlv : lv.length = 32) (hn : ls.length = n) (hn63 : n ≤ 9223372036854775807) (h32 : All32 ls) (hcl : Cells w a (rows ls)) (hcase : (v == zero32) = true ∨ (old == zero32) = false) :
    Calls Try.prog 33 #[.agg (root.map u8v).toArray, .agg (k.map u8v).toArray, .agg (old.map u8v).toArray, .agg (v.map u8v).toArray, .agg (mpL lv (.slice a n c)).toArray] w fun e w' => e = .returned (.tuple #[.agg ((changedS root k old v lv ls).map u8v).toArray, .int .i64 (changedE root k old v lv ls)]) ∧ Ext w w' := by
  have HR := hid (show (root.map u8v).length = 32 by rw [List.length_map, hr])
  have HK := hid (show (k.map u8v).length = 32 by rw [List.length_map, hk])
  have HO := hid (show (old.map u8v).length = 32 by rw [List.length_map, ho])
  have HV := hid (show (v.map u8v).length = 32 by rw [List.length_map, hv])
  have HZ := hid (show (zero32.map u8v).length = 32 by rw [List.length_map, zero32_len])
  have HL33 := hid (mpL_length hlv (.slice a n c))
  have HLE : Hid (0 + 32 ≤ (mpL lv (.slice a n c)).length) := hid (by rw [mpL_length hlv]; omega)
  have HLV := hid (mpL_lev hlv (.slice a n c))
  have HAT := hid (mpL_at hlv (.slice a n c))
  have HC := hid hcl
  have HKL := hid hk
  have HN := hid hn
  have H32 := hid h32
  have HEZ := hid (fun w => eq_arr Try.underlying32 v zero32 hv zero32_len w)
  have HNZ := hid (fun w => neq_arr Try.underlying32 old zero32 ho zero32_len w)
  have hth := hid (fun w' h => there_c root k old lv ls a n c w' hr hk ho hlv hn hn63 h32 h)
  have hab := hid (fun w' h => absent_c root k lv ls a n c w' hr hk hlv hn hn63 h32 h)
  have hup := hid (fun s w' hs hcnt h => up_c lv k s ls a n c w' hlv hk hs hn hcnt h32 h)
  have hupl := hid (fun s hs => upL_length (lv := lv) (k := k) (ls := ls) (depL lv 256) s hs)
  have hmk := hid (fun w' => marked_c lv w' hlv)
  have hlf := hid (fun w' => single_c k v w' hk hv)
  have hlfl := hid (mleafL_length k v)
  have hth0 := hid (fun h => thereE_ok (root := root) (k := k) (old := old) (lv := lv) (ls := ls) h)
  have hab0 := hid (fun h => absentE_ok (root := root) (k := k) (lv := lv) (ls := ls) h)
  have hc256 := cntL_le lv 256
  have hd256 := depL_le lv 256
  obtain ⟨E, hE⟩ : ∃ E, changedE root k old v lv ls = E := ⟨_, rfl⟩
  obtain ⟨S, hS⟩ : ∃ S, changedS root k old v lv ls = S := ⟨_, rfl⟩
  rw [hE, hS]
  unfold changedE at hE
  unfold changedS freshL at hS
  rw [hn] at hS hth0 hab0
  generalize thereE root k old lv ls = tE at *
  generalize absentE root k lv ls = aE at *
  generalize depL lv 256 = D at *
  generalize cntL lv 256 = M at *
  generalize hvs : mpL lv (.slice a n c) = vs at *
  clear hr hk ho hlv hn h32 hcl hvs
  go_enter Try.func33, Try.ntmps33
  go_upto_region 1 with (fail)
  generalize hwA : World.alloc (World.alloc (World.alloc (World.alloc (World.alloc (World.alloc w _) _) _) _) _) _ = wA
  have rA : Blk wA w.heap.size (root.map u8v) 32 := by rw [← hwA]; exact (((((Blk.mk_alloc rfl rfl).alloc _).alloc _).alloc _).alloc _).alloc _
  have kA : Blk wA (w.heap.size + 1) (k.map u8v) 32 := by rw [← hwA]; exact ((((Blk.mk_alloc (by simp) rfl).alloc _).alloc _).alloc _).alloc _
  have oA : Blk wA (w.heap.size + 2) (old.map u8v) 32 := by rw [← hwA]; exact (((Blk.mk_alloc (by simp) rfl).alloc _).alloc _).alloc _
  have vA : Blk wA (w.heap.size + 3) (v.map u8v) 32 := by rw [← hwA]; exact ((Blk.mk_alloc (by simp) rfl).alloc _).alloc _
  have pA : Blk wA (w.heap.size + 4) vs 62 := by rw [← hwA]; exact (Blk.mk_alloc (by simp) rfl).alloc _
  have zA : Blk wA (w.heap.size + 5) (zero32.map u8v) 32 := by rw [← hwA, zero32_map]; exact Blk.mk_alloc (by simp) rfl
  have eA : Ext w wA := by rw [← hwA]; exact ((((((Ext.refl w).alloc _).alloc _).alloc _).alloc _).alloc _).alloc _
  clear hwA
  have RA := hid rA
  have KA := hid kA
  have OA := hid oA
  have VA := hid vA
  have PA := hid pA
  have ZA := hid zA
  have EA := hid eA
  clear rA kA oA vA pA zA eA
  cases hvz : (v == zero32) with
  | true =>
    rw [hvz, if_pos rfl] at hE hS
    rw [hvz] at HEZ
    subst hE hS
    go_wp2_with (first | (refine wpl_loadw rfl 32 (.tmp 8) rfl rfl VA.out agg_apisum HV.out ?_) | (refine wpg_cmp rfl .eql _ _ _ _ rfl rfl rfl guard_sum HEZ.out ?_) | (refine wpl_storew rfl _ (.tmp 10) _ rfl rfl rfl ZA.out agg_apisum HZ.out (xs := List.replicate 32 (.int .u8 0)) (by simp) (one_zeros 32) ?_))
    intro w4 b4 u4
    have b5 : Blk w4 (w.heap.size + 5) (zero32.map u8v) 32 := by rw [zero32_map]; exact b4
    go_wp2
    exact ret_row2 rfl rfl b5 agg_apisum HZ.out rfl ⟨rfl, u4.ext EA.out (by omega)⟩
  | false =>
    rw [hvz, if_neg (by decide)] at hE hS
    rw [hvz] at HEZ
    have hoz : (old == zero32) = false := by
      rcases hcase with h | h
      · rw [h] at hvz; cases hvz
      · exact h
    clear hvz hcase
    · have := 0
      rw [hoz, if_neg (by decide)] at hE hS
      rw [hoz] at HNZ
      clear hoz
      subst hE
      go_wp2_with (first | (refine wpl_loadw rfl 32 (.tmp 8) rfl rfl VA.out agg_apisum HV.out ?_) | (refine wpg_cmp rfl .eql _ _ _ _ rfl rfl rfl guard_sum HEZ.out ?_) | (refine wpg_cmp rfl .neq _ _ _ _ rfl rfl rfl guard_sum HNZ.out ?_) | (refine wpl_loadw rfl 32 (.tmp 7) rfl rfl OA.out agg_apisum HO.out ?_) | (refine wpl_loadw rfl 32 (.tmp 6) rfl rfl KA.out agg_apisum HK.out ?_) | (refine wpl_loadw rfl 32 (.tmp 5) rfl rfl RA.out agg_apisum HR.out ?_) | (refine wpl_loadw rfl 62 (.tmp 9) rfl rfl PA.out agg_mproof HL33.out ?_))
      refine (hth.out _ (HC.out.ext EA.out)).mono ?_
      rintro e wB ⟨rfl, eB⟩
      have RB := hid (RA.out.ext eB)
      have KB := hid (KA.out.ext eB)
      have OB := hid (OA.out.ext eB)
      have VB := hid (VA.out.ext eB)
      have PB := hid (PA.out.ext eB)
      have ZB := hid (ZA.out.ext eB)
      have EB := hid (EA.out.ext eB)
      clear eB RA KA OA VA PA ZA EA
      by_cases ht0 : tE = 0
      · rw [if_pos ht0] at hS
        have hnM := hth0.out ht0
        subst ht0
        have hupz := hid (fun w' h => hup.out (mleafL k v) w' hlfl.out (by omega) h)
        have hul := hupl.out _ hlfl.out
        rw [hS] at hul hupz
        generalize mleafL k v = lf at *
        have HLF := hid (show (lf.map u8v).length = 32 by rw [List.length_map, hlfl.out])
        have HSL : Hid ((S.map u8v).length = 32) := hid (by rw [List.length_map, hul])
        have os := one_u8 S
        have HS := hid hS
        clear hS hul hth hab hup hupl hmk hlfl hth0 hab0 HEZ HNZ hnM
        go_wp2_with fail
        obtain ⟨C, hC⟩ : ∃ C : World → Prop, C = Cls w wB [w.heap.size + 1, w.heap.size + 3, w.heap.size + 4] [(w.heap.size + 5, 32, 32)] := ⟨_, rfl⟩
        have hC0 : ∀ w', C w' ↔ Cls w wB [w.heap.size + 1, w.heap.size + 3, w.heap.size + 4] [(w.heap.size + 5, 32, 32)] w' := fun w' => by rw [hC]
        clear hC
        have HCC := hid hC0
        clear hC0
        have hCx : ∀ w w', C w → Ext w w' → C w' := fun w w' h1 h2 => (HCC.out w').2 (((HCC.out w).1 h1).ext h2)
        have hCA : C wB := (HCC.out _).2 (Cls.one_room EB.out (Kept.three KB.out.lt VB.out.lt PB.out.lt) ZB.out HZ.out)
        refine wp_region_held_drew (S := C) (by kernel_rfl) (hCx _ _ hCA (Ext.refl _).drew) (fun hS0 => ?_)
        refine held_take 0 (v := _) rfl (by kernel_rfl) (by kernel_rfl) (by kernel_rfl) (fun _ _ _ h => h) (yieldsI_loadw rfl 32 _ rfl rfl (fun w1 h => ((HCC.out w1).1 h).blk KB.out (by simp)) agg_apisum HK.out) hS0 ?_
        simp only [Act.put, List.setIfInBounds_toArray, List.set_cons_succ, List.set_cons_zero]
        refine held_take 1 (v := _) rfl (by kernel_rfl) (by kernel_rfl) (by kernel_rfl) (fun _ _ _ h => h) (yieldsI_loadw rfl 32 _ rfl rfl (fun w1 h => ((HCC.out w1).1 h).blk KB.out (by simp)) agg_apisum HK.out) hS0 ?_
        simp only [Act.put, List.setIfInBounds_toArray, List.set_cons_succ, List.set_cons_zero]
        refine held_take 2 (v := _) rfl (by kernel_rfl) (by kernel_rfl) (by kernel_rfl) (fun _ _ _ h => h) (yieldsI_loadw rfl 32 _ rfl rfl (fun w1 h => ((HCC.out w1).1 h).blk VB.out (by simp)) agg_apisum HV.out) hS0 ?_
        simp only [Act.put, List.setIfInBounds_toArray, List.set_cons_succ, List.set_cons_zero]
        refine held_take 4 (v := _) rfl (by kernel_rfl) (by kernel_rfl) (by kernel_rfl) (fun _ _ _ h => h) (yieldsI_loadw rfl 62 _ rfl rfl (fun w1 h => ((HCC.out w1).1 h).blk PB.out (by simp)) agg_mproof HL33.out) hS0 ?_
        simp only [Act.put, List.setIfInBounds_toArray, List.set_cons_succ, List.set_cons_zero]
        generalize wB.drew = wX at *
        refine held_one (i := 3) (by kernel_rfl) rfl ?_
        intro Q' hQ
        go_wp2_with fail
        refine (hlf.out _).mono ?_
        rintro e wY ⟨rfl, eq9⟩
        have hS9 := hCx _ _ hS0 eq9
        go_wp2_with fail
        refine hQ _ _ hS9 ?_
        clear hQ Q' hS0 eq9
        have hS0 := hS9
        clear hS9
        try dsimp only
        try simp only [Act.put, List.setIfInBounds_toArray, List.set_cons_succ, List.set_cons_zero]
        refine held_one (i := 5) (by kernel_rfl) rfl ?_
        intro Q' hQ
        go_wp2_with fail
        refine (hupz.out _ (HC.out.ext ((HCC.out _).1 hS0).base)).mono ?_
        rintro e wU ⟨rfl, eq9⟩
        have hS9 := hCx _ _ hS0 eq9
        go_wp2_with fail
        refine hQ _ _ hS9 ?_
        clear hQ Q' hS0 eq9
        have hS0 := hS9
        clear hS9
        try dsimp only
        try simp only [Act.put, List.setIfInBounds_toArray, List.set_cons_succ, List.set_cons_zero]
        obtain ⟨vz9, hvz9, zG9⟩ := ((HCC.out wU).1 hS0).at_room (r := w.heap.size + 5) (n := 32) (T := 32) (by simp)
        have ZG9 := hid zG9
        have HVZ9 := hid hvz9
        have HG9 := hid hS0
        clear zG9 hvz9 hS0
        refine held_one (i := 6) (by kernel_rfl) rfl ?_
        intro Q' hQ
        go_wp2_with (refine wpl_storew rfl _ _ _ rfl rfl rfl ZG9.out agg_apisum HVZ9.out HSL.out os ?_)
        intro wH b9 u9
        have hS0 : C wH := (HCC.out wH).2 (((HCC.out wU).1 HG9.out).store u9 b9 (by simp [HSL.out]) (by omega) (by simp <;> omega))
        go_wp2_with fail
        refine hQ _ _ hS0 ?_
        have B9 := hid b9
        clear hQ Q' b9 u9 ZG9 HVZ9 HG9
        try dsimp only
        try simp only [Act.put, List.setIfInBounds_toArray, List.set_cons_succ, List.set_cons_zero]
        refine held_take 7 (v := ?tv1) rfl (by kernel_rfl) (by kernel_rfl) (by kernel_rfl) (fun _ _ _ h => h) (.inl ⟨rfl, ?ty1⟩) hS0 ?tr1
        case ty1 => (intro _ _; go_simp; try with_reducible rfl)
        case tr1 =>
        simp only [Act.put, List.setIfInBounds_toArray, List.set_cons_succ, List.set_cons_zero]
        refine wpAnyH_done (by kernel_rfl) ?_ _
        have EH := hid ((HCC.out wH).1 hS0).base
        clear hS0 hCx hCA HCC
        go_wp2
        exact ret_row2 rfl rfl B9.out agg_apisum HSL.out rfl ⟨rfl, EH.out⟩
      · rw [if_neg ht0] at hS
        subst hS
        have g1 : (tE != 0) = true := by simp [ht0]
        go_wp2_with (first | (refine wpl_storew rfl _ (.tmp 10) _ rfl rfl rfl ZB.out agg_apisum HZ.out (xs := List.replicate 32 (.int .u8 0)) (by simp) (one_zeros 32) ?_))
        intro w4 b4 u4
        have b5 : Blk w4 (w.heap.size + 5) (zero32.map u8v) 32 := by rw [zero32_map]; exact b4
        go_wp2
        exact ret_row2 rfl rfl b5 agg_apisum HZ.out rfl ⟨rfl, u4.ext EB.out (by omega)⟩
end

section
open Go Go.RowKit

theorem Kept.five {W : World} {a b c d e : Nat} (ha : a < W.heap.size) (hb : b < W.heap.size) (hc : c < W.heap.size) (hd : d < W.heap.size) (he : e < W.heap.size) : Kept W [a, b, c, d, e] W := ⟨Nat.le_refl _, by simpa using ⟨ha, hb, hc, hd, he⟩, fun _ _ => rfl⟩

set_option maxRecDepth 100000 in
set_option maxHeartbeats 4000000 in
theorem changed_new_c (root k old v lv : List UInt8) (ls : List (List UInt8)) (a : Option Addr) (n c : Nat) (w : World) (hr : root.length = 32) (hk : k.length = 32) (ho : old.length = 32) (hv : v.length = 32) (hlv : lv.length = 32) (hn : ls.length = n) (hn63 : n ≤ 9223372036854775807) (h32 : All32 ls) (hcl : Cells w a (rows ls)) (hvz : (v == zero32) = false) (hoz : (old == zero32) = true) :
    Calls Try.prog 33 #[.agg (root.map u8v).toArray, .agg (k.map u8v).toArray, .agg (old.map u8v).toArray, .agg (v.map u8v).toArray, .agg (mpL lv (.slice a n c)).toArray] w fun e w' => e = .returned (.tuple #[.agg ((changedS root k old v lv ls).map u8v).toArray, .int .i64 (changedE root k old v lv ls)]) ∧ Ext w w' := by
  have HR := hid (show (root.map u8v).length = 32 by rw [List.length_map, hr])
  have HK := hid (show (k.map u8v).length = 32 by rw [List.length_map, hk])
  have HO := hid (show (old.map u8v).length = 32 by rw [List.length_map, ho])
  have HV := hid (show (v.map u8v).length = 32 by rw [List.length_map, hv])
  have HZ := hid (show (zero32.map u8v).length = 32 by rw [List.length_map, zero32_len])
  have HL33 := hid (mpL_length hlv (.slice a n c))
  have HLE : Hid (0 + 32 ≤ (mpL lv (.slice a n c)).length) := hid (by rw [mpL_length hlv]; omega)
  have HLV := hid (mpL_lev hlv (.slice a n c))
  have HAT := hid (mpL_at hlv (.slice a n c))
  have HC := hid hcl
  have HKL := hid hk
  have HN := hid hn
  have H32 := hid h32
  have HEZ := hid (fun w => eq_arr Try.underlying32 v zero32 hv zero32_len w)
  have HNZ := hid (fun w => neq_arr Try.underlying32 old zero32 ho zero32_len w)
  have hab := hid (fun w' h => absent_c root k lv ls a n c w' hr hk hlv hn hn63 h32 h)
  have hup := hid (fun s w' hs hcnt h => up_c lv k s ls a n c w' hlv hk hs hn hcnt h32 h)
  have hupl := hid (fun s hs => upL_length (lv := lv) (k := k) (ls := ls) (depL lv 256) s hs)
  have hmk := hid (fun w' => marked_c lv w' hlv)
  have hlf := hid (fun w' => single_c k v w' hk hv)
  have hlfl := hid (mleafL_length k v)
  have hab0 := hid (fun h => absentE_ok (root := root) (k := k) (lv := lv) (ls := ls) h)
  have hc256 := cntL_le lv 256
  have hd256 := depL_le lv 256
  obtain ⟨E, hE⟩ : ∃ E, changedE root k old v lv ls = E := ⟨_, rfl⟩
  obtain ⟨S, hS⟩ : ∃ S, changedS root k old v lv ls = S := ⟨_, rfl⟩
  rw [hE, hS]
  unfold changedE at hE
  unfold changedS freshL at hS
  rw [hn] at hS hab0
  generalize thereE root k old lv ls = tE at *
  generalize absentE root k lv ls = aE at *
  generalize depL lv 256 = D at *
  generalize cntL lv 256 = M at *
  generalize hvs : mpL lv (.slice a n c) = vs at *
  clear hr hk ho hlv hn h32 hcl hvs
  go_enter Try.func33, Try.ntmps33
  go_upto_region 1 with (fail)
  generalize hwA : World.alloc (World.alloc (World.alloc (World.alloc (World.alloc (World.alloc w _) _) _) _) _) _ = wA
  have rA : Blk wA w.heap.size (root.map u8v) 32 := by rw [← hwA]; exact (((((Blk.mk_alloc rfl rfl).alloc _).alloc _).alloc _).alloc _).alloc _
  have kA : Blk wA (w.heap.size + 1) (k.map u8v) 32 := by rw [← hwA]; exact ((((Blk.mk_alloc (by simp) rfl).alloc _).alloc _).alloc _).alloc _
  have oA : Blk wA (w.heap.size + 2) (old.map u8v) 32 := by rw [← hwA]; exact (((Blk.mk_alloc (by simp) rfl).alloc _).alloc _).alloc _
  have vA : Blk wA (w.heap.size + 3) (v.map u8v) 32 := by rw [← hwA]; exact ((Blk.mk_alloc (by simp) rfl).alloc _).alloc _
  have pA : Blk wA (w.heap.size + 4) vs 62 := by rw [← hwA]; exact (Blk.mk_alloc (by simp) rfl).alloc _
  have zA : Blk wA (w.heap.size + 5) (zero32.map u8v) 32 := by rw [← hwA, zero32_map]; exact Blk.mk_alloc (by simp) rfl
  have eA : Ext w wA := by rw [← hwA]; exact ((((((Ext.refl w).alloc _).alloc _).alloc _).alloc _).alloc _).alloc _
  clear hwA
  have RA := hid rA
  have KA := hid kA
  have OA := hid oA
  have VA := hid vA
  have PA := hid pA
  have ZA := hid zA
  have EA := hid eA
  clear rA kA oA vA pA zA eA
  rw [hvz, if_neg (by decide), hoz, if_pos rfl] at hE hS
  rw [hvz] at HEZ
  rw [hoz] at HNZ
  clear hvz hoz tE
  subst hE
  go_wp2_with (first | (refine wpl_loadw rfl 32 (.tmp 8) rfl rfl VA.out agg_apisum HV.out ?_) | (refine wpg_cmp rfl .eql _ _ _ _ rfl rfl rfl guard_sum HEZ.out ?_) | (refine wpg_cmp rfl .neq _ _ _ _ rfl rfl rfl guard_sum HNZ.out ?_) | (refine wpl_loadw rfl 32 (.tmp 7) rfl rfl OA.out agg_apisum HO.out ?_) | (refine wpl_loadw rfl 32 (.tmp 6) rfl rfl KA.out agg_apisum HK.out ?_) | (refine wpl_loadw rfl 32 (.tmp 5) rfl rfl RA.out agg_apisum HR.out ?_) | (refine wpl_loadw rfl 62 (.tmp 9) rfl rfl PA.out agg_mproof HL33.out ?_))
  refine (hab.out _ (HC.out.ext EA.out)).mono ?_
  rintro e wB ⟨rfl, eB⟩
  have RB := hid (RA.out.ext eB)
  have KB := hid (KA.out.ext eB)
  have OB := hid (OA.out.ext eB)
  have VB := hid (VA.out.ext eB)
  have PB := hid (PA.out.ext eB)
  have ZB := hid (ZA.out.ext eB)
  have EB := hid (EA.out.ext eB)
  clear eB RA KA OA VA PA ZA EA
  clear RB OB HEZ HNZ hab HR HO
  by_cases ht0 : aE = 0
  · rw [if_pos ht0] at hS
    have hdis := hab0.out ht0
    subst ht0
    clear hab0
    go_wp2_with (first | (refine wpl_loadw rfl 32 (.tmp 6) rfl rfl KB.out agg_apisum HK.out ?_) | (refine wpl_loadw rfl 32 (.tmp 8) rfl rfl VB.out agg_apisum HV.out ?_))
    refine (hlf.out _).mono ?_
    rintro e wC0 ⟨rfl, eC⟩
    have KC := hid (KB.out.ext eC)
    have PC := hid (PB.out.ext eC)
    have ZC := hid (ZB.out.ext eC)
    have EC := hid (EB.out.ext eC)
    clear eC KB PB ZB EB
    clear VB HV hlf
    have HLF := hid (show ((mleafL k v).map u8v).length = 32 by rw [List.length_map, hlfl.out])
    have olf := one_u8 (mleafL k v)
    have hg9 : w.heap.size + 5 < wC0.heap.size := ZC.out.lt
    generalize mleafL k v = lf at *
    have HS := hid hS
    clear hS
    go_wp2_with (first | (refine wpl_storew rfl _ (.tmp 14) _ rfl rfl rfl (Blk.mk_alloc (vs := List.replicate 32 (.int .u8 0)) rfl rfl) agg_apisum (by simp) HLF.out olf ?_))
    intro wD bD uD
    have eD : Ext wC0 wD := uD.ext ((Ext.refl wC0).alloc _) (Nat.le_refl _)
    have SD := hid bD
    have KD := hid (KC.out.ext eD)
    have PD := hid (PC.out.ext eD)
    have ZD := hid (ZC.out.ext eD)
    have ED := hid (EC.out.ext eD)
    clear eD KC PC ZC EC
    clear uD bD
    generalize wC0.heap.size = g9 at *
    go_wp2_with (first | (refine wpl_loadp rfl 22 _ rfl rfl PD.out agg_lev HLE.out HLV.out ?_))
    refine (hmk.out _).mono ?_
    rintro e wE ⟨rfl, eE⟩
    have KE := hid (KD.out.ext eE)
    have PE := hid (PD.out.ext eE)
    have ZE := hid (ZD.out.ext eE)
    have SE := hid (SD.out.ext eE)
    have EE := hid (ED.out.ext eE)
    clear eE KD PD ZD SD ED
    clear hmk HLE HLV
    have c32 : wE.cell? ⟨w.heap.size + 4, 32, none⟩ = some (.slice a n c) := PE.out.cell' HAT.out
    by_cases hnm : n = M
    · have hS := HS.out
      rw [if_pos hnm] at hS
      clear HS hdis
      subst hnm
      have g1 : decide ((n : Int) > (n : Int)) = false := decide_eq_false (by omega)
      have g2 : decide ((n : Int) < (n : Int)) = false := decide_eq_false (by omega)
      have hupz := hid (fun w' h => hup.out lf w' hlfl.out (Nat.le_refl _) h)
      have hul := hupl.out lf hlfl.out
      rw [hS] at hul hupz
      have HSL : Hid ((S.map u8v).length = 32) := hid (by rw [List.length_map, hul])
      have os := one_u8 S
      clear hS hul hup hupl
      go_wp2_with (first | (refine wpl_loadw rfl 32 (.tmp 6) rfl rfl KE.out agg_apisum HK.out ?_) | (refine wpl_loadw rfl 32 (.tmp 14) rfl rfl SE.out agg_apisum HLF.out ?_) | (refine wpl_loadw rfl 62 (.tmp 9) rfl rfl PE.out agg_mproof HL33.out ?_))
      refine (hupz.out _ (HC.out.ext EE.out)).mono ?_
      rintro e wU ⟨rfl, eU⟩
      have ZU := hid (ZE.out.ext eU)
      have EU := hid (EE.out.ext eU)
      clear eU ZE EE
      go_wp2_with (first | (refine wpl_storew rfl _ (.tmp 10) _ rfl rfl rfl ZU.out agg_apisum HZ.out HSL.out os ?_))
      intro w4 b4 u4
      go_wp2
      exact ret_row2 rfl rfl b4 agg_apisum HSL.out rfl ⟨rfl, u4.ext EU.out (by omega)⟩
    · obtain ⟨hn2, hne, hdt⟩ := hdis.resolve_left hnm
      have hS := HS.out
      rw [if_neg hnm] at hS
      obtain ⟨o, ho⟩ : ∃ o, ls[M]? = some o := ⟨ls[M]'(by rw [HN.out]; omega), by simp⟩
      obtain ⟨u, hu⟩ : ∃ u, ls[M + 1]? = some u := ⟨ls[M + 1]'(by rw [HN.out]; omega), by simp⟩
      have hol : o.length = 32 := H32.out.at ho
      have hul : u.length = 32 := H32.out.at hu
      obtain ⟨A, rfl, hca, hcb⟩ : ∃ A, a = some A ∧ CellsAt w (A.add (M * 32)) (o.map u8v) ∧ CellsAt w (A.add ((M + 1) * 32)) (u.map u8v) := by
        cases a with
        | none => rcases HC.out with h | ⟨_, _, h, _⟩
                  · have := rows_length H32.out; rw [h, HN.out] at this; simp at this; omega
                  · cases h
        | some A => exact ⟨A, rfl, HC.out.rowAt H32.out ho, HC.out.rowAt H32.out hu⟩
      have hS2 : upL lv k ls D (downL k D (difL o k) (sideL k (difL o k) lf (mleafL o u))) = S := by rw [ho, hu] at hS; exact hS
      have hne2 : o ≠ k := by rw [ho] at hne; exact hne
      have hdt2 : D ≤ difL o k := by rw [ho] at hdt; exact hdt
      have hdl := difL_lt hol HKL.out hne2
      have HO := hid (show (o.map u8v).length = 32 by rw [List.length_map, hol])
      have HU := hid (show (u.map u8v).length = 32 by rw [List.length_map, hul])
      have oo := one_u8 o
      have hdf := hid (fun w' => differs_c o k w' hol HKL.out)
      have hl2 := hid (fun w' => single_c o u w' hol hul)
      have hl2l := mleafL_length o u
      have hsdz := hid (fun i s w' hs h => side_c k s zero32 i w' HKL.out hs zero32_len h)
      clear hS HS hne hdt hnm hne2 ho hu hdis
      generalize mleafL o u = l2 at *
      generalize difL o k = t at *
      have hsd := hid (fun w' => side_c k lf l2 t w' HKL.out hlfl.out hl2l hdl)
      have hsl := hid (sideL_length k t lf l2)
      have HQ := hid (show ((sideL k t lf l2).map u8v).length = 32 by rw [List.length_map, hsl.out])
      have oq := one_u8 (sideL k t lf l2)
      generalize sideL k t lf l2 = q0 at *
      obtain ⟨F, hF⟩ : ∃ F, downL k D t q0 = F := ⟨_, rfl⟩
      rw [hF] at hS2
      have hFl : F.length = 32 := by rw [← hF]; exact downL_length _ _ hsl.out
      have hupz := hid (fun w' h => hup.out F w' hFl (by omega) h)
      have hul2 := hupl.out F hFl
      rw [hS2] at hul2 hupz
      have HSL : Hid ((S.map u8v).length = 32) := hid (by rw [List.length_map, hul2])
      have os := one_u8 S
      have HFV := hid (show (F.map u8v).length = 32 by rw [List.length_map, hFl])
      have HFE := hid hF
      obtain ⟨M1, hM1⟩ : ∃ M1, M1 = M + 1 := ⟨_, rfl⟩
      have hM1n : M1 < n := by omega
      have hMn : M < n := by omega
      rw [← hM1] at hcb
      have g1 : decide ((n : Int) > (M : Int)) = true := decide_eq_true (by omega)
      have g2 : decide ((M : Int) < (n : Int)) = true := decide_eq_true (by omega)
      have g3 : decide (M < n) = true := decide_eq_true hMn
      have hwm : IntKind.i64.wrap ((M : Int) + 1) = (M1 : Int) := by rw [IntWalk.i64_in _ (by omega)]; omega
      have HN2 := hid hn2
      have HCA := hid (hca.ext EE.out)
      have HCB := hid (hcb.ext EE.out)
      have HCB0 := hid hcb
      clear hca hcb hol hul hl2l hS2 hF hFl hul2 hup hupl hn2 hM1 H32 HN
      have hg10 : g9 < wE.heap.size := SE.out.lt
      go_wp2_with (first | (refine wpl_run rfl (exec_index (i := M) rfl rfl rfl Try.underlying29 size_apisum hMn wE) ?_) | (refine wpl_run rfl (exec_load_at rfl rfl HCA.out agg_apisum HO.out) ?_) | (refine wpl_storew rfl _ (.tmp 17) _ rfl rfl rfl (Blk.mk_alloc (vs := List.replicate 32 (.int .u8 0)) rfl rfl) agg_apisum (by simp) HO.out oo ?_))
      intro wF bF uF
      have eF : Ext wE wF := uF.ext ((Ext.refl wE).alloc _) (Nat.le_refl _)
      have OF := hid bF
      have HCBF := hid (HCB.out.ext eF)
      have KF := hid (KE.out.ext eF)
      have PF := hid (PE.out.ext eF)
      have ZF := hid (ZE.out.ext eF)
      have SF := hid (SE.out.ext eF)
      have EF := hid (EE.out.ext eF)
      clear eF KE PE ZE SE EE
      clear uF bF HCA HCB c32
      generalize wE.heap.size = g10 at *
      go_wp2_with (first | (refine wpl_loadw rfl 32 (.tmp 6) rfl rfl KF.out agg_apisum HK.out ?_) | (refine wpl_loadw rfl 32 (.tmp 17) rfl rfl OF.out agg_apisum HO.out ?_))
      refine (hdf.out _).mono ?_
      rintro e wG ⟨rfl, eG⟩
      have HCBG := hid (HCBF.out.ext eG)
      have KG := hid (KF.out.ext eG)
      have PG := hid (PF.out.ext eG)
      have ZG := hid (ZF.out.ext eG)
      have SG := hid (SF.out.ext eG)
      have OG := hid (OF.out.ext eG)
      have EG := hid (EF.out.ext eG)
      clear eG KF PF ZF SF OF EF
      clear HCBF hdf
      go_wp2_with fail
      obtain ⟨C, hC⟩ : ∃ C : World → Prop, C = Cls w wG [w.heap.size + 1, w.heap.size + 4, g9, g10, w.heap.size + 5] [] := ⟨_, rfl⟩
      have hC0 : ∀ w', C w' ↔ Cls w wG [w.heap.size + 1, w.heap.size + 4, g9, g10, w.heap.size + 5] [] w' := fun w' => by rw [hC]
      clear hC
      have HCC := hid hC0
      clear hC0
      have hCx : ∀ w w', C w → Ext w w' → C w' := fun w w' h1 h2 => (HCC.out w').2 (((HCC.out w).1 h1).ext h2)
      have hCA : C wG := (HCC.out _).2 (Cls.no_room EG.out (Kept.five KG.out.lt PG.out.lt SG.out.lt OG.out.lt ZG.out.lt))
      have e32 : ∀ w1, C w1 → w1.cell? ⟨w.heap.size + 4, 32, none⟩ = some (.slice (some A) n c) := fun w1 h1 => (((HCC.out w1).1 h1).blk PG.out (by simp)).cell' HAT.out
      have hcb : ∀ w1, C w1 → CellsAt w1 (A.add (M1 * 32)) (u.map u8v) := fun w1 h1 => HCB0.out.ext ((HCC.out w1).1 h1).base
      refine wp_region_w (S := C) (W := [12]) (by kernel_rfl) (hCx _ _ hCA (Ext.refl _).drew) (fun hS0 => ?_)
      refine w_take 0 (v := _) rfl (by kernel_rfl) (by kernel_rfl) (by kernel_rfl) (by kernel_rfl) (by kernel_rfl) (fun _ _ _ h => h) (yieldsI_loadw rfl 32 _ rfl rfl (fun w1 h => ((HCC.out w1).1 h).blk KG.out (by simp)) agg_apisum HK.out) hS0 ?_
      simp only [Act.put, List.setIfInBounds_toArray, List.set_cons_succ, List.set_cons_zero]
      refine w_pure 1 (v := ?tv1) rfl (by kernel_rfl) (by kernel_rfl) (by kernel_rfl) (fun _ _ _ h => h) (.inl ⟨rfl, ?ty1⟩) ?tr1
      case ty1 => (intro _ _; go_simp; try with_reducible rfl)
      case tr1 =>
      simp only [Act.put, List.setIfInBounds_toArray, List.set_cons_succ, List.set_cons_zero]
      refine w_take 2 (v := _) rfl (by kernel_rfl) (by kernel_rfl) (by kernel_rfl) (by kernel_rfl) (by kernel_rfl) (fun _ _ _ h => h) (yieldsI_loadw rfl 32 _ rfl rfl (fun w1 h => ((HCC.out w1).1 h).blk SG.out (by simp)) agg_apisum HLF.out) hS0 ?_
      simp only [Act.put, List.setIfInBounds_toArray, List.set_cons_succ, List.set_cons_zero]
      refine w_take 3 (v := _) rfl (by kernel_rfl) (by kernel_rfl) (by kernel_rfl) (by kernel_rfl) (by kernel_rfl) (fun _ _ _ h => h) (yieldsI_loadw rfl 32 _ rfl rfl (fun w1 h => ((HCC.out w1).1 h).blk OG.out (by simp)) agg_apisum HO.out) hS0 ?_
      simp only [Act.put, List.setIfInBounds_toArray, List.set_cons_succ, List.set_cons_zero]
      refine w_pure 4 (v := ?tv2) rfl (by kernel_rfl) (by kernel_rfl) (by kernel_rfl) (fun _ _ _ h => h) (.inl ⟨rfl, ?ty2⟩) ?tr2
      case ty2 => (intro _ _; go_simp; try with_reducible rfl)
      case tr2 =>
      simp only [Act.put, List.setIfInBounds_toArray, List.set_cons_succ, List.set_cons_zero]
      refine w_take 5 (v := ?tv3) rfl (by kernel_rfl) (by kernel_rfl) (by kernel_rfl) (by kernel_rfl) (by kernel_rfl) (fun _ _ _ h => h) (.inl ⟨rfl, ?ty3⟩) hS0 ?tr3
      case ty3 => (intro wq hwq; have hcq := (e32) wq hwq; go_simp; try with_reducible rfl)
      case tr3 =>
      simp only [Act.put, List.setIfInBounds_toArray, List.set_cons_succ, List.set_cons_zero]
      refine w_pure 6 (v := ?tv4) rfl (by kernel_rfl) (by kernel_rfl) (by kernel_rfl) (fun _ _ _ h => h) (.inl ⟨rfl, ?ty4⟩) ?tr4
      case ty4 => (intro _ _; go_simp; try with_reducible rfl)
      case tr4 =>
      simp only [Act.put, List.setIfInBounds_toArray, List.set_cons_succ, List.set_cons_zero]
      refine w_pure 7 (v := ?tv5) rfl (by kernel_rfl) (by kernel_rfl) (by kernel_rfl) (fun _ _ _ h => h) (.inl ⟨rfl, ?ty5⟩) ?tr5
      case ty5 => (intro _ _; go_simp; try with_reducible rfl)
      case tr5 =>
      simp only [Act.put, List.setIfInBounds_toArray, List.set_cons_succ, List.set_cons_zero]
      refine w_pure 8 (v := _) rfl (by kernel_rfl) (by kernel_rfl) (by kernel_rfl) (fun _ _ _ h => h) (yieldsI_run rfl (fun w1 _ => exec_index (i := M1) rfl rfl rfl Try.underlying29 size_apisum hM1n w1)) ?_
      simp only [Act.put, List.setIfInBounds_toArray, List.set_cons_succ, List.set_cons_zero]
      refine w_take 9 (v := _) rfl (by kernel_rfl) (by kernel_rfl) (by kernel_rfl) (by kernel_rfl) (by kernel_rfl) (fun _ _ _ h => h) (yieldsI_run rfl (fun w1 h => exec_load_at rfl rfl (hcb w1 h) agg_apisum HU.out)) hS0 ?_
      simp only [Act.put, List.setIfInBounds_toArray, List.set_cons_succ, List.set_cons_zero]
      clear hwm
      generalize wG.drew = wX at *
      refine w_one (i := 10) (by kernel_rfl) rfl (by kernel_rfl) hS0 ?_
      intro Q' hQ
      go_wp2_with fail
      refine (hl2.out _).mono ?_
      rintro e wY ⟨rfl, eq9⟩
      have hS9 := hCx _ _ hS0 eq9
      go_wp2_with fail
      refine hQ _ _ hS9 ?_
      clear hQ Q' hS0 eq9
      have hS0 := hS9
      clear hS9
      try dsimp only
      try simp only [Act.put, List.setIfInBounds_toArray, List.set_cons_succ, List.set_cons_zero]
      refine w_one (i := 11) (by kernel_rfl) rfl (by kernel_rfl) hS0 ?_
      intro Q' hQ
      go_wp2_with fail
      refine (hsd.out _).mono ?_
      rintro e wH ⟨rfl, eq9⟩
      have hS9 := hCx _ _ hS0 eq9
      go_wp2_with fail
      refine hQ _ _ hS9 ?_
      clear hQ Q' hS0 eq9
      have hS0 := hS9
      clear hS9
      try dsimp only
      try simp only [Act.put, List.setIfInBounds_toArray, List.set_cons_succ, List.set_cons_zero]
      have KH := hid (((HCC.out wH).1 hS0).blk KG.out (by simp))
      have PH := hid (((HCC.out wH).1 hS0).blk PG.out (by simp))
      have SH := hid (((HCC.out wH).1 hS0).blk SG.out (by simp))
      have ZH := hid (((HCC.out wH).1 hS0).blk ZG.out (by simp))
      have EH := hid ((HCC.out wH).1 hS0).base
      clear hS0 hCx hCA HCC e32 hcb KG PG SG ZG OG EG HCBG
      refine w_late (i := 12) (by kernel_rfl) rfl (by kernel_rfl) ?_
      intro Q' hQ
      go_wp2_with (refine wpl_storew rfl _ _ _ rfl rfl rfl SH.out agg_apisum HLF.out HQ.out oq ?_)
      intro wI bI uI
      go_wp2_with fail
      refine hQ _ _ trivial ?_
      clear hQ Q'
      have SI := hid bI
      have KI := hid (KH.out.upd uI (by omega))
      have PI := hid (PH.out.upd uI (by omega))
      have ZI := hid (ZH.out.upd uI (by omega))
      have EI := hid (uI.ext EH.out (by omega))
      clear uI KH PH ZH EH
      clear bI SH
      refine w_done (by kernel_rfl) ?_ _
      go_wp2
      go_loopw [19] (fun x wr => ∃ (i : Nat) (z : Int) (q : List UInt8), z + 1 = i ∧ D ≤ i ∧ i ≤ 256 ∧ x = .int .i64 z ∧ q.length = 32 ∧ downL k D i q = F ∧ Blk wr g9 (q.map u8v) 32 ∧ Blk wr (w.heap.size + 1) (k.map u8v) 32 ∧ Blk wr (w.heap.size + 4) vs 62 ∧ Blk wr (w.heap.size + 5) (zero32.map u8v) 32 ∧ Ext w wr) (fun x _ => ((intOf x) + 1).toNat)
      case atStart => exact ⟨t, (t : Int) - 1, q0, by omega, hdt2, by omega, by first | rfl | go_num, hsl.out, HFE.out, SI.out, KI.out, PI.out, ZI.out, EI.out⟩
      case round =>
        obtain ⟨i, z, q, hz, hDi, hi, rfl, hq, hdown, hS, hK, hP, hZ, hE⟩ := hrel
        have KW := hid hK
        have SW := hid hS
        have PW := hid hP
        have ZW := hid hZ
        have EW := hid hE
        clear hK hS hP hZ hE SI KI PI ZI EI HFE hsl HQ oq hsd
        have HQ := hid (show (q.map u8v).length = 32 by rw [List.length_map, hq])
        by_cases hlt : D < i
        · obtain ⟨j, rfl⟩ : ∃ j, i = j + 1 := ⟨i - 1, by omega⟩
          obtain rfl : z = (j : Int) := by omega
          have hst : downL k D (j + 1) q = downL k D j (sideL k j q zero32) := by simp only [downL]; rw [if_pos (by omega)]
          rw [hst] at hdown
          have h1 := hid (fun w' => hsdz.out j q w' hq (by omega))
          have hql := hid (sideL_length k j q zero32)
          generalize sideL k j q zero32 = q2 at *
          have HQ2 := hid (show (q2.map u8v).length = 32 by rw [List.length_map, hql.out])
          have oq2 := one_u8 q2
          have HDN := hid hdown
          have g4 : decide ((j : Int) ≥ (D : Int)) = true := decide_eq_true (by omega)
          have g5 : decide ((D : Int) ≤ (j : Int)) = true := decide_eq_true (by omega)
          have g6 : decide (D ≤ j) = true := decide_eq_true (by omega)
          clear hst hdown hq
          go_wp2_with (first | (refine wpl_loadw rfl 32 (.tmp 6) rfl rfl KW.out agg_apisum HK.out ?_) | (refine wpl_loadw rfl 32 (.tmp 14) rfl rfl SW.out agg_apisum HQ.out ?_))
          refine (h1.out _).mono ?_
          rintro e wJ ⟨rfl, eJ⟩
          have KJ := hid (KW.out.ext eJ)
          have PJ := hid (PW.out.ext eJ)
          have ZJ := hid (ZW.out.ext eJ)
          have SJ := hid (SW.out.ext eJ)
          have EJ := hid (EW.out.ext eJ)
          clear eJ KW PW ZW SW EW
          go_wp2_with (refine wpl_storew rfl _ _ _ rfl rfl rfl SJ.out agg_apisum HQ.out HQ2.out oq2 ?_)
          intro wL bL uL
          have SL := hid bL
          have KL := hid (KJ.out.upd uL (by omega))
          have PL := hid (PJ.out.upd uL (by omega))
          have ZL := hid (ZJ.out.upd uL (by omega))
          have EL := hid (uL.ext EJ.out (by omega))
          clear uL KJ PJ ZJ EJ
          go_wp2
          go_roundw
          case rel => exact ⟨j, (j : Int) - 1, q2, by omega, by omega, by omega, by first | rfl | go_num, hql.out, HDN.out, SL.out, KL.out, PL.out, ZL.out, EL.out⟩
          case measure => first | (simp [intOf]; done) | (simp [intOf]; omega)
        · obtain rfl : i = D := by omega
          rw [downL_self] at hdown
          subst hdown
          have g4 : decide (z ≥ (i : Int)) = false := decide_eq_false (by omega)
          have g5 : decide ((i : Int) ≤ z) = false := decide_eq_false (by omega)
          clear hsdz hq
          go_wp2_with (first | (refine wpl_loadw rfl 32 (.tmp 6) rfl rfl KW.out agg_apisum HK.out ?_) | (refine wpl_loadw rfl 32 (.tmp 14) rfl rfl SW.out agg_apisum HQ.out ?_) | (refine wpl_loadw rfl 62 (.tmp 9) rfl rfl PW.out agg_mproof HL33.out ?_))
          refine (hupz.out _ (HC.out.ext EW.out)).mono ?_
          rintro e wU ⟨rfl, eU⟩
          have ZU := hid (ZW.out.ext eU)
          have EU := hid (EW.out.ext eU)
          clear eU ZW EW
          go_wp2_with (first | (refine wpl_storew rfl _ (.tmp 10) _ rfl rfl rfl ZU.out agg_apisum HZ.out HSL.out os ?_))
          intro w4 b4 u4
          go_wp2
          exact ret_row2 rfl rfl b4 agg_apisum HSL.out rfl ⟨rfl, u4.ext EU.out (by omega)⟩
  · rw [if_neg ht0] at hS
    subst hS
    have g1 : (aE != 0) = true := by simp [ht0]
    go_wp2_with (first | (refine wpl_storew rfl _ (.tmp 10) _ rfl rfl rfl ZB.out agg_apisum HZ.out (xs := List.replicate 32 (.int .u8 0)) (by simp) (one_zeros 32) ?_))
    intro w4 b4 u4
    have b5 : Blk w4 (w.heap.size + 5) (zero32.map u8v) 32 := by rw [zero32_map]; exact b4
    go_wp2
    exact ret_row2 rfl rfl b5 agg_apisum HZ.out rfl ⟨rfl, u4.ext EB.out (by omega)⟩

theorem changed_c (root k old v lv : List UInt8) (ls : List (List UInt8)) (a : Option Addr) (n c : Nat) (w : World) (hr : root.length = 32) (hk : k.length = 32) (ho : old.length = 32) (hv : v.length = 32) (hlv : lv.length = 32) (hn : ls.length = n) (hn63 : n ≤ 9223372036854775807) (h32 : All32 ls) (hcl : Cells w a (rows ls)) :
    Calls Try.prog 33 #[.agg (root.map u8v).toArray, .agg (k.map u8v).toArray, .agg (old.map u8v).toArray, .agg (v.map u8v).toArray, .agg (mpL lv (.slice a n c)).toArray] w fun e w' => e = .returned (.tuple #[.agg ((changedS root k old v lv ls).map u8v).toArray, .int .i64 (changedE root k old v lv ls)]) ∧ Ext w w' := by
  cases hvz : (v == zero32) with
  | true => exact changed_old_c root k old v lv ls a n c w hr hk ho hv hlv hn hn63 h32 hcl (.inl hvz)
  | false =>
    cases hoz : (old == zero32) with
    | false => exact changed_old_c root k old v lv ls a n c w hr hk ho hv hlv hn hn63 h32 hcl (.inr hoz)
    | true => exact changed_new_c root k old v lv ls a n c w hr hk ho hv hlv hn hn63 h32 hcl hvz hoz
end

section
open Go Go.RowKit

theorem fields_entry : (Try.prog.underlying 51).bind (fun d => match d with | .struct fields => fields.toList.mapM (fun f => (Try.prog.info? f.type).map fun i => (f.offset, i.size)) | _ => none) = some [(0, 32), (32, 32)] := by kernel_rfl
theorem fill_two (cells : Array Value) (x y : Value) : Instr.fill (fun i => [(0, 32), (32, 32)].toArray[i]?) cells [(0, x), (1, y)] = Instr.fill (fun i => some (i * 32, 32)) cells [(0, x), (1, y)] := by
  simp only [Instr.fill]
  rfl
theorem built_entry (x y : List UInt8) (hx : x.length = 32) (hy : y.length = 32) : Try.prog.built 51 [(0, .agg (x.map u8v).toArray), (1, .agg (y.map u8v).toArray)] = some ((x ++ y).map u8v).toArray := by
  obtain ⟨i0, hi, hz, hsz, hb1⟩ := info_parts info_entry
  have hf := fields_entry
  rw [Try.underlying51] at hf
  simp only [Option.bind_some] at hf
  unfold Program.built
  rw [hi, Try.underlying51]
  simp only [hz, hf]
  rw [fill_two]
  have h := Great.fill_whole (s := 32) (by omega) [.agg (x.map u8v).toArray, .agg (y.map u8v).toArray] (Value.agg (List.replicate 64 (.int .u8 0)).toArray).cells (by intro v hv; simp only [List.mem_cons, List.not_mem_nil, or_false] at hv; rcases hv with rfl | rfl <;> simp [Value.cells, hx, hy]) (by rw [zentry_size]; rfl)
  simpa [Value.cells] using h
theorem exec_entry {o : Oper} {a : Act} {p q : Operand} {x y : List UInt8} (ho : o.op = .build 51 #[(0, p), (1, q)]) (hp : a.eval p = .agg (x.map u8v).toArray) (hq : a.eval q = .agg (y.map u8v).toArray) (hx : x.length = 32) (hy : y.length = 32) (w : World) :
    (execOp a.eval o).run Try.prog w = .ok (.value (.agg ((x ++ y).map u8v).toArray)) w := by
  have h := run_build (P := Try.prog) w 51 #[(0, .agg (x.map u8v).toArray), (1, .agg (y.map u8v).toArray)] _ (built_entry x y hx hy)
  have he : (#[(0, p), (1, q)].map fun (r : Nat × Operand) => (r.1, a.eval r.2)) = #[(0, .agg (x.map u8v).toArray), (1, .agg (y.map u8v).toArray)] := by simp [hp, hq]
  unfold execOp
  simp only [ho, Sem.run_bind]
  have h2 : (Instr.build 51 (#[(0, p), (1, q)].map fun (r : Nat × Operand) => (r.1, a.eval r.2))).run Try.prog w = .ok (.agg ((x ++ y).map u8v).toArray) w := by rw [he]; exact h
  rw [h2]
  rfl
theorem wpl_entries {ops : Array Oper} {rest : List Oper} {o : Oper} {a : Act} {w : World} {Q : Exit → Act → World → Prop} (hgd : o.guard = none) {p q : Operand} {x y : List UInt8} (ho : o.op = .buildSlice 43 2 #[(0, p), (1, q)]) (hp : a.eval p = .agg (x.map u8v).toArray) (hq : a.eval q = .agg (y.map u8v).toArray) (hx : x.length = 64) (hy : y.length = 64)
    (h : wpList Try.prog ops Q rest (a.put o.dst (.slice (some ⟨w.heap.size, 0, none⟩) 2 2)) (w.alloc (.cells (rows [x, y]).toArray 51))) : wpList Try.prog ops Q (o :: rest) a w := by
  obtain ⟨i0, hi, hz, hsz, hb1⟩ := info_parts info_entry
  refine wpl_step hgd ?_ h
  have hf : ∀ cells : Array Value, cells.size = 128 → Instr.fill (fun i => some (i * 64, 64)) cells [(0, .agg (x.map u8v).toArray), (1, .agg (y.map u8v).toArray)] = some (rows [x, y]).toArray := by
    intro cells hc
    have h := Great.fill_whole (s := 64) (by omega) [.agg (x.map u8v).toArray, .agg (y.map u8v).toArray] cells (by intro v hv; simp only [List.mem_cons, List.not_mem_nil, or_false] at hv; rcases hv with rfl | rfl <;> simp [Value.cells, hx, hy]) (by simp [hc])
    simpa [Value.cells, rows] using h
  have h1 := run_buildSlice (P := Try.prog) w 43 51 2 #[(0, .agg (x.map u8v).toArray), (1, .agg (y.map u8v).toArray)] (rows [x, y]).toArray i0 _ Try.underlying43 hi hz (by rw [hsz]; omega) (by rw [hsz]; omega) (by rw [hsz]; exact hf _ (by simp))
  have he : (#[(0, p), (1, q)].map fun (r : Nat × Operand) => (r.1, a.eval r.2)) = #[(0, .agg (x.map u8v).toArray), (1, .agg (y.map u8v).toArray)] := by simp [hp, hq]
  have h2 : (Instr.buildSlice 43 2 (#[(0, p), (1, q)].map fun (r : Nat × Operand) => (r.1, a.eval r.2))).run Try.prog w = .ok (.slice (some ⟨w.heap.size, 0, none⟩) 2 2) (w.alloc (.cells (rows [x, y]).toArray 51)) := by rw [he]; exact h1
  unfold execOp
  simp only [ho, Sem.run_bind]
  rw [h2]
  rfl
end

section
open Go Go.RowKit
end

section
open Go Go.RowKit
end

section
open Go Go.RowKit

noncomputable def keyL (n : Int) : List UInt8 := Classical.choose (key_ex n)
theorem keyL_len (n : Int) : (keyL n).length = 32 := (Classical.choose_spec (key_ex n)).1
theorem key_c (n : Int) (w : World) : Calls Try.prog 31 #[.int .i64 n] w fun e w' => e = .returned (.agg ((keyL n).map u8v).toArray) ∧ Ext w w' := (Classical.choose_spec (key_ex n)).2 w

set_option maxRecDepth 100000 in
set_option maxHeartbeats 1000000 in
theorem eclos_c (y k : List UInt8) (q : Nat) (w : World) (hy : y.length = 64) (hk : k.length = 32) (hb : Blk w q (k.map u8v) 32) :
    Calls Try.prog 56 #[.agg (y.map u8v).toArray, .pointer (some ⟨q, 0, none⟩)] w fun e w' => e = .returned (.bool (y.take 32 == k)) ∧ Ext w w' := by
  have HB := hid hb
  have hyl := hid (show 0 + 32 ≤ (y.map u8v).length by rw [List.length_map]; omega)
  have HY0 := hid (show ((y.map u8v).drop 0).take 32 = (y.take 32).map u8v by rw [List.drop_zero, List.map_take])
  have HK := hid (show (k.map u8v).length = 32 by rw [List.length_map]; exact hk)
  have HEQ := hid (fun w => eq_arr Try.underlying32 (y.take 32) k (by rw [List.length_take]; omega) hk w)
  clear hb hy hk
  go_enter Try.func56, Try.ntmps56
  go_upto_region 1 with (fail)
  generalize hwA : World.alloc w _ = wA
  have yA : Blk wA w.heap.size (y.map u8v) 51 := by rw [← hwA]; exact Blk.mk_alloc rfl rfl
  have eA : Ext w wA := by rw [← hwA]; exact (Ext.refl w).alloc _
  clear hwA
  have YA := hid yA
  have EA := hid eA
  have BA := hid (HB.out.ext eA)
  clear yA eA
  go_wp2_with (first | (refine wpl_loadp rfl 32 (.tmp 4) rfl rfl YA.out agg_apisum hyl.out HY0.out ?_) | (refine wpl_loadw rfl 32 (.tmp 1) rfl rfl BA.out agg_apisum HK.out ?_) | (refine wpg_cmp rfl .eql _ _ _ _ rfl rfl rfl guard_sum HEQ.out ?_))
  go_ret
  exact ⟨rfl, EA.out⟩
set_option maxRecDepth 100000 in
set_option maxHeartbeats 1000000 in
theorem eclos2_c (y k : List UInt8) (q : Nat) (w : World) (hy : y.length = 64) (hk : k.length = 32) (hb : Blk w q (k.map u8v) 32) :
    Calls Try.prog 36 #[.agg (y.map u8v).toArray, .pointer (some ⟨q, 0, none⟩)] w fun e w' => e = .returned (.bool (y.take 32 == k)) ∧ Ext w w' := by
  have HB := hid hb
  have hyl := hid (show 0 + 32 ≤ (y.map u8v).length by rw [List.length_map]; omega)
  have HY0 := hid (show ((y.map u8v).drop 0).take 32 = (y.take 32).map u8v by rw [List.drop_zero, List.map_take])
  have HK := hid (show (k.map u8v).length = 32 by rw [List.length_map]; exact hk)
  have HEQ := hid (fun w => eq_arr Try.underlying32 (y.take 32) k (by rw [List.length_take]; omega) hk w)
  clear hb hy hk
  go_enter Try.func36, Try.ntmps36
  go_upto_region 1 with (fail)
  generalize hwA : World.alloc w _ = wA
  have yA : Blk wA w.heap.size (y.map u8v) 51 := by rw [← hwA]; exact Blk.mk_alloc rfl rfl
  have eA : Ext w wA := by rw [← hwA]; exact (Ext.refl w).alloc _
  clear hwA
  have YA := hid yA
  have EA := hid eA
  have BA := hid (HB.out.ext eA)
  clear yA eA
  go_wp2_with (first | (refine wpl_loadp rfl 32 (.tmp 4) rfl rfl YA.out agg_apisum hyl.out HY0.out ?_) | (refine wpl_loadw rfl 32 (.tmp 1) rfl rfl BA.out agg_apisum HK.out ?_) | (refine wpg_cmp rfl .eql _ _ _ _ rfl rfl rfl guard_sum HEQ.out ?_))
  go_ret
  exact ⟨rfl, EA.out⟩

def ixI : Option Nat → Int
  | some i => (i : Int)
  | none => -1
theorem findIdx_take {α : Type} {p : α → Bool} {l : List α} {k : Nat} {x : α} (h : (l.take k).any p = false) (hx : l[k]? = some x) (hp : p x = true) : l.findIdx? p = some k := by
  obtain ⟨hk, rfl⟩ := List.getElem?_eq_some_iff.1 hx
  rw [List.findIdx?_eq_some_iff_getElem]
  refine ⟨hk, hp, fun j hj => ?_⟩
  have hm : l[j] ∈ l.take k := by
    rw [List.mem_take_iff_getElem]
    exact ⟨j, by omega, rfl⟩
  have := List.any_eq_false.1 h _ hm
  simpa using this

set_option maxRecDepth 100000 in
set_option maxHeartbeats 1000000 in
theorem indexFE_c (p : List UInt8 → Bool) (g : Nat) (lb : Array Value) (es : List (List UInt8)) (a : Option Addr) (n c : Nat) (w : World) (eg : ∀ args w, (callFunc g args).run Try.prog w = .ok (.enter g args) w) (hn : es.length = n) (hb63 : n ≤ 1000000) (h64 : All64 es) (hx : Cells w a (rows es))
    (hp : ∀ y ∈ es, ∀ w', Ext w w' → Calls Try.prog g (#[.agg (y.map u8v).toArray] ++ lb) w' fun e w'' => e = .returned (.bool (p y)) ∧ Ext w' w'') :
    Calls Try.prog 55 #[.slice a n c, .func (.func g) #[] lb] w fun e w' => e = .returned (.int .i64 (ixI (es.findIdx? p))) ∧ Ext w w' := by
  have HN := hid hn
  have HX := hid hx
  have HP := hid hp
  have H64 := hid h64
  obtain ⟨Z, hZ⟩ : ∃ Z, ixI (es.findIdx? p) = Z := ⟨_, rfl⟩
  rw [hZ]
  have HZ := hid hZ
  clear hn hx hp h64 hZ
  go_enter Try.func55, Try.ntmps55
  go_wp2
  go_loopw [8] (fun i wr => ∃ k : Nat, k ≤ n ∧ i = .int .i64 (k : Int) ∧ (es.take k).any p = false ∧ Ext w wr) (fun i _ => n - (intOf i).toNat)
  case atStart => exact ⟨0, by omega, rfl, by simp, Ext.refl _⟩
  case round =>
    obtain ⟨k, hk, rfl, hpre, e1⟩ := hrel
    have E1 := hid e1
    have HPR := hid hpre
    clear e1 hpre
    by_cases hlt : k < n
    · obtain ⟨x, hxk⟩ : ∃ x, es[k]? = some x := ⟨es[k]'(by rw [HN.out]; exact hlt), by simp⟩
      have hx0 := H64.out.at hxk
      obtain ⟨A, rfl, hca⟩ : ∃ A, a = some A ∧ CellsAt w (A.add (k * 64)) (x.map u8v) := by
        cases a with
        | none => rcases HX.out with h | ⟨_, _, h, _⟩
                  · have := rows_length64 H64.out; rw [h, HN.out] at this; simp at this; omega
                  · cases h
        | some A => exact ⟨A, rfl, HX.out.rowAt64 H64.out hxk⟩
      have HCA := hid (hca.ext E1.out)
      have HXV : Hid ((x.map u8v).length = 64) := hid (by rw [List.length_map, hx0])
      have hcall := hid (HP.out x (List.mem_of_getElem? hxk) wr E1.out)
      have hstep : (es.take (k + 1)).any p = p x := by rw [List.take_add_one, hxk, List.any_append, HPR.out]; simp
      have HS := hid hstep
      have hfind : p x = true → Z = (k : Int) := fun h => by rw [← HZ.out, findIdx_take HPR.out hxk h]; rfl
      clear hca hxk hstep hx0
      cases hq : p x with
      | true =>
        rw [hq] at hcall
        have HR := hid (hfind hq)
        clear hfind hq HS
        go_wp2_with (first | (refine wpl_run rfl (exec_index (i := k) rfl rfl rfl Try.underlying43 size_entry hlt _) ?_) | (refine wpl_run rfl (exec_load_at rfl rfl HCA.out agg_entry HXV.out) ?_))
        refine hcall.out.mono ?_
        rintro e w' ⟨rfl, e2⟩
        go_wp2_with fail
        go_ret
        exact ⟨by rw [HR.out]; rfl, E1.out.ext e2⟩
      | false =>
        rw [hq] at hcall HS
        clear hfind hq
        go_wp2_with (first | (refine wpl_run rfl (exec_index (i := k) rfl rfl rfl Try.underlying43 size_entry hlt _) ?_) | (refine wpl_run rfl (exec_load_at rfl rfl HCA.out agg_entry HXV.out) ?_))
        refine hcall.out.mono ?_
        rintro e w' ⟨rfl, e2⟩
        go_wp2_with fail
        have E2 := hid (E1.out.ext e2)
        clear e2
        go_roundw
        case rel => exact ⟨k + 1, by omega, by go_num, HS.out, E2.out⟩
        case measure => simp [intOf]; omega
    · obtain rfl : k = n := by omega
      have hres := HPR.out
      rw [List.take_of_length_le (by rw [HN.out]; exact Nat.le_refl _)] at hres
      have hnone : es.findIdx? p = none := by
        rw [List.findIdx?_eq_none_iff]
        intro x hx
        have := List.any_eq_false.1 hres x hx
        simpa using this
      have HR := hid (show Z = -1 by rw [← HZ.out, hnone]; rfl)
      clear hres hnone
      go_wp2_with fail
      go_ret
      exact ⟨by rw [HR.out]; rfl, E1.out⟩

theorem enters_e1 : ∀ args w, (callFunc 56 args).run Try.prog w = .ok (.enter 56 args) w := enters_of Try.func56 (by kernel_rfl) rfl
theorem enters_e2 : ∀ args w, (callFunc 36 args).run Try.prog w = .ok (.enter 36 args) w := enters_of Try.func36 (by kernel_rfl) rfl
theorem find_ents {hs : List Ent} (h : Ents hs) (k : List UInt8) : (entsL hs).findIdx? (fun y => y.take 32 == k) = ixK k hs := by
  unfold entsL ixK
  rw [List.findIdx?_map]
  have hp : ∀ (l : List Ent), (∀ p ∈ l, p.1.length = 32) → l.findIdx? ((fun y => y.take 32 == k) ∘ fun p => p.1 ++ p.2) = l.findIdx? (fun p => p.1 == k) := by
    intro l
    induction l with
    | nil => intro _; rfl
    | cons p l ih =>
      intro hl
      have e : ((fun y => y.take 32 == k) ∘ fun (p : Ent) => p.1 ++ p.2) p = (p.1 == k) := by
        show ((p.1 ++ p.2).take 32 == k) = _
        rw [List.take_append_of_le_length (by rw [hl p (by simp)]; exact Nat.le_refl _), List.take_of_length_le (by rw [hl p (by simp)]; exact Nat.le_refl _)]
      rw [List.findIdx?_cons, List.findIdx?_cons, e, ih (fun q hq => hl q (List.mem_cons_of_mem _ hq))]
  exact hp hs h.k32
end

section
open Go Go.RowKit

theorem Blk.kept {w w' : World} {g : Nat} {vs : List Value} {T : TypeId} (h : Blk w g vs T) (e : w'.heap[g]? = w.heap[g]?) : Blk w' g vs T := e.trans h
theorem gby_andThen {a b c : World} {q : Nat} (e : Ext a b) (k : b.grownBy c (some q)) : a.grownBy c (some q) := (gby_ext (gby_self a (some q)) e).andThen k (fun j hj => .inr hj)
theorem own_block {w : World} {B q : Nat} {e : TypeId} {z n cap : Nat} {xs : List Value} (h : w.ownsRow B e z (.slice (some ⟨q, 0, none⟩) n cap) n xs) :
    ∃ rest, Blk w q (xs ++ rest) e ∧ (xs ++ rest).length = cap * z ∧ xs.length = n * z ∧ B ≤ q ∧ n ≤ cap ∧ cap ≤ maxLen := by
  obtain ⟨hl, h⟩ := h
  rcases h with ⟨hv, rfl⟩ | ⟨g, c2, cur, hv, hb, hg, h1, h2, h3, h4⟩
  · cases hv
  · cases hv
    refine ⟨cur.toList.drop (n * z), ?_, ?_, hl, hb, h1, h2⟩
    · unfold Blk
      rw [← h4, List.take_append_drop]
      simpa using hg
    · rw [← h4, List.take_append_drop, Array.length_toList, h3]
theorem own_mk {w : World} {B q : Nat} {e : TypeId} {z n cap : Nat} {xs rest : List Value} (hb : Blk w q (xs ++ rest) e) (hl : (xs ++ rest).length = cap * z) (hx : xs.length = n * z) (hB : B ≤ q) (hn : n ≤ cap) (hc : cap ≤ maxLen) :
    w.ownsRow B e z (.slice (some ⟨q, 0, none⟩) n cap) n xs :=
  ⟨hx, .inr ⟨q, cap, (xs ++ rest).toArray, rfl, hB, hb, hn, hc, by simpa using hl, by simp [← hx]⟩⟩

section
variable {P : Program} {ops : Array Oper} {rest : List Oper} {o : Oper} {a : Act} {w : World} {Q : Exit → Act → World → Prop}
theorem exec_slice3z {t e : TypeId} {x y z m : Operand} {p : Option Addr} {n c k h M s : Nat} (ho : o.op = .slice t x (some y) (some z) (some m)) (hx : a.eval x = .slice p n c) (hy : a.eval y = .int .i64 (k : Int)) (hz : a.eval z = .int .i64 (h : Int)) (hm : a.eval m = .int .i64 (M : Int)) (hu : P.underlying t = some (.slice e)) (hs : (P.info? e).map (·.size) = some s) (hk : k ≤ h) (hh : h ≤ M) (hM : M ≤ c)
    {q : Option Addr} (hq : shiftz p M k s = q) (w : World) : (execOp a.eval o).run P w = .ok (.value (.slice q (h - k) (M - k))) w := by
  subst hq
  have hr : (Instr.sliceAt t (.slice p n c) (some (.int .i64 (k : Int))) (some (.int .i64 (h : Int))) (some (.int .i64 (M : Int)))).run P w = .ok (.slice (shiftz p M k s) (h - k) (M - k)) w := by
    cases hq2 : P.info? e with
    | none => simp [hq2] at hs
    | some i =>
      have hi : i.size = s := by simpa [hq2] using hs
      simp [Instr.sliceAt, Instr.slice, Instr.sliceBounds, Instr.sliceBound, asIntOf, run_underlying hu, sizeOf, typeInfo, hq2, hi, hk, hh, hM, shiftz]
  unfold execOp
  simp only [ho, hx, hy, hz, hm, Option.map_some, Sem.run_bind]
  rw [hr]
  simp only [Result.andThen_ok, Sem.run_pure]
theorem exec_slice2z {t e : TypeId} {x y z : Operand} {p : Option Addr} {n c k h s : Nat} (ho : o.op = .slice t x (some y) (some z) none) (hx : a.eval x = .slice p n c) (hy : a.eval y = .int .i64 (k : Int)) (hz : a.eval z = .int .i64 (h : Int)) (hu : P.underlying t = some (.slice e)) (hs : (P.info? e).map (·.size) = some s) (hk : k ≤ h) (hc : h ≤ c)
    {q : Option Addr} (hq : shiftz p c k s = q) (w : World) : (execOp a.eval o).run P w = .ok (.value (.slice q (h - k) (c - k))) w := by
  subst hq
  have hr : (Instr.sliceAt t (.slice p n c) (some (.int .i64 (k : Int))) (some (.int .i64 (h : Int))) none).run P w = .ok (.slice (shiftz p c k s) (h - k) (c - k)) w := by
    cases hq2 : P.info? e with
    | none => simp [hq2] at hs
    | some i =>
      have hi : i.size = s := by simpa [hq2] using hs
      simp [Instr.sliceAt, Instr.slice, Instr.sliceBounds, Instr.sliceBound, asIntOf, run_underlying hu, sizeOf, typeInfo, hq2, hi, hk, hc, shiftz]
  unfold execOp
  simp only [ho, hx, hy, hz, Option.map_some, Option.map_none, Sem.run_bind]
  rw [hr]
  simp only [Result.andThen_ok, Sem.run_pure]
theorem wpl_append_fits (hgd : o.guard = none) (s x : Operand) (t e : TypeId) {i : TypeInfo} {size : Nat} (ho : o.op = .call { callee := .builtin .append, args := #[s, x], argTypes := #[t, t] }) (base : Nat) (hu : P.underlying t = some (.slice e)) (hi : P.info? e = some i) (hsz : i.size = size)
    {g n cap m c : Nat} {xs news : List Value} {ad : Addr} (hs : a.eval s = .slice (some ⟨g, 0, none⟩) n cap) (hx : a.eval x = .slice (some ad) m c) (hown : w.ownsRow base e size (.slice (some ⟨g, 0, none⟩) n cap) n xs) (hl : news.length = m * size) (hnews : ∀ j u, news[j]? = some u → w.cell? (ad.add j) = some u) (h1 : ∀ u ∈ news, u.oneCell' = true) (hroom : n + m ≤ cap)
    (h : ∀ w', w'.ownsRow base e size (.slice (some ⟨g, 0, none⟩) (n + m) cap) (n + m) (xs ++ news) → w.grownBy w' (some g) → wpList P ops Q rest (a.put o.dst (.slice (some ⟨g, 0, none⟩) (n + m) cap)) w') : wpList P ops Q (o :: rest) a w :=
  wpList_plain hgd fun K hK => by
    obtain ⟨w', hrun, r1, r2⟩ := run_append_fits (P := P) w base t o.type e i size hu hi hsz g n cap xs hown ad m c news hl hnews h1 hroom
    unfold Oper.wp
    simp [execOp, ho, resolve, invoke, builtin, hs, hx, hrun, Result.andThen]
    exact hK _ _ (h w' r1 r2)
end

theorem zcells64 (Z : Array Value) (hz : Z.size = 64) (h0 : ∀ i, i < 64 → Z[i]! = .int .u8 0) (n : Nat) : ((Builtin.zeroCells Z n).toList).length = n * 64 ∧ ∀ v ∈ (Builtin.zeroCells Z n).toList, v.oneCell' = true := by
  refine ⟨by simp [Builtin.zeroCells, hz], fun v hv => ?_⟩
  unfold Builtin.zeroCells at hv
  rw [Array.toList_map] at hv
  obtain ⟨i, _, rfl⟩ := List.mem_map.1 hv
  have h2 : i % 64 < 64 := Nat.mod_lt _ (by decide)
  rw [hz, h0 _ h2]
  rfl
theorem run_clear_entries {w : World} {g off m c : Nat} {vs : List Value} {T : TypeId} (hb : Blk w g vs T) (hm : 0 < m) (hfit : off + m * 64 ≤ vs.length) :
    ∃ zs, zs.length = m * 64 ∧ ∀ ty, (Builtin.clear_ #[43] ty #[.slice (some ⟨g, off, none⟩) m c]).run Try.prog w = .ok (.tuple #[]) (w.setRow g (splice vs off zs).toArray) := by
  obtain ⟨Z, hZ⟩ : ∃ Z : Array Value, Z = (List.replicate 64 (Value.int .u8 0)).toArray := ⟨_, rfl⟩
  have hz : Z.size = 64 := by rw [hZ]; simp
  have h0 : ∀ i, i < 64 → Z[i]! = .int .u8 0 := fun i hi => by rw [hZ, getElem!_pos _ _ (by simpa using hi), List.getElem_toArray, List.getElem_replicate]
  have hv : (zeroValue 51).run Try.prog w = .ok (.agg Z) w := by rw [hZ]; kernel_rfl
  obtain ⟨h1, h2⟩ := zcells64 Z hz h0 m
  clear hZ hz h0
  refine ⟨_, h1, fun ty => ?_⟩
  have hst := run_storeCells_at Try.prog g off T _ 0 vs.toArray w hb (by rw [h1]; simpa using hfit) h2
  simp only [Nat.add_zero, List.toList_toArray] at hst
  obtain ⟨k, rfl⟩ : ∃ k, m = k + 1 := ⟨m - 1, by omega⟩
  simp [Builtin.clear_, run_underlying Try.underlying43, hv, Value.cells, hst, splice]
theorem flat_take64 {ls : List (List UInt8)} (h : All64 ls) (k : Nat) : (rows ls).take (k * 64) = rows (ls.take k) := by
  induction k generalizing ls with
  | zero => simp [rows]
  | succ k ih =>
    cases ls with
    | nil => simp [rows]
    | cons x ls =>
      have hx : x.length = 64 := h x (by simp)
      have e : rows (x :: ls) = x.map u8v ++ rows ls := by simp [rows]
      have e2 : rows (x :: ls.take k) = x.map u8v ++ rows (ls.take k) := by simp [rows]
      rw [List.take_succ_cons, e, e2, ← ih (fun l hl => h l (List.mem_cons_of_mem _ hl)), List.take_append, List.take_of_length_le (by rw [List.length_map]; omega), List.length_map, hx, show (k + 1) * 64 - 64 = k * 64 by omega]
theorem flat_drop64 {ls : List (List UInt8)} (h : All64 ls) (k : Nat) : (rows ls).drop (k * 64) = rows (ls.drop k) := by
  induction k generalizing ls with
  | zero => simp
  | succ k ih =>
    cases ls with
    | nil => simp [rows]
    | cons x ls =>
      have hx : x.length = 64 := h x (by simp)
      have e : rows (x :: ls) = x.map u8v ++ rows ls := by simp [rows]
      rw [List.drop_succ_cons, e, ← ih (fun l hl => h l (List.mem_cons_of_mem _ hl)), List.drop_append, List.drop_of_length_le (by rw [List.length_map]; omega), List.nil_append, List.length_map, hx, show (k + 1) * 64 - 64 = k * 64 by omega]

set_option maxRecDepth 100000 in
set_option maxHeartbeats 2000000 in
theorem deleteE_c (es : List (List UInt8)) (B q n cap i : Nat) (w : World) (h64 : All64 es) (hn : es.length = n) (hi : i < n) (hn1 : n ≤ 1000) (own : w.ownsRow B 51 64 (.slice (some ⟨q, 0, none⟩) n cap) n (rows es)) :
    Calls Try.prog 58 #[.slice (some ⟨q, 0, none⟩) n cap, .int .i64 (i : Int), .int .i64 ((i + 1 : Nat) : Int)] w fun e w' =>
      e = .returned (.slice (some ⟨q, 0, none⟩) (n - 1) cap) ∧ w'.ownsRow B 51 64 (.slice (some ⟨q, 0, none⟩) (n - 1) cap) (n - 1) (rows (es.eraseIdx i)) ∧ w.grownBy w' (some q) := by
  obtain ⟨i0, hi0, hz0, hsz, hb1⟩ := info_parts info_entry
  have HI0 := hid hi0
  obtain ⟨rest, hb, hlen, hrl, hB, hnc, hcm⟩ := own_block own
  have HB := hid hb
  have ho1 := own_prefix own (k := i) (by omega) (by omega)
  rw [flat_take64 h64] at ho1
  have O1 := hid ho1
  have htd : rows (es.take i) ++ rows (es.drop (i + 1)) = rows (es.eraseIdx i) := by rw [← rows_append, List.eraseIdx_eq_take_drop_succ]
  have HTD := hid htd
  have hdl : (rows (es.drop (i + 1))).length = (n - (i + 1)) * 64 := by rw [rows_length64 (fun l hl => h64 l (List.mem_of_mem_drop hl)), List.length_drop, hn]; omega
  have HDL := hid hdl
  obtain ⟨qa, hqa⟩ : ∃ qa, shiftz (some ⟨q, 0, none⟩) cap (i + 1) 64 = some qa := by
    unfold shiftz
    split
    · exact ⟨_, rfl⟩
    · exact ⟨_, rfl⟩
  have hnews : ∀ w' : World, (w'.heap[q]? = w.heap[q]?) → ∀ j u, (rows (es.drop (i + 1)))[j]? = some u → w'.cell? (qa.add j) = some u := by
    intro w' hw j u hu
    have hj := (List.getElem?_eq_some_iff.1 hu).1
    rw [hdl] at hj
    have hne : ¬ cap = i + 1 := by intro h; have : n - (i + 1) = 0 := by omega
                                   rw [this] at hj; omega
    unfold shiftz at hqa
    rw [if_neg hne, Option.map_some, addr_add, Nat.zero_add] at hqa
    injection hqa with hqa
    rw [← hqa, addr_add]
    refine (Blk.kept hb hw).cell' ?_
    have h2 : (rows es)[(i + 1) * 64 + j]? = some u := by
      rw [← List.getElem?_drop, flat_drop64 h64]; exact hu
    rw [List.getElem?_append_left (List.getElem?_eq_some_iff.1 h2).1]
    exact h2
  have HNEWS := hid hnews
  have o1 := one_u8 (es.drop (i + 1)).flatten
  have HQA := hid hqa
  obtain ⟨q3, hq3⟩ : ∃ q3, shiftz (some ⟨q, 0, none⟩) n i 64 = q3 := ⟨_, rfl⟩
  have HQ3 := hid hq3
  have HQ2 := hid (show shiftz (some ⟨q, 0, none⟩) cap (n - 1) 64 = some ⟨q, (n - 1) * 64, none⟩ by
    unfold shiftz
    rw [if_neg (by omega), Option.map_some, addr_add, Nat.zero_add])
  have hw1 : IntKind.i64.wrap ((i : Int) + 1) = ((i + 1 : Nat) : Int) := by rw [IntWalk.i64_in _ (by omega)]; omega
  have hne : ((i : Int) == ((i + 1 : Nat) : Int)) = false := by simp; omega
  have hne2 : (i == i + 1) = false := by simp
  have hic : i ≤ cap := by omega
  have hin1 : i + 1 ≤ n := by omega
  clear own hb ho1 htd hdl hqa hnews hq3 hi0
  obtain ⟨i1, hi1⟩ : ∃ i1, i + 1 = i1 := ⟨_, rfl⟩
  rw [hi1] at HQA HTD HDL HNEWS hw1 hne hne2 hin1 o1 ⊢
  have HI1 := hid hi1
  have hii : i ≤ i1 := by omega
  clear hi1 h64 hrl
  go_enter Try.func58, Try.ntmps58
  go_wp2_with (first | (refine wpl_run rfl (exec_slice3z (k := i) (h := i1) (M := n) rfl rfl rfl rfl rfl Try.underlying43 size_entry hii hin1 hnc HQ3.out _) ?_))
  obtain ⟨C, hC⟩ : ∃ C : World → Prop, C = Cls w w [] [] := ⟨_, rfl⟩
  have hC0 : ∀ w', C w' ↔ Cls w w [] [] w' := fun w' => by rw [hC]
  clear hC
  have HCC := hid hC0
  clear hC0
  have hCx : ∀ w w', C w → Ext w w' → C w' := fun w w' h1 h2 => (HCC.out w').2 (((HCC.out w).1 h1).ext h2)
  have hCA : C w := (HCC.out _).2 (Cls.no_room (Ext.refl w) (Kept.none _))
  have hq0 : ∀ w1, C w1 → w1.heap[q]? = w.heap[q]? := fun w1 h1 => (((HCC.out w1).1 h1).base).block q HB.out.lt
  refine wp_region_w (S := C) (W := [6]) (by kernel_rfl) (hCx _ _ hCA (Ext.refl _).drew) (fun hS0 => ?_)
  refine w_pure 0 (v := ?tv1) rfl (by kernel_rfl) (by kernel_rfl) (by kernel_rfl) (fun _ _ _ h => h) (.inl ⟨rfl, ?ty1⟩) ?tr1
  case ty1 => (intro _ _; go_simp; try with_reducible rfl)
  case tr1 =>
  simp only [Act.put, List.setIfInBounds_toArray, List.set_cons_succ, List.set_cons_zero]
  refine w_pure 1 (v := ?tv2) rfl (by kernel_rfl) (by kernel_rfl) (by kernel_rfl) (fun _ _ _ h => h) (.inl ⟨rfl, ?ty2⟩) ?tr2
  case ty2 => (intro _ _; go_simp; try with_reducible rfl)
  case tr2 =>
  simp only [Act.put, List.setIfInBounds_toArray, List.set_cons_succ, List.set_cons_zero]
  refine w_pure 2 (v := _) rfl (by kernel_rfl) (by kernel_rfl) (by kernel_rfl) (fun _ _ _ h => h) (yieldsI_run rfl (fun w1 _ => exec_high (k := i) rfl rfl rfl Try.underlying43 size_entry hic w1)) ?_
  simp only [Act.put, List.setIfInBounds_toArray, List.set_cons_succ, List.set_cons_zero]
  refine w_pure 3 (v := ?tv3) rfl (by kernel_rfl) (by kernel_rfl) (by kernel_rfl) (fun _ _ _ h => h) (.inl ⟨rfl, ?ty3⟩) ?tr3
  case ty3 => (intro _ _; go_simp; try with_reducible rfl)
  case tr3 =>
  simp only [Act.put, List.setIfInBounds_toArray, List.set_cons_succ, List.set_cons_zero]
  refine w_pure 4 (v := ?tv4) rfl (by kernel_rfl) (by kernel_rfl) (by kernel_rfl) (fun _ _ _ h => h) (.inl ⟨rfl, ?ty4⟩) ?tr4
  case ty4 => (intro _ _; go_simp; try with_reducible rfl)
  case tr4 =>
  simp only [Act.put, List.setIfInBounds_toArray, List.set_cons_succ, List.set_cons_zero]
  refine w_pure 5 (v := _) rfl (by kernel_rfl) (by kernel_rfl) (by kernel_rfl) (fun _ _ _ h => h) (yieldsI_run rfl (fun w1 _ => exec_lowS (k := i1) HQA.out rfl rfl rfl Try.underlying43 size_entry hin1 w1)) ?_
  simp only [Act.put, List.setIfInBounds_toArray, List.set_cons_succ, List.set_cons_zero]
  have EG := hid (((HCC.out _).1 hS0).base)
  have HN2 := hid (HNEWS.out _ (hq0 _ hS0))
  have O2 := hid (own_keep O1.out (fun z hz => by cases hz; exact hq0 _ hS0))
  clear hS0 hq0 HNEWS O1 HB
  generalize w.drew = wG at *
  refine w_late (i := 6) (by kernel_rfl) rfl (by kernel_rfl) ?_
  intro Q' hQ
  go_wp2_with (at_builtin; refine wpl_append_fits rfl _ _ 43 51 rfl B Try.underlying43 HI0.out hsz rfl rfl O2.out HDL.out HN2.out o1 (by omega) ?_)
  intro w2 own2 gr2
  rw [HTD.out, show i + (n - i1) = n - 1 by have := HI1.out; omega] at own2
  have G2 := hid (gby_andThen EG.out gr2)
  obtain ⟨rest2, hb2, hlen2, hrl2, _, _, _⟩ := own_block own2
  clear O2 HN2 gr2 own2 EG
  go_wp2_with fail
  refine hQ _ _ trivial ?_
  clear hQ Q'
  refine w_pure 7 (v := ?tv5) rfl (by kernel_rfl) (by kernel_rfl) (by kernel_rfl) (fun _ _ _ h => h) (.inl ⟨rfl, ?ty5⟩) ?tr5
  case ty5 => (intro _ _; go_simp; try with_reducible rfl)
  case tr5 =>
  simp only [Act.put, List.setIfInBounds_toArray, List.set_cons_succ, List.set_cons_zero]
  refine w_done (by kernel_rfl) ?_ _
  have hsum : i + (n - i1) = n - 1 := by have := HI1.out; omega
  rw [hsum]
  obtain ⟨N, hN⟩ : ∃ N, n - 1 = N := ⟨_, rfl⟩
  rw [hN] at HQ2 hrl2 ⊢
  have HNN := hid hN
  clear hN
  obtain ⟨zs, hzl, hcl⟩ := run_clear_entries (c := cap - N) hb2 (show 0 < n - N by have := HNN.out; omega) (show N * 64 + (n - N) * 64 ≤ (rows (es.eraseIdx i) ++ rest2).length by rw [hlen2, ← Nat.add_mul]; exact Nat.mul_le_mul_right 64 (by have := HNN.out; omega))
  have hsp : splice (rows (es.eraseIdx i) ++ rest2) (N * 64) zs = rows (es.eraseIdx i) ++ (zs ++ (rows (es.eraseIdx i) ++ rest2).drop (N * 64 + zs.length)) := by
    unfold splice
    rw [List.take_append_of_le_length (by rw [hrl2]; exact Nat.le_refl _), List.take_of_length_le (by rw [hrl2]; exact Nat.le_refl _), List.append_assoc]
  have b3 := Blk.setRow hb2 (splice (rows (es.eraseIdx i) ++ rest2) (N * 64) zs)
  have u3 : Upd w2 q (w2.setRow q (splice (rows (es.eraseIdx i) ++ rest2) (N * 64) zs).toArray) := Upd.setRow _
  have hl3 : (splice (rows (es.eraseIdx i) ++ rest2) (N * 64) zs).length = cap * 64 := by
    unfold splice
    rw [List.length_append, List.length_append, List.length_take, List.length_drop, hlen2, hzl]
    have h1 : N * 64 + (n - N) * 64 ≤ cap * 64 := by rw [← Nat.add_mul]; exact Nat.mul_le_mul_right 64 (by have := HNN.out; omega)
    omega
  rw [hsp] at b3 u3 hl3
  simp only [hsp] at hcl
  have hcap : N ≤ cap := by have := HNN.out; omega
  have own3 := own_mk b3 hl3 hrl2 hB hcap hcm
  generalize w2.setRow q (rows (es.eraseIdx i) ++ (zs ++ (rows (es.eraseIdx i) ++ rest2).drop (N * 64 + zs.length))).toArray = w3 at *
  have G3 := hid (gby_upd G2.out u3)
  have O3 := hid own3
  have hNn : N ≤ n := by have := HNN.out; omega
  clear b3 u3 hsp hzl hl3 own3 hb2 hlen2 hrl2 G2
  go_wp2_with (first | (refine wpl_run rfl (exec_slice2z (k := N) (h := n) rfl rfl rfl rfl Try.underlying43 size_entry hNn hnc HQ2.out _) ?_) | (simp only [hcl]))
  go_ret
  have hN := HNN.out
  subst hN
  exact ⟨rfl, O3.out, G3.out⟩
end

section
open Go Go.RowKit Go.Maps Go.MapKept

structure StepR where
  kind : Int
  k : Int
  v : Int
def StepR.c (s : StepR) : List Value := [.int .i64 s.kind, .int .i64 s.k, .int .i64 s.v]
def stepsV (l : List StepR) : List Value := l.flatMap StepR.c
theorem stepsV_length (l : List StepR) : (stepsV l).length = 3 * l.length := by
  induction l with
  | nil => rfl
  | cons x l ih => simp only [stepsV, List.flatMap_cons, List.length_append, List.length_cons] at *; rw [ih]; simp [StepR.c]; omega
theorem stepsV_at {l : List StepR} {i : Nat} {x : StepR} (h : l[i]? = some x) {j : Nat} (hj : j < 3) : (stepsV l)[i * 3 + j]? = x.c[j]? := by
  induction l generalizing i with
  | nil => simp at h
  | cons y l ih =>
    have e : stepsV (y :: l) = y.c ++ stepsV l := by simp [stepsV]
    rw [e]
    cases i with
    | zero =>
      simp at h
      subst h
      rw [Nat.zero_mul, Nat.zero_add, List.getElem?_append_left (by simp [StepR.c]; omega)]
    | succ i =>
      rw [List.getElem?_cons_succ] at h
      rw [List.getElem?_append_right (by simp [StepR.c]; omega), show (i + 1) * 3 + j - y.c.length = i * 3 + j by simp [StepR.c]; omega]
      exact ih h
theorem steps_rowAt {w : World} {p : Addr} {l : List StepR} (h : Cells w (some p) (stepsV l)) {i : Nat} {x : StepR} (hx : l[i]? = some x) : CellsAt w (p.add (i * 3)) x.c := by
  have hc := CellsAt.of h
  intro j u hu
  have hj : j < 3 := by have := (List.getElem?_eq_some_iff.1 hu).1; simpa [StepR.c] using this
  have h1 := hc (i * 3 + j) u (by rw [stepsV_at hx hj]; exact hu)
  obtain ⟨b, o, rfl⟩ : ∃ b o, p = ⟨b, o, none⟩ := by
    rcases h with h | ⟨b, o, hp, _⟩
    · have := stepsV_length l
      rw [h] at this
      have hl := (List.getElem?_eq_some_iff.1 hx).1
      simp at this; omega
    · exact ⟨b, o, Option.some.inj hp⟩
  rw [addr_add, addr_add]
  rw [addr_add] at h1
  rw [Nat.add_assoc]
  exact h1
theorem agg_step : AggT Try.prog 93 3 := ⟨⟨_, Try.underlying93, rfl⟩, by kernel_rfl⟩
theorem size_step : (Try.prog.info? 93).map (·.size) = some 3 := by kernel_rfl
noncomputable def stepM (hs : List Ent) (s : StepR) : List Ent :=
  if s.kind = 0 then (if keyL s.v == zero32 then hs else setK hs (keyL s.k) (keyL s.v)) else if s.kind = 1 then delK hs (keyL s.k) else hs
noncomputable def foldM (l : List StepR) : List Ent := l.foldl stepM []
theorem stepM_ents {hs : List Ent} (h : Ents hs) (s : StepR) : Ents (stepM hs s) := by
  unfold stepM
  split
  · split
    · exact h
    · exact h.set (keyL_len _) (keyL_len _)
  · split
    · exact h.del _
    · exact h
theorem stepM_len (hs : List Ent) (s : StepR) : (stepM hs s).length ≤ hs.length + 1 := by
  unfold stepM
  split
  · split
    · omega
    · exact setK_len _ _ _
  · split
    · exact Nat.le_trans (delK_len _ _) (by omega)
    · omega
theorem foldM_next {l : List StepR} {k : Nat} {x : StepR} (h : l[k]? = some x) : foldM (l.take (k + 1)) = stepM (foldM (l.take k)) x := by
  unfold foldM
  rw [List.take_add_one, h, List.foldl_append]; rfl

theorem exec_entryZ {o : Oper} {a : Act} {p q : Operand} {x y z : List UInt8} (hz : x ++ y = z) (ho : o.op = .build 51 #[(0, p), (1, q)]) (hp : a.eval p = .agg (x.map u8v).toArray) (hq : a.eval q = .agg (y.map u8v).toArray) (hx : x.length = 32) (hy : y.length = 32) (w : World) :
    (execOp a.eval o).run Try.prog w = .ok (.value (.agg (z.map u8v).toArray)) w := by
  subst hz
  exact exec_entry ho hp hq hx hy w
/-- the value's cells of an entry -/
theorem entry_val {w : World} {q i : Nat} {es : List (List UInt8)} {rest : List Value} {T : TypeId} {k u : List UInt8} (hb : Blk w q (rows es ++ rest) T) (h : All64 es) (hx : es[i]? = some (k ++ u)) (hk : k.length = 32) : CellsAt w ⟨q, i * 64 + 32, none⟩ (u.map u8v) := by
  intro j z hz
  rw [addr_add]
  refine hb.cell' ?_
  have hj : j < u.length := by have := (List.getElem?_eq_some_iff.1 hz).1; simpa using this
  have hxl := h.at hx
  rw [List.length_append] at hxl
  have h1 := rows_at64 h hx (j := 32 + j) (by omega)
  have h2 : (rows es)[i * 64 + 32 + j]? = some z := by
    rw [show i * 64 + 32 + j = 64 * i + (32 + j) by omega, h1, List.map_append, List.getElem?_append_right (by rw [List.length_map]; omega), List.length_map, hk, Nat.add_sub_cancel_left]
    exact hz
  rw [List.getElem?_append_left (List.getElem?_eq_some_iff.1 h2).1]
  exact h2
theorem own_addr {w : World} {B n c z : Nat} {e : TypeId} {a : Option Addr} {xs : List Value} (h : w.ownsRow B e z (.slice a n c) n xs) (hn : 0 < n) : ∃ q, a = some ⟨q, 0, none⟩ := by
  rcases h.2 with ⟨_, h⟩ | ⟨g, cap, cur, hv, _⟩
  · omega
  · cases hv
    exact ⟨g, rfl⟩
theorem splice_len {vs xs : List Value} (o : Nat) (h : o + xs.length ≤ vs.length) : (splice vs o xs).length = vs.length := by
  unfold splice
  rw [List.length_append, List.length_append, List.length_take, List.length_drop]
  omega
theorem set64 {es : List (List UInt8)} (h : All64 es) {i : Nat} {y : List UInt8} (hy : y.length = 64) : All64 (es.set i y) := fun l hl => by
  rcases List.mem_or_eq_of_mem_set hl with h1 | h1
  · exact h l h1
  · rw [h1]; exact hy
/-- a value is stored into an entry -/
theorem splice_val {es : List (List UInt8)} {rest : List Value} {i : Nat} {k u v : List UInt8} (h : All64 es) (hx : es[i]? = some (k ++ u)) (hk : k.length = 32) (hu : u.length = 32) (hv : v.length = 32) :
    splice (rows es ++ rest) (i * 64 + 32) (v.map u8v) = rows (es.set i (k ++ v)) ++ rest := by
  obtain ⟨hi, hxi⟩ := List.getElem?_eq_some_iff.1 hx
  obtain ⟨a, b, rfl, rfl⟩ : ∃ a b, es = a ++ (k ++ u) :: b ∧ a.length = i := ⟨es.take i, es.drop (i + 1), by rw [← hxi]; simp, by simp; omega⟩
  have ha : All64 a := fun l hl => h l (by simp [hl])
  have hr : (rows a).length = a.length * 64 := by rw [rows_length64 ha]; omega
  have e1 : rows (a ++ (k ++ u) :: b) = rows a ++ (k.map u8v ++ (u.map u8v ++ rows b)) := by simp [rows]
  have e2 : rows ((a ++ (k ++ u) :: b).set a.length (k ++ v)) = rows a ++ (k.map u8v ++ (v.map u8v ++ rows b)) := by simp [rows]
  rw [e1, e2]
  unfold splice
  have t1 : (rows a ++ (k.map u8v ++ (u.map u8v ++ rows b)) ++ rest).take (a.length * 64 + 32) = rows a ++ k.map u8v := by
    rw [List.append_assoc, List.take_append, List.take_of_length_le (by omega), hr, show a.length * 64 + 32 - a.length * 64 = 32 by omega, List.append_assoc, List.take_append, List.take_of_length_le (by rw [List.length_map]; omega), List.length_map, hk]
    simp
  have t2 : (rows a ++ (k.map u8v ++ (u.map u8v ++ rows b)) ++ rest).drop (a.length * 64 + 32 + (v.map u8v).length) = rows b ++ rest := by
    rw [List.length_map, hv, List.append_assoc, List.drop_append, List.drop_of_length_le (by omega), List.nil_append, hr, show a.length * 64 + 32 + 32 - a.length * 64 = 64 by omega, List.append_assoc, List.drop_append, List.drop_of_length_le (by rw [List.length_map]; omega), List.nil_append, List.length_map, hk, List.append_assoc, List.drop_append, List.drop_of_length_le (by rw [List.length_map]; omega), List.nil_append, List.length_map, hu]
    simp
  rw [t1, t2]
  simp

set_option maxRecDepth 100000 in
set_option maxHeartbeats 4000000 in
theorem mapped_c (ls : List StepR) (a : Option Addr) (n c : Nat) (w : World) (hl : ls.length = n) (hnc : n ≤ c) (hcl : Cells w a (stepsV ls)) :
    Calls Try.prog 21 #[.slice a n c] w fun e w' => ∃ p g B v, e = .returned (.tuple #[.pointer (some ⟨p, 0, none⟩), v, .bool true]) ∧ w.heap.size ≤ g ∧ w.heap.size ≤ p ∧ g < B ∧ p < B ∧ w.heap.size ≤ B ∧
      TMap w' p g (foldM (ls.take 40)) ∧ w'.ownsRow B 51 64 v (foldM (ls.take 40)).length (rows (entsL (foldM (ls.take 40)))) ∧ (foldM (ls.take 40)).length ≤ 40 ∧ Ext w w' := by
  have HL := hid hl
  have HC := hid hcl
  obtain ⟨N, hN⟩ : ∃ N, min n 40 = N := ⟨_, rfl⟩
  have hNn : N ≤ n := by omega
  have hN40 : N ≤ 40 := by omega
  have hmn : min (n : Int) 40 = (N : Int) := by omega
  have hNc : N ≤ c := by omega
  have htk : ls.take 40 = ls.take N := by
    rw [← hN]
    rcases Nat.le_total n 40 with h | h
    · rw [Nat.min_eq_left h, List.take_of_length_le (by omega), List.take_of_length_le (by omega)]
    · rw [Nat.min_eq_right h]
  rw [htk]
  clear hl hcl hN htk
  go_enter Try.func21, Try.ntmps21
  go_wp2_with fail
  refine (newMap_c w).mono ?_
  rintro e wB ⟨rfl, hm, eB⟩
  have MB := hid hm
  have EB := hid eB
  have hgp : w.heap.size + 1 < wB.heap.size := hm.blk.lt
  clear hm eB
  obtain ⟨p, hp⟩ : ∃ p, w.heap.size + 1 = p := ⟨_, rfl⟩
  obtain ⟨g, hg⟩ : ∃ g, w.heap.size = g := ⟨_, rfl⟩
  rw [hp, hg] at MB
  rw [hp] at hgp ⊢
  have HG := hid hg
  have HP := hid hp
  clear hp hg
  go_wp2_with (first | (refine wpl_run rfl (exec_high (k := N) rfl rfl rfl Try.underlying41 size_step hNc _) ?_))
  obtain ⟨B, hB⟩ : ∃ B, wB.heap.size = B := ⟨_, rfl⟩
  have HB := hid hB
  have hpB : p < B := by rw [← hB]; exact hgp
  have hgB : g < B := by have := HG.out; have := HP.out; omega
  clear hB hgp
  go_loopw [23, 6] (fun i v wr => ∃ (k : Nat) (hs : List Ent), k ≤ N ∧ i = .int .i64 (k : Int) ∧ foldM (ls.take k) = hs ∧ TMap wr p g hs ∧ wr.ownsRow B 51 64 v hs.length (rows (entsL hs)) ∧ hs.length ≤ k ∧ Ext w wr ∧ B ≤ wr.heap.size) (fun i _ _ => N - (intOf i).toNat)
  case atStart => exact ⟨0, [], by omega, rfl, rfl, MB.out, ⟨by simp [rows, entsL], .inl ⟨rfl, rfl⟩⟩, by simp, EB.out, by rw [HB.out]; exact Nat.le_refl _⟩
  case round =>
    obtain ⟨k, hs, hk, rfl, hfold, hmt, hown, hhl, hex, hbb⟩ := hrel
    have MR := hid hmt
    have OR := hid hown
    have ER := hid hex
    have HFO := hid hfold
    clear hmt hown hex MB EB HB hfold
    by_cases hlt : k < N
    case neg =>
      obtain rfl : k = N := by omega
      go_wp2_with fail
      go_ret3
      have hf := HFO.out
      subst hf
      exact ⟨p, g, B, _, rfl, by rw [HG.out]; exact Nat.le_refl _, by rw [← HP.out]; omega, hgB, hpB, by rw [HG.out]; omega, MR.out, OR.out, by omega, ER.out⟩
    have hd : decide ((k : Int) < (N : Int)) = true := decide_eq_true (by omega)
    obtain ⟨x, hxk⟩ : ∃ x, ls[k]? = some x := ⟨ls[k]'(by rw [HL.out]; omega), by simp⟩
    obtain ⟨A, rfl, hca⟩ : ∃ A, a = some A ∧ CellsAt w (A.add (k * 3)) x.c := by
      cases a with
      | none => rcases HC.out with h | ⟨_, _, h, _⟩
                · have := stepsV_length ls; rw [h, HL.out] at this; simp at this; omega
                · cases h
      | some A => exact ⟨A, rfl, steps_rowAt HC.out hxk⟩
    have HNX := hid ((foldM_next hxk).trans (by rw [HFO.out]) : foldM (ls.take (k + 1)) = stepM hs x)
    have HCA := hid (hca.ext ER.out)
    have hxl : x.c.length = 3 := rfl
    have HXL := hid hxl
    have hxo : ∀ v ∈ x.c, v.oneCell' = true := by intro v hv; simp [StepR.c] at hv; rcases hv with rfl | rfl | rfl <;> rfl
    obtain ⟨kl, hkl⟩ : ∃ kl, keyL x.k = kl := ⟨_, rfl⟩
    obtain ⟨vl, hvl⟩ : ∃ vl, keyL x.v = vl := ⟨_, rfl⟩
    have HK32 := hid (show kl.length = 32 by rw [← hkl]; exact keyL_len _)
    have HV32 := hid (show vl.length = 32 by rw [← hvl]; exact keyL_len _)
    have hkey := hid (fun w' => key_c x.k w')
    have hval := hid (fun w' => key_c x.v w')
    rw [hkl] at hkey
    rw [hvl] at hval
    have HKL := hid hkl
    have HVL := hid hvl
    have hkN : k < N := hlt
    clear hca hxl hxk hkl hvl
    go_wp2_with (first | (refine wpl_run rfl (exec_index (i := k) rfl rfl rfl Try.underlying41 size_step hkN _) ?_) | (refine wpl_run rfl (exec_load_at rfl rfl HCA.out agg_step HXL.out) ?_) | (refine wpl_storew rfl _ (.tmp 8) _ rfl rfl rfl (Blk.mk_alloc (vs := List.replicate 3 (.int .i64 0)) rfl rfl) agg_step (by simp) HXL.out hxo ?_))
    intro w1 b1 u1
    have e1 : Ext wr w1 := u1.ext ((Ext.refl wr).alloc _) (Nat.le_refl _)
    have M1 := hid (MR.out.ext e1)
    have O1 := hid (ownsRow_ext OR.out e1)
    have E1 := hid (ER.out.ext e1)
    have B1 := hid b1
    have hbb1 : B ≤ w1.heap.size := Nat.le_trans hbb e1.size
    have hgr : B ≤ wr.heap.size := hbb
    clear b1 u1 e1 MR OR ER HCA hbb
    generalize wr.heap.size = gr at *
    go_wp2_with fail
    obtain ⟨C, hC⟩ : ∃ C : World → Prop, C = fun w' => Ext w1 w' := ⟨_, rfl⟩
    have hC0 : ∀ w', C w' ↔ Ext w1 w' := fun w' => by rw [hC]
    clear hC
    have HCC := hid hC0
    clear hC0
    have hCx : ∀ w w', C w → Ext w w' → C w' := fun w w' h1 h2 => (HCC.out w').2 (((HCC.out w).1 h1).ext h2)
    have c1 : ∀ w', C w' → w'.cell? ⟨gr, 1, none⟩ = some (.int .i64 x.k) := fun w' h => (B1.out.ext ((HCC.out w').1 h)).cell' rfl
    have c2 : ∀ w', C w' → w'.cell? ⟨gr, 2, none⟩ = some (.int .i64 x.v) := fun w' h => (B1.out.ext ((HCC.out w').1 h)).cell' rfl
    refine wp_region_al (C := C) 8 [(6, List.replicate 32 (.int .u8 0), 32), (7, List.replicate 32 (.int .u8 0), 32)] w1.heap.size (by kernel_rfl) (by kernel_rfl) (by kernel_rfl)
      ((HCC.out _).2 (Ext.refl w1).drew) (fun w o h => hCx _ _ h ((Ext.refl w).alloc o)) (fun w h => ((HCC.out w).1 h).size) ?_ ?_
    · intro x hx
      simp only [List.mem_cons, List.not_mem_nil, or_false] at hx
      rcases hx with rfl | rfl
      · exact ⟨_, rfl, rfl, fun _ _ => by rfl⟩
      · exact ⟨_, rfl, rfl, fun _ _ => by rfl⟩
    simp only [List.take_succ_cons, List.take_zero, List.drop_succ_cons, List.drop_zero]
    refine wpQE_do rfl rfl _ (fun _ _ => ⟨rfl, rfl⟩) ?_
    simp only [Act.put, List.setIfInBounds_toArray, List.set_cons_succ, List.set_cons_zero]
    refine wpQE_do rfl rfl ?dv1 (yieldsE_run (v := ?dv1) ?dy1) ?dr1
    case dy1 => (intro wq hwq; have hcq := (c1) wq hwq; go_simp; try with_reducible rfl)
    case dr1 =>
    simp only [Act.put, List.setIfInBounds_toArray, List.set_cons_succ, List.set_cons_zero]
    refine wpQE_do rfl rfl _ (yieldsE_call rfl Try.call31 (by simp [Act.eval]) (fun w _ => hkey.out w) hCx) ?_
    simp only [Act.put, List.setIfInBounds_toArray, List.set_cons_succ, List.set_cons_zero]
    refine wpQE_do rfl rfl _ (fun _ _ => ⟨rfl, rfl⟩) ?_
    simp only [Act.put, List.setIfInBounds_toArray, List.set_cons_succ, List.set_cons_zero]
    refine wpQE_do rfl rfl ?dv2 (yieldsE_run (v := ?dv2) ?dy2) ?dr2
    case dy2 => (intro wq hwq; have hcq := (c2) wq hwq; go_simp; try with_reducible rfl)
    case dr2 =>
    simp only [Act.put, List.setIfInBounds_toArray, List.set_cons_succ, List.set_cons_zero]
    refine wpQE_do rfl rfl _ (yieldsE_call rfl Try.call31 (by simp [Act.eval]) (fun w _ => hval.out w) hCx) ?_
    simp only [Act.put, List.setIfInBounds_toArray, List.set_cons_succ, List.set_cons_zero]
    refine wpQE_al rfl ?_
    refine wpQE_al rfl ?_
    refine wpQE_nil ?_
    intro gs w2 hw2 hbl hdis
    have hb6 := hbl _ (List.mem_cons_self)
    have hb7 := hbl _ (List.mem_cons_of_mem _ List.mem_cons_self)
    have hne := hdis _ (List.mem_cons_self) _ (List.mem_cons_of_mem _ List.mem_cons_self) (by simp)
    simp only at hb6 hb7 hne
    simp only [putAl, dstOf, ptrOf, Act.put, List.getElem?_toArray, List.getElem?_cons_succ, List.getElem?_cons_zero, Option.bind_some, List.setIfInBounds_toArray, List.set_cons_succ, List.set_cons_zero]
    generalize gs 6 = gk at *
    generalize gs 7 = gv at *
    have e2 := (HCC.out w2).1 hw2
    have HKV := hid (show (kl.map u8v).length = 32 by rw [List.length_map]; exact HK32.out)
    have HVV := hid (show (vl.map u8v).length = 32 by rw [List.length_map]; exact HV32.out)
    have ok := one_u8 kl
    have ov := one_u8 vl
    have M2 := hid (M1.out.ext e2)
    have O2 := hid (ownsRow_ext O1.out e2)
    have E2 := hid (E1.out.ext e2)
    have B2 := hid (B1.out.ext e2)
    have hs2 : w1.heap.size ≤ w2.heap.size := e2.size
    have hgrl := B1.out.lt
    have hgw1 : w1.heap.size ≤ gk := hb6.2
    have hgw2 : w1.heap.size ≤ gv := hb7.2
    have K2 := hid hb6.1
    have V2 := hid hb7.1
    have hvb : ∀ q, u6.ownBlock = some q → q < w1.heap.size := own_block_lt' O1.out
    clear hbl hdis hCx HCC hw2 c1 c2 hb6 hb7 e2 M1 O1 E1 B1 hkey hval C
    refine wpl_storew rfl _ _ _ rfl rfl rfl K2.out agg_apisum (by simp) HKV.out ok ?_
    intro w3 b3 u3
    have M3 := hid (M2.out.upd u3 (by omega) (by omega))
    have O3 := hid (own_keep O2.out (fun q hq => u3.block q (by have := hvb q hq; omega)))
    have E3 := hid (u3.ext E2.out (by have := E2.out.size; have := HG.out; omega))
    have B3 := hid (B2.out.upd u3 (by omega))
    have V3 := hid (V2.out.upd u3 (by omega))
    have K3 := hid b3
    have hs3 : w3.heap.size = w2.heap.size := u3.size
    clear b3 u3 M2 O2 E2 B2 V2 K2
    refine wpl_storew rfl _ _ _ rfl rfl rfl V3.out agg_apisum (by simp) HVV.out ov ?_
    intro w4 b4 u4
    have M4 := hid (M3.out.upd u4 (by omega) (by omega))
    have O4 := hid (own_keep O3.out (fun q hq => u4.block q (by have := hvb q hq; omega)))
    have E4 := hid (u4.ext E3.out (by have := E3.out.size; have := HG.out; omega))
    have B4 := hid (B3.out.upd u4 (by omega))
    have K4 := hid (K3.out.upd u4 (by omega))
    have V4 := hid b4
    have hs4 : B ≤ w4.heap.size := by have := u4.size; omega
    have hs14 : w1.heap.size ≤ w4.heap.size := by have := u4.size; omega
    have hgkB : B ≤ gk := by omega
    have hgvB : B ≤ gv := by omega
    clear b4 u4 M3 O3 E3 B3 V3 K3
    refine wpList_nil ?_
    go_wp2_with fail
    obtain ⟨ha, hcp, rfl, hnc2, hcm2, hnil2, hcl2⟩ := own_sliceT (by decide) O4.out
    have HC2 := hid hcl2
    have hE := M4.out.ents
    have hix := find_ents hE kl
    have hidx := indexFE_c (fun y => y.take 32 == kl) 56 #[.pointer (some ⟨gk, 0, none⟩)] (entsL hs) ha hs.length hcp w4 enters_e1 (entsL_len hs) (by omega) (entsL_64 hE) HC2.out
      (fun y hy w' e' => eclos_c y kl gk w' (entsL_64 hE y hy) HK32.out (K4.out.ext e'))
    rw [hix] at hidx
    have HE := hid hE
    obtain ⟨IX, hIX⟩ : ∃ IX, ixK kl hs = IX := ⟨_, rfl⟩
    rw [hIX] at hidx
    have HIX := hid hIX
    have hown4 : ∀ q, (Value.slice ha hs.length hcp).ownBlock = some q → B ≤ q ∧ q < w1.heap.size := fun q hq => ⟨own_block_ge O4.out q hq, hvb q hq⟩
    have HOW := hid hown4
    clear hix hIX hcl2 hE hown4 hvb
    refine hidx.mono ?_
    rintro e w5 ⟨rfl, e5⟩
    have M5 := hid (M4.out.ext e5)
    have O5 := hid (ownsRow_ext O4.out e5)
    have E5 := hid (E4.out.ext e5)
    have K5 := hid (K4.out.ext e5)
    have V5 := hid (V4.out.ext e5)
    have B5 := hid (B4.out.ext e5)
    have hbb5 : B ≤ w5.heap.size := Nat.le_trans hs4 e5.size
    have hs15 : w1.heap.size ≤ w5.heap.size := Nat.le_trans hs14 e5.size
    clear e5 M4 O4 E4 K4 V4 B4 hidx HC2
    have c0 := B5.out.cell' (i := 0) rfl
    have HEZ := hid (fun w => eq_arr Try.underlying32 vl zero32 HV32.out zero32_l w)
    by_cases hk0 : x.kind = 0
    · have d0 : (x.kind == 0) = true := by rw [hk0]; rfl
      have hstep : stepM hs x = if vl == zero32 then hs else setK hs kl vl := by unfold stepM; rw [if_pos hk0, HKL.out, HVL.out]
      rw [hk0] at c0
      rw [hstep] at HNX
      clear hstep
      go_wp2_with (first | (refine wpl_loadw rfl 32 (.tmp 9) rfl rfl K5.out agg_apisum HKV.out ?_) | (refine wpl_loadw rfl 32 (.tmp 10) rfl rfl V5.out agg_apisum HVV.out ?_))
      refine (set_c p g hs kl vl w5 M5.out HK32.out HV32.out (by omega)).mono ?_
      rintro e w6 ⟨rfl, m6, g6⟩
      have M6 := hid m6
      have O6 := hid (own_keep O5.out (fun q hq => g6.block q (by have := HOW.out q hq; omega) (fun he => by have := HOW.out q hq; have := Option.some.inj he; omega)))
      have V6 := hid (Blk.kept V5.out (g6.block gv V5.out.lt (fun he => by cases he; omega)))
      have K6 := hid (Blk.kept K5.out (g6.block gk K5.out.lt (fun he => by cases he; omega)))
      have E6 := hid (E5.out.grown g6 (fun q hq => by cases hq; rw [HG.out]; exact Nat.le_refl _))
      have hbb6 : B ≤ w6.heap.size := Nat.le_trans hbb5 g6.size
      clear m6 g6 M5 O5 V5 K5 E5 hbb5
      cases hz : (vl == zero32) with
      | true =>
        rw [hz] at M6 HNX HEZ
        clear hz
        go_wp2_with (first | (refine wpl_loadw rfl 32 (.tmp 10) rfl rfl V6.out agg_apisum HVV.out ?_) | (refine wpg_cmp rfl .eql _ _ _ _ rfl rfl rfl guard_sum HEZ.out ?_))
        go_roundw
        case rel => exact ⟨k + 1, hs, by omega, by go_num, HNX.out, M6.out, O6.out, by omega, E6.out, hbb6⟩
        case measure => simp [intOf]; omega
      | false =>
        rw [hz] at M6 HNX HEZ
        clear hz
        have hI0 : ixI none = -1 := rfl
        have hI1 : ∀ i, ixI (some i) = (i : Int) := fun _ => rfl
        cases IX with
        | none =>
          rw [hI0]
          have hset : setK hs kl vl = hs ++ [(kl, vl)] := by unfold setK; rw [HIX.out]
          rw [if_neg (by decide)] at M6 HNX
          rw [hset] at M6 HNX
          have hent : entsL (hs ++ [(kl, vl)]) = entsL hs ++ [kl ++ vl] := by unfold entsL; rw [List.map_append]; rfl
          have HEL := hid (show (kl ++ vl).length = 64 by rw [List.length_append, HK32.out, HV32.out])
          obtain ⟨en, hen⟩ : ∃ en, kl ++ vl = en := ⟨_, rfl⟩
          rw [hen] at hent HEL
          have HEN := hid hen
          clear hen
          have HENT := hid hent
          have M7 := hid (M6.out.ext ((Ext.refl w6).alloc (.cells (en.map u8v).toArray 51)))
          have O7 := hid (ownsRow_ext O6.out ((Ext.refl w6).alloc (.cells (en.map u8v).toArray 51)))
          have E7 := hid (E6.out.alloc (.cells (en.map u8v).toArray 51))
          have N7 : Hid (Blk (w6.alloc (.cells (en.map u8v).toArray 51)) w6.heap.size (en.map u8v) 51) := hid (Blk.mk_alloc rfl rfl)
          have hb7 : B ≤ (w6.alloc (.cells (en.map u8v).toArray 51)).heap.size := Nat.le_trans hbb6 ((Ext.refl w6).alloc _).size
          clear hent hset M6 O6 E6 hI0 hI1
          go_wp2_with (first | (refine wpl_loadw rfl 32 (.tmp 9) rfl rfl K6.out agg_apisum HKV.out ?_) | (refine wpl_loadw rfl 32 (.tmp 10) rfl rfl V6.out agg_apisum HVV.out ?_) | (refine wpg_cmp rfl .eql _ _ _ _ rfl rfl rfl guard_sum HEZ.out ?_) | (refine wpl_run rfl (exec_entryZ HEN.out rfl rfl rfl HK32.out HV32.out _) ?_) | (refine wpl_buildEntry rfl rfl rfl HEL.out ?_) | (at_builtin; refine wpl_append_entry rfl _ _ rfl B rfl rfl O7.out HEL.out N7.out (by omega) hb7 ?_))
          intro v8 w8 own8 gr8
          have hge := own_block_ge O7.out
          have M8 := hid (M7.out.grown gr8 (fun he => by have := hge p he.symm; omega) (fun he => by have := hge g he.symm; omega))
          have E8 := hid (E7.out.grown gr8 (fun q hq => by have := hge q hq; have := HG.out; omega))
          have O8 := hid own8
          have hbb8 : B ≤ w8.heap.size := Nat.le_trans hb7 gr8.size
          clear own8 gr8 hge M7 O7 E7 N7
          go_wp2_with fail
          go_roundw
          case rel => exact ⟨k + 1, hs ++ [(kl, vl)], by omega, by go_num, HNX.out, M8.out, by rw [List.length_append, HENT.out]; exact O8.out, by rw [List.length_append]; simp; omega, E8.out, hbb8⟩
          case measure => simp [intOf]; omega
        | some i =>
          rw [hI1]
          obtain ⟨u, hu⟩ := ixK_at HIX.out
          have hil : i < hs.length := (List.getElem?_eq_some_iff.1 hu).1
          have hu32 : u.length = 32 := HE.out.v32 _ (List.mem_of_getElem? hu)
          have hset : setK hs kl vl = hs.set i (kl, vl) := by unfold setK; rw [HIX.out]
          rw [if_neg (by decide)] at M6 HNX
          rw [hset] at M6 HNX
          have hent : entsL (hs.set i (kl, vl)) = (entsL hs).set i (kl ++ vl) := by unfold entsL; rw [List.map_set]
          have HENT := hid hent
          obtain ⟨q, rfl⟩ := own_addr O6.out (by omega)
          obtain ⟨rest, hb, hln, hrl, hBq, hnc3, hcm3⟩ := own_block O6.out
          have hsp : splice (rows (entsL hs) ++ rest) (i * 64 + 32) (vl.map u8v) = rows ((entsL hs).set i (kl ++ vl)) ++ rest := splice_val (entsL_64 HE.out) (by unfold entsL; rw [List.getElem?_map, hu]; rfl) HK32.out hu32 HV32.out
          have hfit : i * 64 + 32 + (vl.map u8v).length ≤ (rows (entsL hs) ++ rest).length := by rw [HVV.out, List.length_append, hrl]; omega
          have HFIT := hid hfit
          have HSP := hid hsp
          have HB6 := hid hb
          have i0 : (0 : Int) ≤ (i : Int) := by omega
          have d1 : decide ((0 : Int) ≤ (i : Int)) = true := decide_eq_true i0
          clear hsp hb hfit hu hset hent hI0 hI1
          go_wp2_with (first | (refine wpl_loadw rfl 32 (.tmp 10) rfl rfl V6.out agg_apisum HVV.out ?_) | (refine wpg_cmp rfl .eql _ _ _ _ rfl rfl rfl guard_sum HEZ.out ?_) | (refine wpl_run rfl (exec_index0 (i := i) rfl rfl rfl Try.underlying43 size_entry hil _) ?_) | (refine wpl_store rfl 32 _ _ rfl (g := q) (off := i * 64 + 32) (xs := vl.map u8v) rfl rfl HB6.out (by rw [HVV.out]; exact agg_apisum) HFIT.out ov ?_))
          intro w8 b8 u8
          rw [HSP.out] at b8
          have M8 := hid (M6.out.upd u8 (by omega) (by omega))
          have E8 := hid (u8.ext E6.out (by have := HG.out; omega))
          have O8 := hid (own_mk b8 (by rw [← HSP.out, splice_len _ HFIT.out]; exact hln) (by rw [rows_length64 (set64 (entsL_64 HE.out) (by rw [List.length_append, HK32.out, HV32.out])), List.length_set, entsL_len]; omega) hBq hnc3 hcm3)
          have hbb8 : B ≤ w8.heap.size := by rw [u8.size]; exact hbb6
          clear b8 u8 M6 O6 E6 HB6 hln hrl
          go_wp2_with fail
          go_roundw
          case rel => exact ⟨k + 1, hs.set i (kl, vl), by omega, by go_num, HNX.out, M8.out, by rw [List.length_set, HENT.out]; exact O8.out, by rw [List.length_set]; omega, E8.out, hbb8⟩
          case measure => simp [intOf]; omega
    · have d0 : (x.kind == 0) = false := by simpa using hk0
      by_cases hk1 : x.kind = 1
      · have hstep : stepM hs x = delK hs kl := by unfold stepM; rw [if_neg hk0, if_pos hk1, HKL.out]
        rw [hk1] at c0
        rw [hstep] at HNX
        have hdc := hid (drop_c p g hs kl w5 M5.out HK32.out)
        rw [HIX.out] at hdc
        clear hstep hk0 d0 HEZ
        go_wp2_with (first | (refine wpl_loadw rfl 32 (.tmp 9) rfl rfl K5.out agg_apisum HKV.out ?_))
        refine hdc.out.mono ?_
        rintro e w6 ⟨rfl, m6, g6⟩
        have M6 := hid m6
        have O6 := hid (own_keep O5.out (fun q hq => g6.block q (by have := HOW.out q hq; omega) (fun he => by have := HOW.out q hq; have := Option.some.inj he; omega)))
        have E6 := hid (E5.out.grown g6 (fun q hq => by cases hq; rw [HG.out]; exact Nat.le_refl _))
        have hbb6 : B ≤ w6.heap.size := Nat.le_trans hbb5 g6.size
        clear m6 g6 M5 O5 V5 K5 E5 hbb5 hdc c0 hk1
        cases IX with
        | none =>
          have hI0 : ixI none = -1 := rfl
          rw [hI0]
          have hdel : delK hs kl = hs := by unfold delK; rw [HIX.out]
          rw [hdel] at M6 HNX
          clear hdel hI0
          go_wp2_with fail
          go_roundw
          case rel => exact ⟨k + 1, hs, by omega, by go_num, HNX.out, M6.out, O6.out, by omega, E6.out, hbb6⟩
          case measure => simp [intOf]; omega
        | some i =>
          have hI1 : ixI (some i) = (i : Int) := rfl
          rw [hI1]
          have hil : i < hs.length := ixK_lt HIX.out
          have hdel : delK hs kl = hs.eraseIdx i := by unfold delK; rw [HIX.out]
          rw [hdel] at M6 HNX
          obtain ⟨q, rfl⟩ := own_addr O6.out (by omega)
          obtain ⟨_, _, _, _, hBq, _, _⟩ := own_block O6.out
          have hde := hid (deleteE_c (entsL hs) B q hs.length hcp i w6 (entsL_64 HE.out) (entsL_len hs) hil (by omega) O6.out)
          have hent : entsL (hs.eraseIdx i) = (entsL hs).eraseIdx i := by unfold entsL; exact map_eraseI _ _ _
          have HENT := hid hent
          have i0 : (0 : Int) ≤ (i : Int) := by omega
          have d1 : decide ((0 : Int) ≤ (i : Int)) = true := decide_eq_true i0
          have hw1 : IntKind.i64.wrap ((i : Int) + 1) = ((i + 1 : Nat) : Int) := by rw [IntWalk.i64_in _ (by omega)]; omega
          obtain ⟨i1, hi1⟩ : ∃ i1, i + 1 = i1 := ⟨_, rfl⟩
          rw [hi1] at hw1 hde
          have hel := hid (List.length_eraseIdx_of_lt hil)
          clear hdel hI1 hent hi1 O6
          go_wp2_with fail
          refine hde.out.mono ?_
          rintro e w7 ⟨rfl, own7, g7⟩
          have M7 := hid (M6.out.grown g7 (fun he => by have := Option.some.inj he; omega) (fun he => by have := Option.some.inj he; omega))
          have E7 := hid (E6.out.grown g7 (fun z hz => by cases hz; have := HG.out; omega))
          have O7 := hid own7
          have hbb7 : B ≤ w7.heap.size := Nat.le_trans hbb6 g7.size
          clear own7 g7 M6 E6 hde
          go_wp2_with fail
          go_roundw
          case rel => exact ⟨k + 1, hs.eraseIdx i, by omega, by go_num, HNX.out, M7.out, by rw [hel.out, HENT.out]; exact O7.out, by rw [hel.out]; omega, E7.out, hbb7⟩
          case measure => simp [intOf]; omega
      · have d1 : (x.kind == 1) = false := by simpa using hk1
        have hstep : stepM hs x = hs := by unfold stepM; rw [if_neg hk0, if_neg hk1]
        rw [hstep] at HNX
        have hgc := hid (get_c p g hs kl w5 M5.out HK32.out)
        rw [HIX.out] at hgc
        obtain ⟨G, hG⟩ : ∃ G, getK hs kl = G := ⟨_, rfl⟩
        rw [hG] at hgc
        have HGL := hid (show G.length = 32 by rw [← hG]; exact getK_len HE.out kl)
        have HGV := hid (show (G.map u8v).length = 32 by rw [List.length_map]; exact HGL.out)
        have oG := one_u8 G
        have HGG := hid hG
        clear hstep hk0 hk1 HEZ hG
        go_wp2_with (first | (refine wpl_loadw rfl 32 (.tmp 9) rfl rfl K5.out agg_apisum HKV.out ?_))
        refine hgc.out.mono ?_
        rintro e w6 ⟨rfl, e6⟩
        have M6 := hid (M5.out.ext e6)
        have O6 := hid (ownsRow_ext O5.out e6)
        have E6 := hid (E5.out.ext e6)
        have hbb6 : B ≤ w6.heap.size := Nat.le_trans hbb5 e6.size
        clear e6 M5 O5 V5 K5 E5 hbb5 hgc c0 d0 d1
        cases IX with
        | none =>
          have hI0 : ixI none = -1 := rfl
          rw [hI0]
          obtain rfl : G = zero32 := by rw [← HGG.out]; unfold getK; rw [HIX.out]
          have HEZ := hid (fun w => neq_arr Try.underlying32 zero32 zero32 zero32_l zero32_l w)
          rw [show (zero32 == zero32) = true from by simp] at HEZ
          clear hI0
          go_wp2_with (first | (refine wpl_storew rfl _ (.tmp 14) _ rfl rfl rfl (Blk.mk_alloc (vs := List.replicate 32 (.int .u8 0)) rfl rfl) agg_apisum (by simp) (xs := zero32.map u8v) HGV.out oG ?_))
          intro w7 b7 u7
          have e7 : Ext w6 w7 := u7.ext ((Ext.refl w6).alloc _) (Nat.le_refl _)
          have M7 := hid (M6.out.ext e7)
          have O7 := hid (ownsRow_ext O6.out e7)
          have E7 := hid (E6.out.ext e7)
          have B7 := hid b7
          have hbb7 : B ≤ w7.heap.size := Nat.le_trans hbb6 e7.size
          clear b7 u7 e7 M6 O6 E6 hbb6
          generalize w6.heap.size = g6 at *
          go_wp2_with fail
          obtain ⟨C, hC⟩ : ∃ C : World → Prop, C = Cls w7 w7 [] [] := ⟨_, rfl⟩
          have hC0 : ∀ w', C w' ↔ Cls w7 w7 [] [] w' := fun w' => by rw [hC]
          clear hC
          have HCC := hid hC0
          clear hC0
          have hCx : ∀ w w', C w → Ext w w' → C w' := fun w w' h1 h2 => (HCC.out w').2 (((HCC.out w).1 h1).ext h2)
          have hCA : C w7 := (HCC.out _).2 (Cls.no_room (Ext.refl w7) (Kept.none _))
          refine wp_region_held_drew (S := C) (by kernel_rfl) (hCx _ _ hCA (Ext.refl _).drew) (fun hS0 => ?_)
          refine held_take 0 (v := ?tv3) rfl (by kernel_rfl) (by kernel_rfl) (by kernel_rfl) (fun _ _ _ h => h) (.inl ⟨rfl, ?ty3⟩) hS0 ?tr3
          case ty3 => (intro _ _; go_simp; try with_reducible rfl)
          case tr3 =>
          simp only [Act.put, List.setIfInBounds_toArray, List.set_cons_succ, List.set_cons_zero]
          refine held_take 1 (v := ?tv4) rfl (by kernel_rfl) (by kernel_rfl) (by kernel_rfl) (fun _ _ _ h => h) (.inl ⟨rfl, ?ty4⟩) hS0 ?tr4
          case ty4 => (intro _ _; go_simp; try with_reducible rfl)
          case tr4 =>
          simp only [Act.put, List.setIfInBounds_toArray, List.set_cons_succ, List.set_cons_zero]
          refine held_take 2 (v := ?tv5) rfl (by kernel_rfl) (by kernel_rfl) (by kernel_rfl) (fun _ _ _ h => h) (.inl ⟨rfl, ?ty5⟩) hS0 ?tr5
          case ty5 => (intro _ _; go_simp; try with_reducible rfl)
          case tr5 =>
          simp only [Act.put, List.setIfInBounds_toArray, List.set_cons_succ, List.set_cons_zero]
          refine held_take 3 (v := undef) rfl (by kernel_rfl) (by kernel_rfl) (by kernel_rfl) (fun _ _ _ h => h) (.inr ⟨rfl, rfl⟩) hS0 ?_
          simp only [Act.put, List.setIfInBounds_toArray, List.set_cons_succ, List.set_cons_zero]
          refine held_take 4 (v := undef) rfl (by kernel_rfl) (by kernel_rfl) (by kernel_rfl) (fun _ _ _ h => h) (.inr ⟨rfl, rfl⟩) hS0 ?_
          simp only [Act.put, List.setIfInBounds_toArray, List.set_cons_succ, List.set_cons_zero]
          refine held_take 5 (v := undef) rfl (by kernel_rfl) (by kernel_rfl) (by kernel_rfl) (fun _ _ _ h => h) (.inr ⟨rfl, rfl⟩) hS0 ?_
          simp only [Act.put, List.setIfInBounds_toArray, List.set_cons_succ, List.set_cons_zero]
          refine held_take 6 (v := undef) rfl (by kernel_rfl) (by kernel_rfl) (by kernel_rfl) (fun _ _ _ h => h) (.inr ⟨rfl, rfl⟩) hS0 ?_
          simp only [Act.put, List.setIfInBounds_toArray, List.set_cons_succ, List.set_cons_zero]
          refine held_take 7 (v := undef) rfl (by kernel_rfl) (by kernel_rfl) (by kernel_rfl) (fun _ _ _ h => h) (.inr ⟨rfl, rfl⟩) hS0 ?_
          simp only [Act.put, List.setIfInBounds_toArray, List.set_cons_succ, List.set_cons_zero]
          refine held_take 8 (v := undef) rfl (by kernel_rfl) (by kernel_rfl) (by kernel_rfl) (fun _ _ _ h => h) (.inr ⟨rfl, rfl⟩) hS0 ?_
          simp only [Act.put, List.setIfInBounds_toArray, List.set_cons_succ, List.set_cons_zero]
          refine held_take 9 (v := undef) rfl (by kernel_rfl) (by kernel_rfl) (by kernel_rfl) (fun _ _ _ h => h) (.inr ⟨rfl, rfl⟩) hS0 ?_
          simp only [Act.put, List.setIfInBounds_toArray, List.set_cons_succ, List.set_cons_zero]
          refine held_take 10 (v := undef) rfl (by kernel_rfl) (by kernel_rfl) (by kernel_rfl) (fun _ _ _ h => h) (.inr ⟨rfl, rfl⟩) hS0 ?_
          simp only [Act.put, List.setIfInBounds_toArray, List.set_cons_succ, List.set_cons_zero]
          refine held_take 11 (v := undef) rfl (by kernel_rfl) (by kernel_rfl) (by kernel_rfl) (fun _ _ _ h => h) (.inr ⟨rfl, rfl⟩) hS0 ?_
          simp only [Act.put, List.setIfInBounds_toArray, List.set_cons_succ, List.set_cons_zero]
          refine held_take 12 (v := undef) rfl (by kernel_rfl) (by kernel_rfl) (by kernel_rfl) (fun _ _ _ h => h) (.inr ⟨rfl, rfl⟩) hS0 ?_
          simp only [Act.put, List.setIfInBounds_toArray, List.set_cons_succ, List.set_cons_zero]
          refine held_take 13 (v := undef) rfl (by kernel_rfl) (by kernel_rfl) (by kernel_rfl) (fun _ _ _ h => h) (.inr ⟨rfl, rfl⟩) hS0 ?_
          simp only [Act.put, List.setIfInBounds_toArray, List.set_cons_succ, List.set_cons_zero]
          refine held_take 14 (v := ?tv6) rfl (by kernel_rfl) (by kernel_rfl) (by kernel_rfl) (fun _ _ _ h => h) (.inl ⟨rfl, ?ty6⟩) hS0 ?tr6
          case ty6 => (intro _ _; go_simp; try with_reducible rfl)
          case tr6 =>
          simp only [Act.put, List.setIfInBounds_toArray, List.set_cons_succ, List.set_cons_zero]
          refine held_take 15 (v := ?tv7) rfl (by kernel_rfl) (by kernel_rfl) (by kernel_rfl) (fun _ _ _ h => h) (.inl ⟨rfl, ?ty7⟩) hS0 ?tr7
          case ty7 => (intro _ _; go_simp; try with_reducible rfl)
          case tr7 =>
          simp only [Act.put, List.setIfInBounds_toArray, List.set_cons_succ, List.set_cons_zero]
          refine held_take 16 (v := ?tv8) rfl (by kernel_rfl) (by kernel_rfl) (by kernel_rfl) (fun _ _ _ h => h) (.inl ⟨rfl, ?ty8⟩) hS0 ?tr8
          case ty8 => (intro _ _; go_simp; try with_reducible rfl)
          case tr8 =>
          simp only [Act.put, List.setIfInBounds_toArray, List.set_cons_succ, List.set_cons_zero]
          refine held_take 17 (v := ?tv9) rfl (by kernel_rfl) (by kernel_rfl) (by kernel_rfl) (fun _ _ _ h => h) (.inl ⟨rfl, ?ty9⟩) hS0 ?tr9
          case ty9 => (intro _ _; go_simp; try with_reducible rfl)
          case tr9 =>
          simp only [Act.put, List.setIfInBounds_toArray, List.set_cons_succ, List.set_cons_zero]
          refine held_take 18 (v := ?tv10) rfl (by kernel_rfl) (by kernel_rfl) (by kernel_rfl) (fun _ _ _ h => h) (.inl ⟨rfl, ?ty10⟩) hS0 ?tr10
          case ty10 => (intro _ _; go_simp; try with_reducible rfl)
          case tr10 =>
          simp only [Act.put, List.setIfInBounds_toArray, List.set_cons_succ, List.set_cons_zero]
          refine held_take 19 (v := ?tv11) rfl (by kernel_rfl) (by kernel_rfl) (by kernel_rfl) (fun _ _ _ h => h) (.inl ⟨rfl, ?ty11⟩) hS0 ?tr11
          case ty11 => (intro _ _; go_simp; try with_reducible rfl)
          case tr11 =>
          simp only [Act.put, List.setIfInBounds_toArray, List.set_cons_succ, List.set_cons_zero]
          refine held_take 20 (v := ?tv12) rfl (by kernel_rfl) (by kernel_rfl) (by kernel_rfl) (fun _ _ _ h => h) (.inl ⟨rfl, ?ty12⟩) hS0 ?tr12
          case ty12 => (intro _ _; go_simp; try with_reducible rfl)
          case tr12 =>
          simp only [Act.put, List.setIfInBounds_toArray, List.set_cons_succ, List.set_cons_zero]
          refine held_take 21 (v := ?tv13) rfl (by kernel_rfl) (by kernel_rfl) (by kernel_rfl) (fun _ _ _ h => h) (.inl ⟨rfl, ?ty13⟩) hS0 ?tr13
          case ty13 => (intro _ _; go_simp; try with_reducible rfl)
          case tr13 =>
          simp only [Act.put, List.setIfInBounds_toArray, List.set_cons_succ, List.set_cons_zero]
          refine held_take 22 (v := _) rfl (by kernel_rfl) (by kernel_rfl) (by kernel_rfl) (fun _ _ _ h => h) (yieldsI_loadw rfl 32 _ rfl rfl (fun w2 h => B7.out.ext ((HCC.out w2).1 h).base) agg_apisum HGV.out) hS0 ?_
          simp only [Act.put, List.setIfInBounds_toArray, List.set_cons_succ, List.set_cons_zero]
          refine held_take 23 (v := ?tv14) rfl (by kernel_rfl) (by kernel_rfl) (by kernel_rfl) (fun _ _ _ h => h) (.inl ⟨rfl, ?ty14⟩) hS0 ?tr14
          case ty14 => (intro _ _; go_simp; try with_reducible rfl)
          case tr14 =>
          simp only [Act.put, List.setIfInBounds_toArray, List.set_cons_succ, List.set_cons_zero]
          refine held_take 24 (v := _) rfl (by kernel_rfl) (by kernel_rfl) (by kernel_rfl) (fun _ _ _ h => h) (yieldsI_run rfl (fun w1 _ => exec_cmp rfl rfl rfl guard_sum HEZ.out w1)) hS0 ?_
          simp only [Act.put, List.setIfInBounds_toArray, List.set_cons_succ, List.set_cons_zero]
          refine held_take 25 (v := ?tv15) rfl (by kernel_rfl) (by kernel_rfl) (by kernel_rfl) (fun _ _ _ h => h) (.inl ⟨rfl, ?ty15⟩) hS0 ?tr15
          case ty15 => (intro _ _; go_simp; try with_reducible rfl)
          case tr15 =>
          simp only [Act.put, List.setIfInBounds_toArray, List.set_cons_succ, List.set_cons_zero]
          refine held_take 26 (v := ?tv16) rfl (by kernel_rfl) (by kernel_rfl) (by kernel_rfl) (fun _ _ _ h => h) (.inl ⟨rfl, ?ty16⟩) hS0 ?tr16
          case ty16 => (intro _ _; go_simp; try with_reducible rfl)
          case tr16 =>
          simp only [Act.put, List.setIfInBounds_toArray, List.set_cons_succ, List.set_cons_zero]
          refine held_take 27 (v := ?tv17) rfl (by kernel_rfl) (by kernel_rfl) (by kernel_rfl) (fun _ _ _ h => h) (.inl ⟨rfl, ?ty17⟩) hS0 ?tr17
          case ty17 => (intro _ _; go_simp; try with_reducible rfl)
          case tr17 =>
          simp only [Act.put, List.setIfInBounds_toArray, List.set_cons_succ, List.set_cons_zero]
          refine wpAnyH_done (by kernel_rfl) ?_ _
          have EG := ((HCC.out _).1 hS0).base
          have M8 := hid (M7.out.ext EG)
          have O8 := hid (ownsRow_ext O7.out EG)
          have E8 := hid (E7.out.ext EG)
          have hbb8 := Nat.le_trans hbb7 EG.size
          clear hS0 hCx hCA HCC C EG M7 O7 E7 hbb7 B7 HEZ
          generalize w7.drew = w8 at *
          go_wp2_with fail
          go_roundw
          case rel => exact ⟨k + 1, hs, by omega, by go_num, HNX.out, M8.out, O8.out, by omega, E8.out, hbb8⟩
          case measure => simp [intOf]; omega
        | some i =>
          have hI1 : ixI (some i) = (i : Int) := rfl
          rw [hI1]
          obtain ⟨u, hu⟩ := ixK_at HIX.out
          have hil : i < hs.length := (List.getElem?_eq_some_iff.1 hu).1
          obtain rfl : u = G := by rw [← HGG.out]; unfold getK; rw [HIX.out]; simp [hu]
          have HEZ := hid (fun w => neq_arr Try.underlying32 u u HGL.out HGL.out w)
          rw [show (u == u) = true from by simp] at HEZ
          obtain ⟨q, rfl⟩ := own_addr O6.out (by omega)
          obtain ⟨rest, hb, hln, hrl, hBq, hnc3, hcm3⟩ := own_block O6.out
          have hcv : CellsAt w6 ⟨q, i * 64 + 32, none⟩ (u.map u8v) := entry_val hb (entsL_64 HE.out) (by unfold entsL; rw [List.getElem?_map, hu]; rfl) HK32.out
          have HCV := hid hcv
          have i0 : (0 : Int) ≤ (i : Int) := by omega
          have d1 : decide ((0 : Int) ≤ (i : Int)) = true := decide_eq_true i0
          have d2 : decide ((i : Int) < 0) = false := decide_eq_false (by omega)
          have d3 : decide ((i : Int) ≥ 0) = true := decide_eq_true i0
          clear hcv hb hln hrl hu hI1
          go_wp2_with (first | (refine wpl_storew rfl _ (.tmp 14) _ rfl rfl rfl (Blk.mk_alloc (vs := List.replicate 32 (.int .u8 0)) rfl rfl) agg_apisum (by simp) HGV.out oG ?_))
          intro w7 b7 u7
          have e7 : Ext w6 w7 := u7.ext ((Ext.refl w6).alloc _) (Nat.le_refl _)
          have M7 := hid (M6.out.ext e7)
          have O7 := hid (ownsRow_ext O6.out e7)
          have E7 := hid (E6.out.ext e7)
          have C7 := hid (HCV.out.ext e7)
          have B7 := hid b7
          have hbb7 : B ≤ w7.heap.size := Nat.le_trans hbb6 e7.size
          clear b7 u7 e7 M6 O6 E6 hbb6 HCV
          generalize w6.heap.size = g6 at *
          go_wp2_with fail
          obtain ⟨C, hC⟩ : ∃ C : World → Prop, C = Cls w7 w7 [] [] := ⟨_, rfl⟩
          have hC0 : ∀ w', C w' ↔ Cls w7 w7 [] [] w' := fun w' => by rw [hC]
          clear hC
          have HCC := hid hC0
          clear hC0
          have hCx : ∀ w w', C w → Ext w w' → C w' := fun w w' h1 h2 => (HCC.out w').2 (((HCC.out w).1 h1).ext h2)
          have hCA : C w7 := (HCC.out _).2 (Cls.no_room (Ext.refl w7) (Kept.none _))
          refine wp_region_held_drew (S := C) (by kernel_rfl) (hCx _ _ hCA (Ext.refl _).drew) (fun hS0 => ?_)
          refine held_take 0 (v := ?tv18) rfl (by kernel_rfl) (by kernel_rfl) (by kernel_rfl) (fun _ _ _ h => h) (.inl ⟨rfl, ?ty18⟩) hS0 ?tr18
          case ty18 => (intro _ _; go_simp; try with_reducible rfl)
          case tr18 =>
          simp only [Act.put, List.setIfInBounds_toArray, List.set_cons_succ, List.set_cons_zero]
          refine held_take 1 (v := ?tv19) rfl (by kernel_rfl) (by kernel_rfl) (by kernel_rfl) (fun _ _ _ h => h) (.inl ⟨rfl, ?ty19⟩) hS0 ?tr19
          case ty19 => (intro _ _; go_simp; try with_reducible rfl)
          case tr19 =>
          simp only [Act.put, List.setIfInBounds_toArray, List.set_cons_succ, List.set_cons_zero]
          refine held_take 2 (v := ?tv20) rfl (by kernel_rfl) (by kernel_rfl) (by kernel_rfl) (fun _ _ _ h => h) (.inl ⟨rfl, ?ty20⟩) hS0 ?tr20
          case ty20 => (intro _ _; go_simp; try with_reducible rfl)
          case tr20 =>
          simp only [Act.put, List.setIfInBounds_toArray, List.set_cons_succ, List.set_cons_zero]
          refine held_take 3 (v := ?tv21) rfl (by kernel_rfl) (by kernel_rfl) (by kernel_rfl) (fun _ _ _ h => h) (.inl ⟨rfl, ?ty21⟩) hS0 ?tr21
          case ty21 => (intro _ _; go_simp; try with_reducible rfl)
          case tr21 =>
          simp only [Act.put, List.setIfInBounds_toArray, List.set_cons_succ, List.set_cons_zero]
          refine held_take 4 (v := ?tv22) rfl (by kernel_rfl) (by kernel_rfl) (by kernel_rfl) (fun _ _ _ h => h) (.inl ⟨rfl, ?ty22⟩) hS0 ?tr22
          case ty22 => (intro _ _; go_simp; try with_reducible rfl)
          case tr22 =>
          simp only [Act.put, List.setIfInBounds_toArray, List.set_cons_succ, List.set_cons_zero]
          refine held_take 5 (v := ?tv23) rfl (by kernel_rfl) (by kernel_rfl) (by kernel_rfl) (fun _ _ _ h => h) (.inl ⟨rfl, ?ty23⟩) hS0 ?tr23
          case ty23 => (intro _ _; go_simp; try with_reducible rfl)
          case tr23 =>
          simp only [Act.put, List.setIfInBounds_toArray, List.set_cons_succ, List.set_cons_zero]
          refine held_take 6 (v := _) rfl (by kernel_rfl) (by kernel_rfl) (by kernel_rfl) (fun _ _ _ h => h) (yieldsI_loadw rfl 32 _ rfl rfl (fun w2 h => B7.out.ext ((HCC.out w2).1 h).base) agg_apisum HGV.out) hS0 ?_
          simp only [Act.put, List.setIfInBounds_toArray, List.set_cons_succ, List.set_cons_zero]
          refine held_take 7 (v := ?tv24) rfl (by kernel_rfl) (by kernel_rfl) (by kernel_rfl) (fun _ _ _ h => h) (.inl ⟨rfl, ?ty24⟩) hS0 ?tr24
          case ty24 => (intro _ _; go_simp; try with_reducible rfl)
          case tr24 =>
          simp only [Act.put, List.setIfInBounds_toArray, List.set_cons_succ, List.set_cons_zero]
          refine held_take 8 (v := ?tv25) rfl (by kernel_rfl) (by kernel_rfl) (by kernel_rfl) (fun _ _ _ h => h) (.inl ⟨rfl, ?ty25⟩) hS0 ?tr25
          case ty25 => (intro _ _; go_simp; try with_reducible rfl)
          case tr25 =>
          simp only [Act.put, List.setIfInBounds_toArray, List.set_cons_succ, List.set_cons_zero]
          refine held_take 9 (v := _) rfl (by kernel_rfl) (by kernel_rfl) (by kernel_rfl) (fun _ _ _ h => h) (yieldsI_run rfl (fun w1 _ => exec_index0 (i := i) rfl rfl rfl Try.underlying43 size_entry hil w1)) hS0 ?_
          simp only [Act.put, List.setIfInBounds_toArray, List.set_cons_succ, List.set_cons_zero]
          refine held_take 10 (v := ?tv26) rfl (by kernel_rfl) (by kernel_rfl) (by kernel_rfl) (fun _ _ _ h => h) (.inl ⟨rfl, ?ty26⟩) hS0 ?tr26
          case ty26 => (intro _ _; go_simp; try with_reducible rfl)
          case tr26 =>
          simp only [Act.put, List.setIfInBounds_toArray, List.set_cons_succ, List.set_cons_zero]
          refine held_take 11 (v := _) rfl (by kernel_rfl) (by kernel_rfl) (by kernel_rfl) (fun _ _ _ h => h) (yieldsI_run rfl (fun w1 h => exec_load_at rfl rfl (C7.out.ext ((HCC.out w1).1 h).base) agg_apisum HGV.out)) hS0 ?_
          simp only [Act.put, List.setIfInBounds_toArray, List.set_cons_succ, List.set_cons_zero]
          refine held_take 12 (v := _) rfl (by kernel_rfl) (by kernel_rfl) (by kernel_rfl) (fun _ _ _ h => h) (yieldsI_run rfl (fun w1 _ => exec_cmp rfl rfl rfl guard_sum HEZ.out w1)) hS0 ?_
          simp only [Act.put, List.setIfInBounds_toArray, List.set_cons_succ, List.set_cons_zero]
          refine held_take 13 (v := ?tv27) rfl (by kernel_rfl) (by kernel_rfl) (by kernel_rfl) (fun _ _ _ h => h) (.inl ⟨rfl, ?ty27⟩) hS0 ?tr27
          case ty27 => (intro _ _; go_simp; try with_reducible rfl)
          case tr27 =>
          simp only [Act.put, List.setIfInBounds_toArray, List.set_cons_succ, List.set_cons_zero]
          refine held_take 14 (v := ?tv28) rfl (by kernel_rfl) (by kernel_rfl) (by kernel_rfl) (fun _ _ _ h => h) (.inl ⟨rfl, ?ty28⟩) hS0 ?tr28
          case ty28 => (intro _ _; go_simp; try with_reducible rfl)
          case tr28 =>
          simp only [Act.put, List.setIfInBounds_toArray, List.set_cons_succ, List.set_cons_zero]
          refine held_take 15 (v := ?tv29) rfl (by kernel_rfl) (by kernel_rfl) (by kernel_rfl) (fun _ _ _ h => h) (.inl ⟨rfl, ?ty29⟩) hS0 ?tr29
          case ty29 => (intro _ _; go_simp; try with_reducible rfl)
          case tr29 =>
          simp only [Act.put, List.setIfInBounds_toArray, List.set_cons_succ, List.set_cons_zero]
          refine held_take 16 (v := ?tv30) rfl (by kernel_rfl) (by kernel_rfl) (by kernel_rfl) (fun _ _ _ h => h) (.inl ⟨rfl, ?ty30⟩) hS0 ?tr30
          case ty30 => (intro _ _; go_simp; try with_reducible rfl)
          case tr30 =>
          simp only [Act.put, List.setIfInBounds_toArray, List.set_cons_succ, List.set_cons_zero]
          refine held_take 17 (v := ?tv31) rfl (by kernel_rfl) (by kernel_rfl) (by kernel_rfl) (fun _ _ _ h => h) (.inl ⟨rfl, ?ty31⟩) hS0 ?tr31
          case ty31 => (intro _ _; go_simp; try with_reducible rfl)
          case tr31 =>
          simp only [Act.put, List.setIfInBounds_toArray, List.set_cons_succ, List.set_cons_zero]
          refine held_take 18 (v := ?tv32) rfl (by kernel_rfl) (by kernel_rfl) (by kernel_rfl) (fun _ _ _ h => h) (.inl ⟨rfl, ?ty32⟩) hS0 ?tr32
          case ty32 => (intro _ _; go_simp; try with_reducible rfl)
          case tr32 =>
          simp only [Act.put, List.setIfInBounds_toArray, List.set_cons_succ, List.set_cons_zero]
          refine held_take 19 (v := undef) rfl (by kernel_rfl) (by kernel_rfl) (by kernel_rfl) (fun _ _ _ h => h) (.inr ⟨rfl, rfl⟩) hS0 ?_
          simp only [Act.put, List.setIfInBounds_toArray, List.set_cons_succ, List.set_cons_zero]
          refine held_take 20 (v := undef) rfl (by kernel_rfl) (by kernel_rfl) (by kernel_rfl) (fun _ _ _ h => h) (.inr ⟨rfl, rfl⟩) hS0 ?_
          simp only [Act.put, List.setIfInBounds_toArray, List.set_cons_succ, List.set_cons_zero]
          refine held_take 21 (v := undef) rfl (by kernel_rfl) (by kernel_rfl) (by kernel_rfl) (fun _ _ _ h => h) (.inr ⟨rfl, rfl⟩) hS0 ?_
          simp only [Act.put, List.setIfInBounds_toArray, List.set_cons_succ, List.set_cons_zero]
          refine held_take 22 (v := undef) rfl (by kernel_rfl) (by kernel_rfl) (by kernel_rfl) (fun _ _ _ h => h) (.inr ⟨rfl, rfl⟩) hS0 ?_
          simp only [Act.put, List.setIfInBounds_toArray, List.set_cons_succ, List.set_cons_zero]
          refine held_take 23 (v := undef) rfl (by kernel_rfl) (by kernel_rfl) (by kernel_rfl) (fun _ _ _ h => h) (.inr ⟨rfl, rfl⟩) hS0 ?_
          simp only [Act.put, List.setIfInBounds_toArray, List.set_cons_succ, List.set_cons_zero]
          refine held_take 24 (v := undef) rfl (by kernel_rfl) (by kernel_rfl) (by kernel_rfl) (fun _ _ _ h => h) (.inr ⟨rfl, rfl⟩) hS0 ?_
          simp only [Act.put, List.setIfInBounds_toArray, List.set_cons_succ, List.set_cons_zero]
          refine held_take 25 (v := undef) rfl (by kernel_rfl) (by kernel_rfl) (by kernel_rfl) (fun _ _ _ h => h) (.inr ⟨rfl, rfl⟩) hS0 ?_
          simp only [Act.put, List.setIfInBounds_toArray, List.set_cons_succ, List.set_cons_zero]
          refine held_take 26 (v := ?tv33) rfl (by kernel_rfl) (by kernel_rfl) (by kernel_rfl) (fun _ _ _ h => h) (.inl ⟨rfl, ?ty33⟩) hS0 ?tr33
          case ty33 => (intro _ _; go_simp; try with_reducible rfl)
          case tr33 =>
          simp only [Act.put, List.setIfInBounds_toArray, List.set_cons_succ, List.set_cons_zero]
          refine held_take 27 (v := ?tv34) rfl (by kernel_rfl) (by kernel_rfl) (by kernel_rfl) (fun _ _ _ h => h) (.inl ⟨rfl, ?ty34⟩) hS0 ?tr34
          case ty34 => (intro _ _; go_simp; try with_reducible rfl)
          case tr34 =>
          simp only [Act.put, List.setIfInBounds_toArray, List.set_cons_succ, List.set_cons_zero]
          refine wpAnyH_done (by kernel_rfl) ?_ _
          have EG := ((HCC.out _).1 hS0).base
          have M8 := hid (M7.out.ext EG)
          have O8 := hid (ownsRow_ext O7.out EG)
          have E8 := hid (E7.out.ext EG)
          have hbb8 := Nat.le_trans hbb7 EG.size
          clear hS0 hCx hCA HCC C EG M7 O7 E7 hbb7 B7 HEZ
          generalize w7.drew = w8 at *
          go_wp2_with fail
          go_roundw
          case rel => exact ⟨k + 1, hs, by omega, by go_num, HNX.out, M8.out, O8.out, by omega, E8.out, hbb8⟩
          case measure => simp [intOf]; omega
end

section
open Go Go.RowKit

theorem Upd.drewE {w w' : World} {g : Nat} (h : Upd w g w') : Upd w g w'.drew := ⟨h.os, h.tape, h.output, h.size, h.block⟩
theorem splice_ent {es : List (List UInt8)} {rest : List Value} {k : Nat} (y : List UInt8) (h : All64 es) (hy : y.length = 64) (hk : k < es.length) : splice (rows es ++ rest) (k * 64) (y.map u8v) = rows (es.set k y) ++ rest := by
  obtain ⟨a, x, b, rfl, rfl⟩ : ∃ a x b, es = a ++ x :: b ∧ a.length = k := ⟨es.take k, es[k], es.drop (k + 1), by simp, by simp; omega⟩
  have ha : All64 a := fun l hl => h l (by simp [hl])
  have hx : x.length = 64 := h x (by simp)
  have hr : (rows a).length = a.length * 64 := by rw [rows_length64 ha]; omega
  have e1 : rows (a ++ x :: b) = rows a ++ (x.map u8v ++ rows b) := by simp [rows]
  have e2 : rows ((a ++ x :: b).set a.length y) = rows a ++ (y.map u8v ++ rows b) := by simp [rows]
  rw [e1, e2]
  unfold splice
  have t1 : (rows a ++ (x.map u8v ++ rows b) ++ rest).take (a.length * 64) = rows a := by
    rw [List.append_assoc, List.take_append, List.take_of_length_le (by omega), hr, Nat.sub_self, List.take_zero, List.append_nil]
  have t2 : (rows a ++ (x.map u8v ++ rows b) ++ rest).drop (a.length * 64 + (y.map u8v).length) = rows b ++ rest := by
    rw [List.length_map, hy, List.append_assoc, List.drop_append, List.drop_of_length_le (by omega), List.nil_append, hr, show a.length * 64 + 64 - a.length * 64 = 64 by omega, List.append_assoc, List.drop_append, List.drop_of_length_le (by rw [List.length_map]; omega), List.nil_append, List.length_map, hx]
    simp
  rw [t1, t2]
  simp
theorem blk_ent {w : World} {g : Nat} {es : List (List UInt8)} {rest : List Value} {T : TypeId} (hb : Blk w g (rows es ++ rest) T) (h : All64 es) {k : Nat} {y : List UInt8} (hk : es[k]? = some y) : CellsAt w ((⟨g, 0, none⟩ : Addr).add (k * 64)) (y.map u8v) := by
  intro j u hu
  have hj : j < 64 := by have := (List.getElem?_eq_some_iff.1 hu).1; rw [List.length_map, h.at hk] at this; exact this
  rw [addr_add, addr_add, Nat.zero_add]
  refine hb.cell' ?_
  have h2 : (rows es)[k * 64 + j]? = some u := by rw [show k * 64 + j = 64 * k + j by omega, rows_at64 h hk hj]; exact hu
  rw [List.getElem?_append_left (List.getElem?_eq_some_iff.1 h2).1]
  exact h2
theorem swap_permE (ds : List (List UInt8)) {i j : Nat} {x y : List UInt8} (hi : ds[i]? = some x) (hj : ds[j]? = some y) : ((ds.set i y).set j x).Perm ds := by
  obtain ⟨h1, rfl⟩ := List.getElem?_eq_some_iff.1 hi
  obtain ⟨h2, rfl⟩ := List.getElem?_eq_some_iff.1 hj
  exact List.set_set_perm h1 h2
theorem All64.perm {a b : List (List UInt8)} (h : All64 a) (hp : b.Perm a) : All64 b := fun l hl => h l (hp.mem_iff.1 hl)

set_option maxRecDepth 100000 in
set_option maxHeartbeats 1000000 in
theorem reverseE_c (ds : List (List UInt8)) (rest : List Value) (g h c : Nat) (T : TypeId) (w : World) (hh : h ≤ ds.length) (hd : ds.length ≤ 1000) (h64 : All64 ds) (hb : Blk w g (rows ds ++ rest) T) :
    Calls Try.prog 25 #[.slice (some ⟨g, 0, none⟩) h c] w fun e w' => e = .returned (.tuple #[]) ∧ ∃ es, es.Perm ds ∧ Blk w' g (rows es ++ rest) T ∧ Upd w g w' := by
  obtain ⟨N, hN⟩ : ∃ N, ds.length = N := ⟨_, rfl⟩
  have HN := hid hN
  rw [hN] at hh hd
  have h0 : IntKind.i64.wrap ((h : Int) - 1) = (h : Int) - 1 := IntWalk.i64_in _ (by omega)
  have HB := hid hb
  clear hb hN
  go_enter Try.func25, Try.ntmps25
  go_wp2
  go_loopw [2, 3] (fun i j wr => ∃ (k : Nat) (m : Int) (es : List (List UInt8)), i = .int .i64 k ∧ j = .int .i64 m ∧ (k : Int) + m + 1 = (h : Int) ∧ k ≤ h ∧ es.Perm ds ∧ Blk wr g (rows es ++ rest) T ∧ Upd w g wr)
    (fun i _ _ => h - (intOf i).toNat)
  case atStart => exact ⟨0, (h : Int) - 1, ds, rfl, rfl, by omega, by omega, .refl _, HB.out, Upd.refl _ _⟩
  case round =>
    obtain ⟨k, m, es, rfl, rfl, hkm, hkh, hp, hbw, hu⟩ := hrel
    by_cases hlt : (k : Int) < m
    · obtain ⟨mn, rfl⟩ : ∃ mn : Nat, m = (mn : Int) := ⟨m.toNat, by omega⟩
      have hl : es.length = N := by rw [hp.length_eq, HN.out]
      obtain ⟨x, hx⟩ : ∃ x, es[k]? = some x := ⟨es[k]'(by omega), by simp⟩
      obtain ⟨y, hy⟩ : ∃ y, es[mn]? = some y := ⟨es[mn]'(by omega), by simp⟩
      have hkl : k < h := by omega
      have hml : mn < h := by omega
      have h3 : IntKind.i64.wrap ((k : Int) + 1) = (k : Int) + 1 := IntWalk.i64_in _ (by omega)
      have h4 : IntKind.i64.wrap ((mn : Int) - 1) = (mn : Int) - 1 := IntWalk.i64_in _ (by omega)
      have HP := hid hp
      have BW := hid hbw
      have UW := hid hu
      have HX := hid hx
      have HY := hid hy
      have HL := hid hl
      have H64 := hid (h64.perm hp)
      have hxl : (x.map u8v).length = 64 := by rw [List.length_map]; exact H64.out.at hx
      have hyl : (y.map u8v).length = 64 := by rw [List.length_map]; exact H64.out.at hy
      have HY64 := hid (H64.out.at hy)
      have HX64 := hid (H64.out.at hx)
      have HXL := hid hxl
      have HYL := hid hyl
      have hb1 : k * 64 + 64 ≤ (rows es ++ rest).length := by rw [List.length_append, rows_length64 H64.out]; omega
      have hb2 : mn * 64 + 64 ≤ (splice (rows es ++ rest) (k * 64) (y.map u8v)).length := by rw [splice_ent y H64.out HY64.out (by omega), List.length_append, rows_length64 (set64 H64.out HY64.out), List.length_set]; omega
      have ho1 := one_u8 x
      have ho2 := one_u8 y
      have HA := hid (⟨hb1, hb2, ho1, ho2⟩ : _ ∧ _ ∧ _ ∧ _)
      clear hp hbw hu hx hy hl hxl hyl hb1 hb2 ho1 ho2
      go_wp2_with fail
      obtain ⟨C, hC⟩ : ∃ C : World → Prop, C = Cls wr wr [g] [] := ⟨_, rfl⟩
      have hC0 : ∀ w', C w' ↔ Cls wr wr [g] [] w' := fun w' => by rw [hC]
      clear hC
      have HCC := hid hC0
      clear hC0
      have hCx : ∀ w w', C w → Ext w w' → C w' := fun w w' h1 h2 => (HCC.out w').2 (((HCC.out w).1 h1).ext h2)
      have hCA : C wr := (HCC.out _).2 (Cls.no_room (Ext.refl _) (Kept.one BW.out.lt))
      have hcx : ∀ w1, C w1 → CellsAt w1 ((⟨g, 0, none⟩ : Addr).add (k * 64)) (x.map u8v) := fun w1 h1 => blk_ent (((HCC.out w1).1 h1).blk BW.out (by simp)) H64.out HX.out
      have hcy : ∀ w1, C w1 → CellsAt w1 ((⟨g, 0, none⟩ : Addr).add (mn * 64)) (y.map u8v) := fun w1 h1 => blk_ent (((HCC.out w1).1 h1).blk BW.out (by simp)) H64.out HY.out
      refine wp_region_w (S := C) (W := [13, 15]) (by kernel_rfl) (hCx _ _ hCA (Ext.refl _).drew) (fun hS0 => ?_)
      refine w_pure 0 (v := ?tv1) rfl (by kernel_rfl) (by kernel_rfl) (by kernel_rfl) (fun _ _ _ h => h) (.inl ⟨rfl, ?ty1⟩) ?tr1
      case ty1 => (intro _ _; go_simp; try with_reducible rfl)
      case tr1 =>
      simp only [Act.put, List.setIfInBounds_toArray, List.set_cons_succ, List.set_cons_zero]
      refine w_pure 1 (v := ?tv2) rfl (by kernel_rfl) (by kernel_rfl) (by kernel_rfl) (fun _ _ _ h => h) (.inl ⟨rfl, ?ty2⟩) ?tr2
      case ty2 => (intro _ _; go_simp; try with_reducible rfl)
      case tr2 =>
      simp only [Act.put, List.setIfInBounds_toArray, List.set_cons_succ, List.set_cons_zero]
      refine w_pure 2 (v := ?tv3) rfl (by kernel_rfl) (by kernel_rfl) (by kernel_rfl) (fun _ _ _ h => h) (.inl ⟨rfl, ?ty3⟩) ?tr3
      case ty3 => (intro _ _; go_simp; try with_reducible rfl)
      case tr3 =>
      simp only [Act.put, List.setIfInBounds_toArray, List.set_cons_succ, List.set_cons_zero]
      refine w_pure 3 (v := ?tv4) rfl (by kernel_rfl) (by kernel_rfl) (by kernel_rfl) (fun _ _ _ h => h) (.inl ⟨rfl, ?ty4⟩) ?tr4
      case ty4 => (intro _ _; go_simp; try with_reducible rfl)
      case tr4 =>
      simp only [Act.put, List.setIfInBounds_toArray, List.set_cons_succ, List.set_cons_zero]
      refine w_pure 4 (v := ?tv5) rfl (by kernel_rfl) (by kernel_rfl) (by kernel_rfl) (fun _ _ _ h => h) (.inl ⟨rfl, ?ty5⟩) ?tr5
      case ty5 => (intro _ _; go_simp; try with_reducible rfl)
      case tr5 =>
      simp only [Act.put, List.setIfInBounds_toArray, List.set_cons_succ, List.set_cons_zero]
      refine w_pure 5 (v := ?tv6) rfl (by kernel_rfl) (by kernel_rfl) (by kernel_rfl) (fun _ _ _ h => h) (.inl ⟨rfl, ?ty6⟩) ?tr6
      case ty6 => (intro _ _; go_simp; try with_reducible rfl)
      case tr6 =>
      simp only [Act.put, List.setIfInBounds_toArray, List.set_cons_succ, List.set_cons_zero]
      refine w_pure 6 (v := _) rfl (by kernel_rfl) (by kernel_rfl) (by kernel_rfl) (fun _ _ _ h => h) (yieldsI_run rfl (fun w1 _ => exec_index (i := mn) rfl rfl rfl Try.underlying43 size_entry hml w1)) ?_
      simp only [Act.put, List.setIfInBounds_toArray, List.set_cons_succ, List.set_cons_zero]
      refine w_take 7 (v := _) rfl (by kernel_rfl) (by kernel_rfl) (by kernel_rfl) (by kernel_rfl) (by kernel_rfl) (fun _ _ _ h => h) (yieldsI_run rfl (fun w1 h => exec_load_at rfl rfl (hcy w1 h) agg_entry HYL.out)) hS0 ?_
      simp only [Act.put, List.setIfInBounds_toArray, List.set_cons_succ, List.set_cons_zero]
      refine w_pure 8 (v := ?tv7) rfl (by kernel_rfl) (by kernel_rfl) (by kernel_rfl) (fun _ _ _ h => h) (.inl ⟨rfl, ?ty7⟩) ?tr7
      case ty7 => (intro _ _; go_simp; try with_reducible rfl)
      case tr7 =>
      simp only [Act.put, List.setIfInBounds_toArray, List.set_cons_succ, List.set_cons_zero]
      refine w_pure 9 (v := ?tv8) rfl (by kernel_rfl) (by kernel_rfl) (by kernel_rfl) (fun _ _ _ h => h) (.inl ⟨rfl, ?ty8⟩) ?tr8
      case ty8 => (intro _ _; go_simp; try with_reducible rfl)
      case tr8 =>
      simp only [Act.put, List.setIfInBounds_toArray, List.set_cons_succ, List.set_cons_zero]
      refine w_pure 10 (v := _) rfl (by kernel_rfl) (by kernel_rfl) (by kernel_rfl) (fun _ _ _ h => h) (yieldsI_run rfl (fun w1 _ => exec_index (i := k) rfl rfl rfl Try.underlying43 size_entry hkl w1)) ?_
      simp only [Act.put, List.setIfInBounds_toArray, List.set_cons_succ, List.set_cons_zero]
      refine w_take 11 (v := _) rfl (by kernel_rfl) (by kernel_rfl) (by kernel_rfl) (by kernel_rfl) (by kernel_rfl) (fun _ _ _ h => h) (yieldsI_run rfl (fun w1 h => exec_load_at rfl rfl (hcx w1 h) agg_entry HXL.out)) hS0 ?_
      simp only [Act.put, List.setIfInBounds_toArray, List.set_cons_succ, List.set_cons_zero]
      refine w_pure 12 (v := _) rfl (by kernel_rfl) (by kernel_rfl) (by kernel_rfl) (fun _ _ _ h => h) (yieldsI_run rfl (fun w1 _ => exec_index (i := k) rfl rfl rfl Try.underlying43 size_entry hkl w1)) ?_
      simp only [Act.put, List.setIfInBounds_toArray, List.set_cons_succ, List.set_cons_zero]
      rw [addr_add, addr_add, Nat.zero_add, Nat.zero_add]
      have BG := hid (((HCC.out _).1 hS0).blk BW.out (by simp))
      have UG := hid (UW.out.drewE)
      clear hS0
      generalize wr.drew = wG at *
      refine w_late (i := 13) (by kernel_rfl) rfl (by kernel_rfl) ?_
      intro Q' hQ
      go_wp2_with (refine wpl_store rfl 51 _ _ rfl (g := g) (off := k * 64) (xs := (y.map u8v)) rfl rfl BG.out (by rw [HYL.out]; exact agg_entry) (by rw [HYL.out]; exact HA.out.1) HA.out.2.2.2 ?_)
      intro w1 b1 u1
      have B1 := hid b1
      have U1 := hid (UG.out.trans u1)
      clear b1 u1
      go_wp2_with fail
      refine hQ _ _ trivial ?_
      clear hQ Q'
      refine w_pure 14 (v := _) rfl (by kernel_rfl) (by kernel_rfl) (by kernel_rfl) (fun _ _ _ h => h) (yieldsI_run rfl (fun w1 _ => exec_index (i := mn) rfl rfl rfl Try.underlying43 size_entry hml w1)) ?_
      simp only [Act.put, List.setIfInBounds_toArray, List.set_cons_succ, List.set_cons_zero]
      rw [addr_add, Nat.zero_add]
      refine w_late (i := 15) (by kernel_rfl) rfl (by kernel_rfl) ?_
      intro Q' hQ
      go_wp2_with (refine wpl_store rfl 51 _ _ rfl (g := g) (off := mn * 64) (xs := (x.map u8v)) rfl rfl B1.out (by rw [HXL.out]; exact agg_entry) (by rw [HXL.out]; exact HA.out.2.1) HA.out.2.2.1 ?_)
      intro w2 b2 u2
      rw [splice_ent y H64.out HY64.out (by rw [HL.out]; omega), splice_ent x (set64 H64.out HY64.out) HX64.out (by rw [List.length_set, HL.out]; omega)] at b2
      have B2 := hid b2
      have U2 := hid (U1.out.trans u2)
      clear b2 u2
      go_wp2_with fail
      refine hQ _ _ trivial ?_
      clear hQ Q'
      refine w_done (by kernel_rfl) ?_ _
      go_wp2
      go_roundw
      case rel => exact ⟨k + 1, (mn : Int) - 1, _, by go_num, rfl, by omega, by omega, (swap_permE es HX.out HY.out).trans HP.out, B2.out, U2.out⟩
      case measure => simp [intOf]; omega
    · go_wp2
      go_end0
      exact ⟨rfl, es, hp, hbw, hu⟩
end

section
open Go Go.RowKit

theorem foldM_nz : ∀ (l : List StepR) (hs : List Ent), (∀ p ∈ hs, p.2 ≠ zero32) → ∀ p ∈ l.foldl stepM hs, p.2 ≠ zero32
  | [], hs, h, p, hp => h p hp
  | s :: l, hs, h, p, hp => by
    refine foldM_nz l (stepM hs s) ?_ p hp
    intro q hq
    unfold stepM at hq
    split at hq
    · split at hq
      · exact h q hq
      · rename_i hz
        unfold setK at hq
        have hv : keyL s.v ≠ zero32 := fun e => hz (by simp [e])
        split at hq
        · rcases List.mem_or_eq_of_mem_set hq with h1 | rfl
          · exact h q h1
          · exact hv
        · rcases List.mem_append.1 hq with h1 | h1
          · exact h q h1
          · rw [List.mem_singleton.1 h1]; exact hv
    · split at hq
      · unfold delK at hq
        split at hq
        · exact h q ((List.eraseIdx_sublist _ _).mem hq)
        · exact h q hq
      · exact h q hq
def splitE (y : List UInt8) : Ent := (y.take 32, y.drop 32)
theorem ents_back {es : List (List UInt8)} : entsL (es.map splitE) = es := by
  unfold entsL
  rw [List.map_map]
  have : ((fun p : Ent => p.1 ++ p.2) ∘ splitE) = id := by funext y; simp [splitE]
  rw [this, List.map_id]
theorem split_ents {hs : List Ent} (h : Ents hs) : (entsL hs).map splitE = hs := by
  unfold entsL
  rw [List.map_map]
  have : ∀ p ∈ hs, (splitE ∘ fun p : Ent => p.1 ++ p.2) p = p := fun p hp => by
    show ((p.1 ++ p.2).take 32, (p.1 ++ p.2).drop 32) = p
    rw [List.take_left' (h.k32 p hp), List.drop_left' (h.k32 p hp)]
  rw [List.map_congr_left this]
  simp
theorem Ents.perm {hs hs' : List Ent} (h : Ents hs) (hp : hs'.Perm hs) : Ents hs' :=
  ⟨fun p hq => h.k32 p (hp.mem_iff.1 hq), fun p hq => h.v32 p (hp.mem_iff.1 hq), (hp.map Prod.fst).nodup_iff.2 h.nodup⟩
theorem setK_next {hs : List Ent} (h : Ents hs) {j : Nat} {k v : List UInt8} (hj : hs[j]? = some (k, v)) : setK (hs.take j) k v = hs.take (j + 1) := by
  have hx : ixK k (hs.take j) = none := by
    rw [ixK_none]
    intro p hp he
    obtain ⟨i, hi, hip⟩ := List.mem_iff_getElem.1 hp
    have hil : i < j := by rw [List.length_take] at hi; omega
    have h1 : hs[i]? = some (k, p.2) := by
      rw [← he]
      have : (hs.take j)[i]? = some p := by rw [List.getElem?_eq_getElem hi, hip]
      rw [List.getElem?_take_of_lt hil] at this
      exact this
    have := nodup_idx h.nodup h1 hj
    omega
  unfold setK
  rw [hx, List.take_add_one, hj]
  rfl
theorem sorted_unique : ∀ {a b : List (List UInt8)}, a.Perm b → Sorted32 a → Sorted32 b → a = b
  | [], b, hp, _, _ => (List.nil_perm.1 hp).symm
  | x :: a, b, hp, ha, hb => by
    cases b with
    | nil => exact absurd hp.symm.nil_eq (by simp)
    | cons y b =>
      obtain ⟨ha1, ha2⟩ := List.pairwise_cons.1 ha
      obtain ⟨hb1, hb2⟩ := List.pairwise_cons.1 hb
      have hxy : x = y := by
        have hx : x ∈ y :: b := hp.mem_iff.1 (by simp)
        have hy : y ∈ x :: a := hp.mem_iff.2 (by simp)
        rcases List.mem_cons.1 hx with h | h
        · exact h
        · rcases List.mem_cons.1 hy with h2 | h2
          · exact h2.symm
          · have h3 := ltB_trans (hb1 x h) (ha1 y h2)
            rw [ltB_irrefl] at h3; cases h3
      subst hxy
      rw [sorted_unique ((List.perm_cons x).1 hp) ha2 hb2]

set_option maxRecDepth 100000 in
set_option maxHeartbeats 1000000 in
theorem reverseO_c (es : List (List UInt8)) (B n c : Nat) (a : Option Addr) (w : World) (h64 : All64 es) (hn : es.length = n) (hn1 : n ≤ 1000) (own : w.ownsRow B 51 64 (.slice a n c) n (rows es)) :
    Calls Try.prog 25 #[.slice a n c] w fun e w' => e = .returned (.tuple #[]) ∧ ∃ es', es'.Perm es ∧ w'.ownsRow B 51 64 (.slice a n c) n (rows es') ∧ w.grownBy w' (Value.slice a n c).ownBlock := by
  by_cases h0 : n = 0
  · subst h0
    have h1 : IntKind.i64.wrap (((0 : Nat) : Int) - 1) = -1 := by decide
    have HO := hid own
    clear own
    go_enter Try.func25, Try.ntmps25
    go_wp2
    go_loopw [2, 3] (fun i j wr => i = .int .i64 0 ∧ j = .int .i64 (-1) ∧ wr = w) (fun _ _ _ => 0)
    case atStart => exact ⟨rfl, by simp, rfl⟩
    case round =>
      obtain ⟨rfl, rfl, rfl⟩ := hrel
      go_wp2
      go_end0
      exact ⟨rfl, es, .refl _, HO.out, gby_self _ _⟩
  · obtain ⟨q, rfl⟩ := own_addr own (by omega)
    obtain ⟨rest, hb, hln, hrl, hB, hnc, hcm⟩ := own_block own
    refine (reverseE_c es rest q n c _ w (by omega) (by omega) h64 hb).mono ?_
    rintro e w' ⟨rfl, es', hp, hb', hu⟩
    refine ⟨rfl, es', hp, own_mk hb' ?_ ?_ hB hnc hcm, gby_upd (gby_self w _) hu⟩
    · rw [List.length_append, rows_length64 (h64.perm hp), hp.length_eq, ← rows_length64 h64, ← List.length_append]; exact hln
    · rw [rows_length64 (h64.perm hp), hp.length_eq, hn]; omega
end
end Go.Proofs.Ytkcjdginoccgjaa
