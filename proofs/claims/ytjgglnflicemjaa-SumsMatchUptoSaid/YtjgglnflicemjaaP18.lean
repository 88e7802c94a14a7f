/- The reference's Cover: what it computes; conditions: the lengths. And: what is covered twice. -/
import Derived.Test.YtjgglnflicemjaaP17
namespace Go.Proofs.Ytjgglnflicemjaa
open Go Go.RowKit

theorem mixTo_get (s t : List UInt8) (i j : Nat) : (mixTo s t i)[j]? = if j < i then (s[j]?).map (fun x => xor8 x (t[j]?.getD 0)) else s[j]? := by
  induction i generalizing j with
  | zero => simp [mixTo]
  | succ i ih =>
    rw [mixTo, List.getElem?_set, mixTo_length]
    by_cases h : i = j
    · subst h
      by_cases hl : i < s.length
      · simp [ih, hl]
      · simp [hl]
    · rw [if_neg h, ih]
      by_cases h1 : j < i
      · rw [if_pos h1, if_pos (by omega)]
      · rw [if_neg h1, if_neg (by omega)]
theorem cover_twice (k n t : List UInt8) : coverL k n (coverL k n t) = t := by
  apply List.ext_getElem?
  intro j
  have hl := coverL_length k n t
  have hs := strmL_length k n 0 t.length
  rw [coverL, hl, mixTo_get]
  by_cases hj : j < t.length
  · have h1 : t[j]? = some t[j] := List.getElem?_eq_getElem hj
    have h2 : (strmL k n 0 t.length)[j]? = some ((strmL k n 0 t.length)[j]'(by omega)) := List.getElem?_eq_getElem (by omega)
    rw [if_pos hj, coverL, mixTo_get, if_pos hj, h1, h2]
    simp only [Option.map_some, Option.getD_some, xor8]
    congr 1
    rw [← UInt8.xor_assoc]; simp
  · rw [if_neg hj, List.getElem?_eq_none (by omega), List.getElem?_eq_none (by omega)]

set_option maxRecDepth 100000 in
set_option maxHeartbeats 1000000 in
theorem rcover_c (k n t : List UInt8) (l c : Nat) (a : Option Addr) (w : World) (hk : k.length = 32) (hn : n.length = 16) (ht : t.length = l) (hl : l ≤ 1048576) (hlc : l ≤ c) (hcl : Cells w a (t.map u8v)) :
    Calls Try.prog 33 #[.agg (k.map u8v).toArray, .agg (n.map u8v).toArray, .slice a l c] w fun e w' =>
      ∃ v, e = .returned v ∧ w'.ownsRow w.heap.size 5 1 v l ((coverL k n t).map u8v) ∧ Ext w w' := by
  have HC := hid hcl
  have HT := hid ht
  have hstr := fun w => rstream_c k n 0 l w hk hn (by omega) hl
  have HK : Hid ((k.map u8v).length = 32) := hid (by rw [List.length_map, hk])
  have HN : Hid ((n.map u8v).length = 16) := hid (by rw [List.length_map, hn])
  have hcov : coverL k n t = mixTo (strmL k n 0 l) t l := by rw [coverL, ht]
  have hsl : (strmL k n 0 l).length = l := strmL_length _ _ _ _
  rw [hcov]
  clear hcl ht hk hn hcov
  generalize k.map u8v = kv at *
  generalize n.map u8v = nv at *
  generalize strmL k n 0 l = st at *
  have HSL := hid hsl
  clear hsl
  have kA : Blk ((w.alloc (.cells kv.toArray 54)).alloc (.cells nv.toArray 55)) w.heap.size kv 54 := (Blk.mk_alloc rfl rfl).alloc _
  have nA : Blk ((w.alloc (.cells kv.toArray 54)).alloc (.cells nv.toArray 55)) (w.heap.size + 1) nv 55 := Blk.mk_alloc (by simp) rfl
  have eA : Ext w ((w.alloc (.cells kv.toArray 54)).alloc (.cells nv.toArray 55)) := ((Ext.refl w).alloc _).alloc _
  have KA := hid kA
  have NA := hid nA
  have EA := hid eA
  clear kA nA eA
  go_enter Try.func33, Try.ntmps33
  go_wp2_with (first | (refine wpl_loadw rfl 54 _ rfl rfl KA.out agg_key HK.out ?_) | (refine wpl_loadw rfl 55 _ rfl rfl NA.out agg_nonce HN.out ?_))
  generalize (w.alloc (.cells kv.toArray 54)).alloc (.cells nv.toArray 55) = wA at *
  refine (hstr wA).mono ?_
  rintro e w1 ⟨v, rfl, own1, e1⟩
  have O1 := hid (own_lower (B' := w.heap.size) own1 EA.out.size)
  have E1 := hid (EA.out.ext e1)
  obtain ⟨a9, c9, rfl, -, -, -, -⟩ := own_slice own1
  clear own1 e1 hstr
  go_wp2
  go_loopw [16] (fun x wr => ∃ i : Nat, i ≤ l ∧ x = .int .i64 i ∧ Hid (wr.ownsRow w.heap.size 5 1 (.slice a9 l c9) l ((mixTo st t i).map u8v)) ∧ Hid (Ext w wr))
    (fun x _ => l - (intOf x).toNat)
  case atStart => exact ⟨0, by omega, rfl, O1, E1⟩
  case round =>
    obtain ⟨i, hi, rfl, ho, he⟩ := hrel
    by_cases hlt : i < l
    · have hd : decide ((i : Int) < (l : Int)) = true := decide_eq_true (by omega)
      obtain ⟨g, cap, hv, hg, hlcap, hcapm⟩ := own_some ho.out (by omega)
      obtain ⟨rfl, -, rfl⟩ : a9 = some ⟨g, 0, none⟩ ∧ True ∧ c9 = cap := by injection hv with h1 h2 h3; exact ⟨h1, trivial, h3⟩
      obtain ⟨b, off, rfl, hcell⟩ := (HC.out.ext he.out).some_of (by rw [List.length_map, HT.out]; omega)
      have c1 := hcell i _ (u8_at (by rw [HT.out]; exact hlt))
      have hml : (mixTo st t i).length = l := by rw [mixTo_length]; exact HSL.out
      have hmx : mixTo st t (i + 1) = (mixTo st t i).set i (xor8 ((mixTo st t i)[i]?.getD 0) (t[i]?.getD 0)) := rfl
      generalize mixTo st t i = ws at *
      have HMX := hid hmx
      have c2 := ho.out.cellAt i (by omega)
      rw [u8_at (by omega)] at c2
      have f2 := ho.out.frozenAt i
      have hxo := xor8_b (ws[i]?.getD 0) (t[i]?.getD 0)
      have i0 : (0 : Int) ≤ (i : Int) := by omega
      have i1 : (i : Int) < (l : Int) := by omega
      clear hcell hmx hml hv
      go_wp2
      refine wp_region_cls (C := fun w' => ∃ n, w' = wr.drewN n) 10 (by kernel_rfl) (by kernel_rfl) ⟨1, rfl⟩ ?_
      simp only [List.take_succ_cons, List.take_zero, List.drop_succ_cons, List.drop_zero]
      iterate 10 quiet_step (fail)
      refine wpQuiet_nil ?_
      rintro _ ⟨nq, rfl⟩
      go_wp2
      have on : (wr.drewN nq).ownsRow w.heap.size 5 1 (.slice (some ⟨g, 0, none⟩) l c9) l (ws.map u8v) := ho.out
      have hs := on.stored i (u8v (xor8 (ws[i]?.getD 0) (t[i]?.getD 0)))
      rw [← List.map_set, ← HMX.out] at hs
      have O2 := hid hs.1
      have E2 := hid ((he.out.drewN nq).grown hs.2 (by intro k hk; cases hk; exact hg))
      go_roundw
      case rel => exact ⟨i + 1, by omega, by go_num, O2, E2⟩
      case measure => simp [intOf]; omega
    · have hil : i = l := by omega
      subst hil
      go_wp2
      go_ret
      exact ⟨_, rfl, ho.out, he.out⟩
end Go.Proofs.Ytjgglnflicemjaa
