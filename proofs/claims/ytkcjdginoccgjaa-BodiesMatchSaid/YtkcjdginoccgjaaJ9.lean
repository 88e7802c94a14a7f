/- Contracts and laws that the claim's row leans on (7 texts, joined): keyref1.PrintBody; conditions: the body's memory. BodiesMatch is true; conditions: the sizes. Readings of arguments are opened; no condition. Readings of slices of octets are opened; no condition. Readings of slices of rows of 32 octets, and of a struct of two ints and such a slice, are opened; no condition. Readings of rows of strings and of parts of structs, with their sizes (taken out of O9); no condition. Readings of bodies are opened; no condition. -/
import Derived.Test.YtkcjdginoccgjaaJ8
import Derived.ProofKit
import Derived.OpenShut
import Derived.ChangeSlices
import Derived.WideShapes
import Derived.SizedLaws
import Derived.Deep.Strs
namespace Go.Proofs.Ytkcjdginoccgjaa
section
open Go Go.RowKit

theorem Tch.ext0 {W w w' : World} {B g : Nat} (h : Ext W w) (t : Tch B g w w') (hB : W.heap.size ≤ B) (hg : W.heap.size ≤ g) : Ext W w' :=
  ⟨t.os.trans h.os, t.tape.trans h.tape, t.output.trans h.output, Nat.le_trans h.size t.size, fun k hk => (t.block k (by omega) (by omega)).trans (h.block k hk)⟩

set_option maxRecDepth 100000 in
set_option maxHeartbeats 16000000 in
theorem rprintBody_c (act : Int) (b : BodyR) (w : World) (hr : b.Ok w) :
    Calls Try.prog 38 #[.int .i64 act, .agg b.v.toArray] w fun e w' => Ext w w' ∧ ((bodyE act b = 0 ∧ ∃ v, e = .returned (.tuple #[v, .int .i64 0]) ∧ OwnM w' w.heap.size v (printL (seqOf act) b.p).length (printL (seqOf act) b.p)) ∨ (bodyE act b ≠ 0 ∧ e = .returned (.tuple #[.slice none 0 0, .int .i64 (bodyE act b)]))) := by
  have HR := hid hr
  clear hr
  have hbf := hid (bodyError_c act b)
  go_enter Try.func38, Try.ntmps38
  go_upto_region 1 with (fail)
  generalize hwA : World.alloc w _ = wA
  have bA : Blk wA w.heap.size b.v 72 := by rw [← hwA]; exact Blk.mk_alloc rfl rfl
  have eA : Ext w wA := by rw [← hwA]; exact (Ext.refl w).alloc _
  have BA := hid bA
  have EA := hid eA
  have HLEN := hid (BodyR.len HR.out)
  clear hwA bA eA
  go_wp2_with (refine wpl_loadw rfl 72 (.tmp 3) rfl rfl BA.out agg_body HLEN.out ?_)
  refine (hbf.out wA (HR.out.ext EA.out)).mono ?_
  rintro e w2 ⟨rfl, e2⟩
  have BB := hid (BA.out.ext e2)
  have EB := hid (EA.out.ext e2)
  clear e2 BA EA hbf
  by_cases hE : bodyE act b = 0
  rotate_left
  · obtain ⟨E, hEE⟩ : ∃ E, bodyE act b = E := ⟨_, rfl⟩
    rw [hEE] at hE ⊢
    have d1 : (E != 0) = true := by simpa using hE
    have HE := hid hE
    have HEE := hid hEE
    clear hEE hE
    go_wp2_with fail
    go_ret2
    exact ⟨EB.out, .inr ⟨by rw [HEE.out]; exact HE.out, by rw [HEE.out]; rfl⟩⟩
  have RG := hid (right_of hE)
  have SM := hid (right_of hE).small
  have HE := hid hE
  rw [hE]
  clear hE
  have hla := RG.out.isa
  have hact : 1 ≤ act ∧ act ≤ 12 := by unfold lactB at hla; simpa using hla
  obtain ⟨K, rfl⟩ : ∃ K : Nat, act = (K : Int) := ⟨act.toNat, by omega⟩
  have huse := hid (fun w => uses_c K w (by omega))
  have hus := uses_seq hla
  rw [show (K : Int).toNat = K from rfl] at hus
  have hnd := seq_nodup hla
  have hal := seq_alone hla
  obtain ⟨SQ, hSQ⟩ : ∃ SQ, seqOf (K : Int) = SQ := ⟨_, rfl⟩
  have HSQ := hid hSQ
  rw [hSQ] at hus hnd hal
  obtain ⟨us, huu⟩ : ∃ us : ByteArray, (⟨(usesL K).toArray⟩ : ByteArray) = us := ⟨_, rfl⟩
  rw [huu] at huse
  have husl : us.data.toList = SQ.map letter := by rw [← huu, ← hus]
  have huss : us.size = SQ.length := by
    have h9 := congrArg List.length husl
    rw [Array.length_toList, List.length_map] at h9; exact h9
  have hsq12 : SQ.length ≤ 12 := by
    rw [← hSQ]
    rcases acts12 hla with h | h | h | h | h | h | h | h | h | h | h | h <;> rw [h] <;> decide
  have HUSL := hid husl
  have HUSS := hid huss
  have HND := hid hnd
  have HAL := hid hal
  have HZ := hid RG.out.zeros
  clear hus huu husl huss hnd hal hSQ hla hact
  go_upto_region 5 with (fail)
  generalize hwD : World.alloc w2 _ = wD
  obtain ⟨gb, hgb⟩ : ∃ gb, w2.heap.size = gb := ⟨_, rfl⟩
  have vD : Blk wD gb [.slice none 0 0] ST := by rw [← hwD, ← hgb]; exact Blk.mk_alloc rfl rfl
  have eD : Ext w2 wD := by rw [← hwD]; exact (Ext.refl w2).alloc _
  have h0b : w.heap.size < gb := by rw [← hgb]; exact BB.out.lt
  rw [hgb]
  have BD := hid (BB.out.ext eD)
  have ED := hid (EB.out.ext eD)
  have VD := hid vD
  clear hwD hgb vD eD BB EB
  go_wp2_with fail
  refine (huse.out wD).mono ?_
  rintro e w3 ⟨rfl, e3⟩
  have BC := hid (BD.out.ext e3)
  have EC := hid (ED.out.ext e3)
  have VC := hid (VD.out.ext e3)
  have hbl : gb < w3.heap.size := VC.out.lt
  clear e3 BD ED VD huse
  go_wp2_with fail
  obtain ⟨gi, hgi⟩ : ∃ gi, w3.heap.size = gi := ⟨_, rfl⟩
  have hit0 := World.iter_heap w3 us 0
  have eI : Ext w3 (w3.iter us 0) := (Ext.refl w3).alloc _
  have hsI : (w3.iter us 0).heap.size = gi + 1 := by rw [← hgi]; exact size_alloc w3 _
  rw [hgi] at hit0 hbl ⊢
  have h0i : w.heap.size ≠ gi := by omega
  have hbi : gb ≠ gi := by omega
  have hib : gi ≠ gb := by omega
  have h0i2 : w.heap.size ≤ gi := by omega
  have h0B : w.heap.size < gi + 1 := by omega
  have hbB : gb < gi + 1 := by omega
  have hiB : gi < gi + 1 := by omega
  have I0 : PRInv w gb gi (gi + 1) us b 40000 [] (w3.iter us 0) (.slice none 0 0) :=
    ⟨BC.out.ext eI, VC.out.ext eI, ⟨rfl, .inl ⟨rfl, rfl⟩⟩, by simp [printL], EC.out.ext eI, by rw [hsI]; exact Nat.le_refl _, hit0⟩
  clear hit0 eI hsI BC EC VC hgi
  go_loopg [] SQ.length (fun gf wx => ∃ (k : Nat) (v : Value), k ≤ SQ.length ∧ PRInv w gb gi (gi + 1) us b 40000 (SQ.take k) wx v ∧ SQ.length ≤ k + gf)
  case atStart => exact ⟨0, .slice none 0 0, by omega, by simpa using I0, by omega⟩
  case round =>
    obtain ⟨k, v, hk, hI, hfu⟩ := hrel
    clear I0
    have htl : (SQ.take k).length = k := by rw [List.length_take]; omega
    by_cases hps : k < SQ.length
    · obtain ⟨g', rfl⟩ : ∃ g', gk = g' + 1 := ⟨gk - 1, by omega⟩
      obtain ⟨i, hi⟩ : ∃ i, SQ[k]? = some i := ⟨_, List.getElem?_eq_getElem hps⟩
      have htk : SQ.take (k + 1) = SQ.take k ++ [i] := by rw [List.take_add_one, hi]; rfl
      have hi12 : i < 12 := HND.out.2 i (List.mem_of_getElem? hi)
      have HMEM := hid (List.mem_of_getElem? hi)
      have hpu : k < us.size := by rw [HUSS.out]; exact hps
      have hit := hI.it
      rw [htl] at hit
      have hnx : ∀ ty, (Instr.next (.pointer (some ⟨gi, 0, none⟩)) true ty).run Try.prog wr = _ := fun ty => Lib.run_next_any_at wr gi us k ty hit hpu
      have huk : us[k]'hpu = letter i := by
        have h9 : us.data.toList[k]? = some (letter i) := by rw [HUSL.out, List.getElem?_map, hi]; rfl
        rw [Array.getElem?_toList] at h9
        exact (Array.getElem?_eq_some_iff.1 h9).2
      have hasc : (us[k]'hpu).toNat < 128 := by
        rw [huk]
        rcases (by omega : i = 0 ∨ i = 1 ∨ i = 2 ∨ i = 3 ∨ i = 4 ∨ i = 5 ∨ i = 6 ∨ i = 7 ∨ i = 8 ∨ i = 9 ∨ i = 10 ∨ i = 11) with rfl | rfl | rfl | rfl | rfl | rfl | rfl | rfl | rfl | rfl | rfl | rfl <;> decide
      have hdec := decode_ascii us k hpu hasc
      rw [huk] at hdec
      rw [hdec] at hnx
      have hM : PRMid w gb gi (gi + 1) us b 40000 (SQ.take k) (wr.iterAt gi us (k + 1)) v :=
        hI.next h0i hbi h0i2 hiB (fun j hj => Lib.iterAt_other wr gi j us (k + 1) hj) (Lib.iterAt_size ..) ⟨rfl, rfl, rfl⟩ (by rw [htl]; exact Lib.iterAt_heap wr gi us k (k + 1) hit)
      have HTK := hid htk
      clear hI hit hdec huk hasc htk hi
      simp only at hnx
      generalize wr.iterAt gi us (k + 1) = wX at *
      have hrel9 : ∀ wz v2, PRInv w gb gi (gi + 1) us b 40000 (SQ.take k ++ [i]) wz v2 → ∃ (k : Nat) (v : Value), k ≤ SQ.length ∧ PRInv w gb gi (gi + 1) us b 40000 (SQ.take k) wz v ∧ SQ.length ≤ k + g' :=
        fun wz v2 h => ⟨k + 1, v2, by omega, by rw [HTK.out]; exact h, by omega⟩
      have HREL := hid hrel9
      clear hrel9 HTK
      obtain ⟨av, cv, hvv, hncv, hcmv, hn0v, hclv⟩ := hM.own.slice
      subst hvv
      have hln := hM.len
      rw [htl] at hln
      have hln2 : (printL (SQ.take k) b.p).length ≤ 480000 := by
        have : 40000 * k ≤ 40000 * 12 := Nat.mul_le_mul_left _ (by omega)
        omega
      have own0 := hM.own
      have kvr := hM.var.cell' (i := 0) (v := .slice av (printL (SQ.take k) b.p).length cv) rfl
      obtain ⟨LL, hLL⟩ : ∃ LL, printL (SQ.take k) b.p = LL := ⟨_, rfl⟩
      rw [hLL] at own0 hln2 kvr
      have VAR := hid hM.var
      rw [hLL] at VAR
      have HLL := hid hLL
      have OWN := hid own0
      have hle := hM.le
      have HBK := hid hM.body
      have HKX := hid (HR.out.ext hM.ext)
      clear hLL own0 hln hclv hncv hcmv hn0v
      rcases (by omega : i = 0 ∨ i = 1 ∨ i = 2 ∨ i = 3 ∨ i = 4 ∨ i = 5 ∨ i = 6 ∨ i = 7 ∨ i = 8 ∨ i = 9 ∨ i = 10 ∨ i = 11) with rfl | rfl | rfl | rfl | rfl | rfl | rfl | rfl | rfl | rfl | rfl | rfl
      · rw [show (letter 0).toNat = 116 from rfl] at hnx
        have p0 := HBK.out.cell' (BodyR.at0 b)
        have hts := SM.out.t
        go_wp2_with (at_builtin; refine wpl_appendMS rfl _ _ rfl (gi + 1) rfl rfl OWN.out (by omega) hle ?_)
        intro v4 w4 own4 g4
        have BEL := (Below.refl (gi + 1) wX).grown g4 hle OWN.out.block_ge
        have E4 := hid (show Tch (gi + 1) gb wX w4 from (Tch.below BEL))
        have O4 := hid own4
        have hb4 : Blk w4 gb [.slice av LL.length cv] ST := Below.blkB (BEL) hbB VAR.out
        have kb := hb4.cell' (i := 0) (v := .slice av LL.length cv) rfl
        have fb := hb4.frozen 0
        obtain ⟨a6, c6, rfl, -, -, -, -⟩ := O4.out.slice
        have HB4 := hid hb4
        clear hb4 own4 g4
        go_wp2_with fail
        generalize hwC : World.setCell w4 _ _ = wC
        have bC : Blk wC gb [.slice a6 (LL.length + b.text.size) c6] ST := by rw [← hwC]; exact HB4.out.set 0 (.slice a6 (LL.length + b.text.size) c6)
        have uC : Upd w4 gb wC := by rw [← hwC]; exact Upd.setCell _
        have htc : Tch (gi + 1) gb wX wC := E4.out.trans (Tch.upd uC)
        have ownC := O4.out.turn (w' := wC) fun i hi _ => uC.block i (by omega)
        rw [show LL ++ b.text.data.toList = printL (SQ.take k) b.p ++ fieldL 0 b.p from by rw [HLL.out]; exact congrArg _ (rfl)] at ownC
        have hfin := HREL.out _ _ (hM.next (i := 0) h0b hib h0B hiB htc bC ownC (by show b.text.data.toList.length ≤ _; rw [Array.length_toList]; exact Nat.le_trans SM.out.t (by decide)))
        have HFIN := hid hfin
        clear hwC bC uC htc ownC hfin kb fb
        go_wp2_with fail
        go_roundg g'
        case measure => omega
        case rel => exact HFIN.out
      · rw [show (letter 1).toNat = 109 from rfl] at hnx
        obtain ⟨C, hC⟩ : ∃ C : World → Prop, C = fun w' => Blk w' gb [.slice av LL.length cv] ST ∧ Blk w' w.heap.size b.v 72 := ⟨_, rfl⟩
        have hC0 : ∀ w', C w' ↔ (Blk w' gb [.slice av LL.length cv] ST ∧ Blk w' w.heap.size b.v 72) := fun w' => by rw [hC]
        clear hC
        have HCC := hid hC0
        clear hC0
        have hCx : ∀ w w', C w → Ext w w' → C w' := fun w w' h1 h2 => (HCC.out w').2 ⟨((HCC.out w).1 h1).1.ext h2, ((HCC.out w).1 h1).2.ext h2⟩
        have hCA : C wX := (HCC.out _).2 ⟨VAR.out, HBK.out⟩
        clear kvr
        have HML := hid HR.out.hm
        go_upto_region 13 with (fail)
        refine wp_region_w (S := C) (W := [4]) (by kernel_rfl) (hCx _ _ hCA (Ext.refl _).drew) (fun hS0 => ?_)
        refine w_take 0 (v := ?tv1) rfl (by kernel_rfl) (by kernel_rfl) (by kernel_rfl) (by kernel_rfl) (by kernel_rfl) (fun _ _ _ h => h) (.inl ⟨rfl, ?ty1⟩) hS0 ?tr1
        case ty1 => (intro wq hwq; have hcq := (fun w1 h => ((HCC.out w1).1 h).1.cell' (i := 0) (v := .slice av LL.length cv) rfl) wq hwq; go_simp; try with_reducible rfl)
        case tr1 =>
        simp only [Act.put, List.setIfInBounds_toArray, List.set_cons_succ, List.set_cons_zero]
        refine w_pure 1 (v := ?tv2) rfl (by kernel_rfl) (by kernel_rfl) (by kernel_rfl) (fun _ _ _ h => h) (.inl ⟨rfl, ?ty2⟩) ?tr2
        case ty2 => (intro _ _; go_simp; try with_reducible rfl)
        case tr2 =>
        simp only [Act.put, List.setIfInBounds_toArray, List.set_cons_succ, List.set_cons_zero]
        refine w_one (i := 2) (by kernel_rfl) rfl (by kernel_rfl) hS0 ?_
        intro Q' hQ
        go_wp2_with fail
        refine hQ _ _ hS0 ?_
        clear hQ Q'
        try dsimp only
        try simp only [Act.put, List.setIfInBounds_toArray, List.set_cons_succ, List.set_cons_zero]
        refine w_one (i := 3) (by kernel_rfl) rfl (by kernel_rfl) hS0 ?_
        intro Q' hQ
        go_wp2_with (at_builtin; refine wpl_appendM rfl _ _ rfl (gi + 1) (ys := b.member) rfl rfl (OWN.out.ext (Ext.refl wX).drew) HML.out ((BodyR.memb HKX.out HBK.out).ext (Ext.refl wX).drew) (by omega) hle ?_)
        intro v4 w4 own4 g4
        have BEL : Below (gi + 1) wX w4 := ((Below.refl (gi + 1) wX).drew).grown g4 hle OWN.out.block_ge
        have hS9 : C w4 := (HCC.out _).2 ⟨Below.blkB BEL hbB VAR.out, Below.blkB BEL h0B HBK.out⟩
        have E4 := hid (show Tch (gi + 1) gb wX w4 from (Tch.below BEL))
        have O4 := hid own4
        have hb4 : Blk w4 gb [.slice av LL.length cv] ST := Below.blkB (BEL) hbB VAR.out
        have kb := hb4.cell' (i := 0) (v := .slice av LL.length cv) rfl
        have fb := hb4.frozen 0
        obtain ⟨a6, c6, rfl, -, -, -, -⟩ := O4.out.slice
        have HB4 := hid hb4
        clear hb4 own4 g4
        go_wp2_with fail
        refine hQ _ _ hS9 ?_
        clear hQ Q' hS0
        try dsimp only
        try simp only [Act.put, List.setIfInBounds_toArray, List.set_cons_succ, List.set_cons_zero]
        refine w_late (i := 4) (by kernel_rfl) rfl (by kernel_rfl) ?_
        intro Q' hQ
        go_wp2_with fail
        generalize hwC : World.setCell w4 _ _ = wC
        have bC : Blk wC gb [.slice a6 (LL.length + 16) c6] ST := by rw [← hwC]; exact HB4.out.set 0 (.slice a6 (LL.length + 16) c6)
        have uC : Upd w4 gb wC := by rw [← hwC]; exact Upd.setCell _
        have htc : Tch (gi + 1) gb wX wC := E4.out.trans (Tch.upd uC)
        have ownC := O4.out.turn (w' := wC) fun i hi _ => uC.block i (by omega)
        refine hQ _ _ trivial ?_
        try dsimp only
        try simp only [Act.put, List.setIfInBounds_toArray, List.set_cons_succ, List.set_cons_zero]
        refine w_done (by kernel_rfl) ?_ _
        rw [show LL ++ b.member = printL (SQ.take k) b.p ++ fieldL 1 b.p from by rw [HLL.out]; exact congrArg _ (rfl)] at ownC
        have hfin := HREL.out _ _ (hM.next (i := 1) h0b hib h0B hiB htc bC ownC (by show b.member.length ≤ _; rw [HML.out]; decide))
        have HFIN := hid hfin
        clear hwC bC uC htc ownC hfin kb fb
        go_wp2_with fail
        go_roundg g'
        case measure => omega
        case rel => exact HFIN.out
      · rw [show (letter 2).toNat = 114 from rfl] at hnx
        have c17 := HBK.out.cell' (BodyR.at17 HKX.out)
        have hrn := SM.out.rn
        have hwn : IntKind.u8.wrap (b.rn : Int) = ((octI (b.rn : Int)).toNat : Int) := wrap_octI _
        obtain ⟨oc, hoc⟩ : ∃ oc, octI (b.rn : Int) = oc := ⟨_, rfl⟩
        rw [hoc] at hwn
        have HOC := hid hoc
        have HRL := hid HR.out.rl
        clear hoc
        go_upto_region 16 with (at_builtin; refine wpl_appendM rfl _ _ rfl (gi + 1) (ys := [oc]) rfl rfl (OWN.out.ext ((Ext.refl _).alloc _)) rfl (news_blk (Blk.mk_alloc rfl rfl)) (by omega) (Nat.le_trans hle (by rw [size_alloc]; exact Nat.le_succ _)) ?_)
        intro v4 w4 own4 g4
        have BEL : Below (gi + 1) wX w4 := ((Below.refl (gi + 1) wX).alloc hle _).grown g4 (Nat.le_trans hle (by rw [size_alloc]; exact Nat.le_succ _)) OWN.out.block_ge
        have E4 := hid (show Tch (gi + 1) gb wX w4 from (Tch.below BEL))
        have O4 := hid own4
        have hb4 : Blk w4 gb [.slice av LL.length cv] ST := Below.blkB (BEL) hbB VAR.out
        have kb := hb4.cell' (i := 0) (v := .slice av LL.length cv) rfl
        have fb := hb4.frozen 0
        obtain ⟨a6, c6, rfl, -, -, -, -⟩ := O4.out.slice
        have HB4 := hid hb4
        clear hb4 own4 g4
        clear kvr hwn c17
        go_upto_region 16 with (fail)
        generalize hwC : World.setCell w4 _ _ = wC
        have bC : Blk wC gb [.slice a6 (LL.length + 1) c6] ST := by rw [← hwC]; exact HB4.out.set 0 (.slice a6 (LL.length + 1) c6)
        have uC : Upd w4 gb wC := by rw [← hwC]; exact Upd.setCell _
        have htc : Tch (gi + 1) gb wX wC := E4.out.trans (Tch.upd uC)
        have ownC := O4.out.turn (w' := wC) fun i hi _ => uC.block i (by omega)
        have BKC := hid (htc.blk h0B (by omega) HBK.out)
        have c17b := BKC.out.cell' (BodyR.at17 HKX.out)
        have TC := hid htc
        have OC := hid ownC
        have VC9 := hid bC
        clear hwC bC uC htc ownC kb fb E4 O4 HB4
        go_wp2_with fail
        go_loopw [53] (fun i wr => ∃ (k1 : Nat) (v' : Value), k1 ≤ b.rn ∧ i = .int .i64 (k1 : Int) ∧ OwnM wr (gi + 1) v' (LL.length + 1 + ((b.roles.take k1).map textL).flatten.length) ((LL ++ [oc]) ++ ((b.roles.take k1).map textL).flatten) ∧ Blk wr gb [v'] ST ∧ Tch (gi + 1) gb wX wr) (fun i _ => b.rn - (intOf i).toNat)
        case atStart => exact ⟨0, _, by omega, rfl, by simpa using OC.out, VC9.out, TC.out⟩
        case round =>
          obtain ⟨k1, v', hk1, rfl, own5, var5, t5⟩ := hrel
          have ew : Ext w wr := Tch.ext0 hM.ext t5 (by omega) (by omega)
          have hlen4 := roles_part SM.out k1 (by omega)
          by_cases hlt : k1 < b.rn
          · have d1 : decide ((k1 : Int) < (b.rn : Int)) = true := decide_eq_true (by omega)
            have d2 : decide (k1 < b.rn) = true := decide_eq_true hlt
            have HRL2 := HRL.out
            obtain ⟨x, hxk⟩ : ∃ x, b.roles[k1]? = some x := ⟨b.roles[k1]'(by omega), List.getElem?_eq_getElem _⟩
            obtain ⟨A, hA, hcx⟩ := strs_at (HR.out.rcell.ext ew) hxk
            have HCX := hid hcx
            have HA := hid hA
            have hxs := SM.out.rs x (List.mem_of_getElem? hxk)
            have HST := hid (roles_step hxk)
            obtain ⟨P, hP⟩ : ∃ P, ((b.roles.take k1).map textL).flatten = P := ⟨_, rfl⟩
            rw [hP] at own5 hlen4 HST
            have O5 := hid own5
            have V5 := hid var5
            have T5 := hid t5
            have hle4 : gi + 1 ≤ wr.heap.size := Nat.le_trans hle t5.size
            clear hcx hA hxk hP own5 var5 t5 HRL2 c17b
            go_wp2_with (first | (refine wpg_run rfl (exec_index (p := A) (i := k1) rfl (by show Value.slice b.ra b.rn b.rc = _; rw [HA.out]) rfl Try.underlying69 size_str hlt _) ?_) | (refine wpg_run rfl (exec_load_oneU rfl rfl HCX.out one_str) ?_))
            refine (text81_c _ x v' _ (gi + 1) gb wr O5.out V5.out hbB hle4 (by omega)).mono ?_
            rintro e w6 ⟨v6, rfl, own6, var6, t6⟩
            have O6 := hid own6
            have V6 := hid var6
            have T6 := hid (T5.out.trans t6)
            clear own6 var6 t6 O5 V5 T5
            go_wp2_with fail
            go_roundw
            case rel => exact ⟨k1 + 1, v6, by omega, by go_num, by rw [HST.out, List.length_append, textL_len, ← List.append_assoc]; have h9 := O6.out; rw [show LL.length + 1 + (P.length + (x.size + 1)) = LL.length + 1 + P.length + (x.size + 1) by omega]; exact h9, V6.out, T6.out⟩
            case measure => simp [intOf]; omega
          · have d1 : decide ((k1 : Int) < (b.rn : Int)) = false := decide_eq_false (by omega)
            have d2 : decide (k1 < b.rn) = false := decide_eq_false hlt
            have htk : b.roles.take k1 = b.roles := List.take_of_length_le (by rw [HRL.out]; omega)
            rw [htk] at own5
            rw [show (LL ++ [oc]) ++ (b.roles.map textL).flatten = printL (SQ.take k) b.p ++ fieldL 2 b.p from by
              rw [HLL.out, ← HOC.out, octI_nat, ← HRL.out]
              show _ = LL ++ rolesL b.roles
              unfold rolesL; simp] at own5
            have hfin := HREL.out _ _ (hM.next (i := 2) h0b hib h0B hiB t5 var5 own5 (Nat.le_trans (rolesL_len SM.out HRL.out) (by decide)))
            have HFIN := hid hfin
            clear own5 var5 t5 htk hfin c17b
            go_wp2_with fail
            go_roundg g'
            case measure => omega
            case rel => exact HFIN.out
      · rw [show (letter 3).toNat = 108 from rfl] at hnx
        have k18 := HBK.out.cell' (BodyR.at18 HKX.out)
        have hsl := SM.out.l
        go_wp2_with fail
        refine (text81_c LL b.label _ LL.length (gi + 1) gb wX OWN.out VAR.out hbB hle (by omega)).mono ?_
        rintro e wC ⟨v4, rfl, ownC, bC, htc⟩
        rw [show LL ++ textL b.label = printL (SQ.take k) b.p ++ fieldL 3 b.p from by rw [HLL.out]; rfl] at ownC
        have hfin := HREL.out _ _ (hM.next (i := 3) h0b hib h0B hiB htc bC ownC (by show (textL b.label).length ≤ _; rw [textL_len]; omega))
        have HFIN := hid hfin
        clear bC htc ownC hfin
        go_wp2_with fail
        go_roundg g'
        case measure => omega
        case rel => exact HFIN.out
      · rw [show (letter 4).toNat = 99 from rfl] at hnx
        obtain ⟨C, hC⟩ : ∃ C : World → Prop, C = fun w' => Blk w' gb [.slice av LL.length cv] ST ∧ Blk w' w.heap.size b.v 72 := ⟨_, rfl⟩
        have hC0 : ∀ w', C w' ↔ (Blk w' gb [.slice av LL.length cv] ST ∧ Blk w' w.heap.size b.v 72) := fun w' => by rw [hC]
        clear hC
        have HCC := hid hC0
        clear hC0
        have hCx : ∀ w w', C w → Ext w w' → C w' := fun w w' h1 h2 => (HCC.out w').2 ⟨((HCC.out w).1 h1).1.ext h2, ((HCC.out w).1 h1).2.ext h2⟩
        have hCA : C wX := (HCC.out _).2 ⟨VAR.out, HBK.out⟩
        clear kvr
        have HML := hid HR.out.hcm
        go_upto_region 24 with (fail)
        refine wp_region_w (S := C) (W := [4]) (by kernel_rfl) (hCx _ _ hCA (Ext.refl _).drew) (fun hS0 => ?_)
        refine w_take 0 (v := ?tv3) rfl (by kernel_rfl) (by kernel_rfl) (by kernel_rfl) (by kernel_rfl) (by kernel_rfl) (fun _ _ _ h => h) (.inl ⟨rfl, ?ty3⟩) hS0 ?tr3
        case ty3 => (intro wq hwq; have hcq := (fun w1 h => ((HCC.out w1).1 h).1.cell' (i := 0) (v := .slice av LL.length cv) rfl) wq hwq; go_simp; try with_reducible rfl)
        case tr3 =>
        simp only [Act.put, List.setIfInBounds_toArray, List.set_cons_succ, List.set_cons_zero]
        refine w_pure 1 (v := ?tv4) rfl (by kernel_rfl) (by kernel_rfl) (by kernel_rfl) (fun _ _ _ h => h) (.inl ⟨rfl, ?ty4⟩) ?tr4
        case ty4 => (intro _ _; go_simp; try with_reducible rfl)
        case tr4 =>
        simp only [Act.put, List.setIfInBounds_toArray, List.set_cons_succ, List.set_cons_zero]
        refine w_one (i := 2) (by kernel_rfl) rfl (by kernel_rfl) hS0 ?_
        intro Q' hQ
        go_wp2_with fail
        refine hQ _ _ hS0 ?_
        clear hQ Q'
        try dsimp only
        try simp only [Act.put, List.setIfInBounds_toArray, List.set_cons_succ, List.set_cons_zero]
        refine w_one (i := 3) (by kernel_rfl) rfl (by kernel_rfl) hS0 ?_
        intro Q' hQ
        go_wp2_with (at_builtin; refine wpl_appendM rfl _ _ rfl (gi + 1) (ys := b.commit) rfl rfl (OWN.out.ext (Ext.refl wX).drew) HML.out ((BodyR.comm HKX.out HBK.out).ext (Ext.refl wX).drew) (by omega) hle ?_)
        intro v4 w4 own4 g4
        have BEL : Below (gi + 1) wX w4 := ((Below.refl (gi + 1) wX).drew).grown g4 hle OWN.out.block_ge
        have hS9 : C w4 := (HCC.out _).2 ⟨Below.blkB BEL hbB VAR.out, Below.blkB BEL h0B HBK.out⟩
        have E4 := hid (show Tch (gi + 1) gb wX w4 from (Tch.below BEL))
        have O4 := hid own4
        have hb4 : Blk w4 gb [.slice av LL.length cv] ST := Below.blkB (BEL) hbB VAR.out
        have kb := hb4.cell' (i := 0) (v := .slice av LL.length cv) rfl
        have fb := hb4.frozen 0
        obtain ⟨a6, c6, rfl, -, -, -, -⟩ := O4.out.slice
        have HB4 := hid hb4
        clear hb4 own4 g4
        go_wp2_with fail
        refine hQ _ _ hS9 ?_
        clear hQ Q' hS0
        try dsimp only
        try simp only [Act.put, List.setIfInBounds_toArray, List.set_cons_succ, List.set_cons_zero]
        refine w_late (i := 4) (by kernel_rfl) rfl (by kernel_rfl) ?_
        intro Q' hQ
        go_wp2_with fail
        generalize hwC : World.setCell w4 _ _ = wC
        have bC : Blk wC gb [.slice a6 (LL.length + 32) c6] ST := by rw [← hwC]; exact HB4.out.set 0 (.slice a6 (LL.length + 32) c6)
        have uC : Upd w4 gb wC := by rw [← hwC]; exact Upd.setCell _
        have htc : Tch (gi + 1) gb wX wC := E4.out.trans (Tch.upd uC)
        have ownC := O4.out.turn (w' := wC) fun i hi _ => uC.block i (by omega)
        refine hQ _ _ trivial ?_
        try dsimp only
        try simp only [Act.put, List.setIfInBounds_toArray, List.set_cons_succ, List.set_cons_zero]
        refine w_done (by kernel_rfl) ?_ _
        rw [show LL ++ b.commit = printL (SQ.take k) b.p ++ fieldL 4 b.p from by rw [HLL.out]; exact congrArg _ (rfl)] at ownC
        have hfin := HREL.out _ _ (hM.next (i := 4) h0b hib h0B hiB htc bC ownC (by show b.commit.length ≤ _; rw [HML.out]; decide))
        have HFIN := hid hfin
        clear hwC bC uC htc ownC hfin kb fb
        go_wp2_with fail
        go_roundg g'
        case measure => omega
        case rel => exact HFIN.out
      · rw [show (letter 5).toNat = 101 from rfl] at hnx
        obtain ⟨C, hC⟩ : ∃ C : World → Prop, C = fun w' => Blk w' gb [.slice av LL.length cv] ST ∧ Blk w' w.heap.size b.v 72 := ⟨_, rfl⟩
        have hC0 : ∀ w', C w' ↔ (Blk w' gb [.slice av LL.length cv] ST ∧ Blk w' w.heap.size b.v 72) := fun w' => by rw [hC]
        clear hC
        have HCC := hid hC0
        clear hC0
        have hCx : ∀ w w', C w → Ext w w' → C w' := fun w w' h1 h2 => (HCC.out w').2 ⟨((HCC.out w).1 h1).1.ext h2, ((HCC.out w).1 h1).2.ext h2⟩
        have hCA : C wX := (HCC.out _).2 ⟨VAR.out, HBK.out⟩
        clear kvr
        go_upto_region 26 with (fail)
        refine wp_region_w (S := C) (W := [5]) (by kernel_rfl) (hCx _ _ hCA (Ext.refl _).drew) (fun hS0 => ?_)
        refine w_take 0 (v := ?tv5) rfl (by kernel_rfl) (by kernel_rfl) (by kernel_rfl) (by kernel_rfl) (by kernel_rfl) (fun _ _ _ h => h) (.inl ⟨rfl, ?ty5⟩) hS0 ?tr5
        case ty5 => (intro wq hwq; have hcq := (fun w1 h => ((HCC.out w1).1 h).1.cell' (i := 0) (v := .slice av LL.length cv) rfl) wq hwq; go_simp; try with_reducible rfl)
        case tr5 =>
        simp only [Act.put, List.setIfInBounds_toArray, List.set_cons_succ, List.set_cons_zero]
        refine w_pure 1 (v := ?tv6) rfl (by kernel_rfl) (by kernel_rfl) (by kernel_rfl) (fun _ _ _ h => h) (.inl ⟨rfl, ?ty6⟩) ?tr6
        case ty6 => (intro _ _; go_simp; try with_reducible rfl)
        case tr6 =>
        simp only [Act.put, List.setIfInBounds_toArray, List.set_cons_succ, List.set_cons_zero]
        refine w_take 2 (v := ?tv7) rfl (by kernel_rfl) (by kernel_rfl) (by kernel_rfl) (by kernel_rfl) (by kernel_rfl) (fun _ _ _ h => h) (.inl ⟨rfl, ?ty7⟩) hS0 ?tr7
        case ty7 => (intro wq hwq; have hcq := (fun w1 h => ((HCC.out w1).1 h).2.cell' (BodyR.at51 HR.out)) wq hwq; go_simp; try with_reducible rfl)
        case tr7 =>
        simp only [Act.put, List.setIfInBounds_toArray, List.set_cons_succ, List.set_cons_zero]
        obtain ⟨NN, hNN⟩ : ∃ NN : Nat, b.epoch = (NN : Int) := ⟨b.epoch.toNat, by have := SM.out.e; omega⟩
        have hNB : NN ≤ 4294967295 := by have := SM.out.e; omega
        have HNN := hid hNN
        rw [hNN]
        clear hNN
        refine w_one (i := 3) (by kernel_rfl) rfl (by kernel_rfl) hS0 ?_
        intro Q' hQ
        go_wp2_with fail
        refine (rshort_c NN wX.drew (by omega)).mono ?_
        rintro e w3b ⟨rfl, hcs, e3⟩
        have hx3 : Ext wX w3b := (Ext.refl wX).drew.ext e3
        have hcs2 : CellsAt w3b ⟨wX.heap.size, 4, none⟩ ((octL (UInt32.ofNat NN)).map u8v) := CellsAt.of hcs
        have HCS := hid hcs2
        have hS9 := hCx _ _ hCA hx3
        have HX3 := hid hx3
        have OW3 := hid (OWN.out.ext hx3)
        have hle3 := Nat.le_trans hle hx3.size
        have VAR3 := hid (VAR.out.ext hx3)
        have HBK3 := hid (HBK.out.ext hx3)
        obtain ⟨ys, hys⟩ : ∃ ys, octL (UInt32.ofNat NN) = ys := ⟨_, rfl⟩
        have hyl : ys.length = 4 := by rw [← hys]; rfl
        rw [hys] at HCS
        have HYS := hid hys
        have HYL := hid hyl
        clear hcs hcs2 e3 hys hyl hx3
        go_wp2_with fail
        refine hQ _ _ hS9 ?_
        clear hQ Q' hS0
        have hS0 := hS9
        clear hS9
        try dsimp only
        try simp only [Act.put, List.setIfInBounds_toArray, List.set_cons_succ, List.set_cons_zero]
        refine w_one (i := 4) (by kernel_rfl) rfl (by kernel_rfl) hS0 ?_
        intro Q' hQ
        go_wp2_with (at_builtin; refine wpl_appendM rfl _ _ rfl (gi + 1) (ys := ys) rfl rfl OW3.out HYL.out HCS.out (by omega) hle3 ?_)
        intro v4 w4 own4 g4
        have BE3 : Below (gi + 1) w3b w4 := (Below.refl (gi + 1) w3b).grown g4 hle3 OW3.out.block_ge
        have BEL : Below (gi + 1) wX w4 := Below.trans (HX3.out.mono hle) BE3
        have hS9 : C w4 := (HCC.out _).2 ⟨Below.blkB BEL hbB VAR.out, Below.blkB BEL h0B HBK.out⟩
        have E4 := hid (show Tch (gi + 1) gb wX w4 from (Tch.below BEL))
        have O4 := hid own4
        have hb4 : Blk w4 gb [.slice av LL.length cv] ST := Below.blkB (BEL) hbB VAR.out
        have kb := hb4.cell' (i := 0) (v := .slice av LL.length cv) rfl
        have fb := hb4.frozen 0
        obtain ⟨a6, c6, rfl, -, -, -, -⟩ := O4.out.slice
        have HB4 := hid hb4
        clear hb4 own4 g4
        go_wp2_with fail
        refine hQ _ _ hS9 ?_
        clear hQ Q' hS0
        try dsimp only
        try simp only [Act.put, List.setIfInBounds_toArray, List.set_cons_succ, List.set_cons_zero]
        refine w_late (i := 5) (by kernel_rfl) rfl (by kernel_rfl) ?_
        intro Q' hQ
        go_wp2_with fail
        generalize hwC : World.setCell w4 _ _ = wC
        have bC : Blk wC gb [.slice a6 (LL.length + 4) c6] ST := by rw [← hwC]; exact HB4.out.set 0 (.slice a6 (LL.length + 4) c6)
        have uC : Upd w4 gb wC := by rw [← hwC]; exact Upd.setCell _
        have htc : Tch (gi + 1) gb wX wC := E4.out.trans (Tch.upd uC)
        have ownC := O4.out.turn (w' := wC) fun i hi _ => uC.block i (by omega)
        refine hQ _ _ trivial ?_
        try dsimp only
        try simp only [Act.put, List.setIfInBounds_toArray, List.set_cons_succ, List.set_cons_zero]
        refine w_done (by kernel_rfl) ?_ _
        rw [show LL ++ ys = printL (SQ.take k) b.p ++ fieldL 5 b.p from by rw [HLL.out]; exact congrArg _ (by rw [← HYS.out]; show octL (UInt32.ofNat NN) = octL (UInt32.ofNat b.epoch.toNat); rw [HNN.out]; rfl)] at ownC
        have hfin := HREL.out _ _ (hM.next (i := 5) h0b hib h0B hiB htc bC ownC (by show (octL _).length ≤ _; simp [octL]))
        have HFIN := hid hfin
        clear hwC bC uC htc ownC hfin kb fb
        go_wp2_with fail
        go_roundg g'
        case measure => omega
        case rel => exact HFIN.out
      · rw [show (letter 6).toNat = 112 from rfl] at hnx
        have hXB : 0 ≤ b.purpose ∧ b.purpose ≤ 255 := by
          have hrg := RG.out.range
          have hna : needAt (K : Int) 6 = true := need_mem RG.out.isa (by rw [HSQ.out]; exact HMEM.out)
          unfold rangeB outB at hrg
          simp only [Bool.or_eq_false_iff, Bool.and_eq_false_imp, decide_eq_false_iff_not] at hrg
          obtain ⟨⟨⟨⟨⟨r1, r2⟩, r3⟩, r4⟩, r5⟩, r6⟩ := hrg
          first | (have := r1 hna; omega) | (have := r4 hna; omega) | omega
        have z7 := HZ.out.a (HAL.out.1 HMEM.out)
        have hcB : CellsAt wX ⟨w.heap.size, 52, none⟩ [.int .i64 b.purpose, .int .i64 b.reason, .int .i64 b.need, .int .i64 b.version] := by
          intro j u hu
          have hj : j < 4 := (List.getElem?_eq_some_iff.1 hu).1
          rw [addr_add]
          refine HBK.out.cell' ?_
          rcases (by omega : j = 0 ∨ j = 1 ∨ j = 2 ∨ j = 3) with rfl | rfl | rfl | rfl
          · rw [BodyR.at52 HR.out]; exact hu
          · rw [BodyR.at53 HR.out]; exact hu
          · rw [BodyR.at54 HR.out]; exact hu
          · rw [BodyR.at55 HR.out]; exact hu
        rw [z7] at hcB
        obtain ⟨X, hXe⟩ : ∃ X, b.purpose = X := ⟨_, rfl⟩
        rw [hXe] at hcB hXB
        generalize b.need = ya at hcB
        generalize b.version = yb at hcB
        clear z7
        have HXE := hid hXe
        have hwx : IntKind.i64.wrap X = X := IntWalk.i64_in _ (by omega)
        have hw0 : IntKind.i64.wrap 0 = 0 := IntWalk.i64_in _ (by omega)
        have hwo : IntKind.u8.wrap X = ((octI X).toNat : Int) := wrap_octI X
        obtain ⟨oc, hoc⟩ : ∃ oc, octI X = oc := ⟨_, rfl⟩
        rw [hoc] at hwo
        have HOC := hid hoc
        have c52 := hcB 0 _ rfl
        rw [addr_add] at c52
        change wX.cell? ⟨w.heap.size, 52, none⟩ = _ at c52
        have C52 := hid c52
        have c53 := hcB 1 _ rfl
        rw [addr_add] at c53
        change wX.cell? ⟨w.heap.size, 53, none⟩ = _ at c53
        have C53 := hid c53
        have c54 := hcB 2 _ rfl
        rw [addr_add] at c54
        change wX.cell? ⟨w.heap.size, 54, none⟩ = _ at c54
        have C54 := hid c54
        have c55 := hcB 3 _ rfl
        rw [addr_add] at c55
        change wX.cell? ⟨w.heap.size, 55, none⟩ = _ at c55
        have C55 := hid c55
        clear hoc hXe hcB hXB c52 c53 c54 c55
        obtain ⟨C, hC⟩ : ∃ C : World → Prop, C = fun w' => Blk w' gb [.slice av LL.length cv] ST ∧ Ext wX w' := ⟨_, rfl⟩
        have hC0 : ∀ w', C w' ↔ (Blk w' gb [.slice av LL.length cv] ST ∧ Ext wX w') := fun w' => by rw [hC]
        clear hC
        have HCC := hid hC0
        clear hC0
        have hCx : ∀ w w', C w → Ext w w' → C w' := fun w w' h1 h2 => (HCC.out w').2 ⟨((HCC.out w).1 h1).1.ext h2, ((HCC.out w).1 h1).2.ext h2⟩
        have hCA : C wX := (HCC.out _).2 ⟨VAR.out, Ext.refl _⟩
        clear kvr
        go_upto_region 31 with (fail)
        refine wp_region_w (S := C) (W := [22, 23]) (by kernel_rfl) (hCx _ _ hCA (Ext.refl _).drew) (fun hS0 => ?_)
        refine w_take 0 (v := ?tv8) rfl (by kernel_rfl) (by kernel_rfl) (by kernel_rfl) (by kernel_rfl) (by kernel_rfl) (fun _ _ _ h => h) (.inl ⟨rfl, ?ty8⟩) hS0 ?tr8
        case ty8 => (intro wq hwq; have hcq := (fun w1 h => ((HCC.out w1).1 h).1.cell' (i := 0) (v := .slice av LL.length cv) rfl) wq hwq; go_simp; try with_reducible rfl)
        case tr8 =>
        simp only [Act.put, List.setIfInBounds_toArray, List.set_cons_succ, List.set_cons_zero]
        refine w_pure 1 (v := ?tv9) rfl (by kernel_rfl) (by kernel_rfl) (by kernel_rfl) (fun _ _ _ h => h) (.inl ⟨rfl, ?ty9⟩) ?tr9
        case ty9 => (intro _ _; go_simp; try with_reducible rfl)
        case tr9 =>
        simp only [Act.put, List.setIfInBounds_toArray, List.set_cons_succ, List.set_cons_zero]
        refine w_take 2 (v := ?tv10) rfl (by kernel_rfl) (by kernel_rfl) (by kernel_rfl) (by kernel_rfl) (by kernel_rfl) (fun _ _ _ h => h) (.inl ⟨rfl, ?ty10⟩) hS0 ?tr10
        case ty10 => (intro wq hwq; have hcq := (fun w1 h => cell_extU C52.out ((HCC.out w1).1 h).2) wq hwq; go_simp; try with_reducible rfl)
        case tr10 =>
        simp only [Act.put, List.setIfInBounds_toArray, List.set_cons_succ, List.set_cons_zero]
        refine w_pure 3 (v := ?tv11) rfl (by kernel_rfl) (by kernel_rfl) (by kernel_rfl) (fun _ _ _ h => h) (.inl ⟨rfl, ?ty11⟩) ?tr11
        case ty11 => (intro _ _; go_simp; try with_reducible rfl)
        case tr11 =>
        simp only [Act.put, List.setIfInBounds_toArray, List.set_cons_succ, List.set_cons_zero]
        refine w_take 4 (v := ?tv12) rfl (by kernel_rfl) (by kernel_rfl) (by kernel_rfl) (by kernel_rfl) (by kernel_rfl) (fun _ _ _ h => h) (.inl ⟨rfl, ?ty12⟩) hS0 ?tr12
        case ty12 => (intro wq hwq; have hcq := (fun w1 h => cell_extU C53.out ((HCC.out w1).1 h).2) wq hwq; go_simp; try with_reducible rfl)
        case tr12 =>
        simp only [Act.put, List.setIfInBounds_toArray, List.set_cons_succ, List.set_cons_zero]
        refine w_pure 5 (v := .int .i64 X) rfl (by kernel_rfl) (by kernel_rfl) (by kernel_rfl) (fun _ _ _ h => h) (.inl ⟨rfl, ?va5⟩) ?vb5
        case va5 => (intro _ _; go_simp; try (simp only [Int.add_zero, Int.zero_add, Int.mul_zero, Int.mul_one, Int.zero_mul, Bool.false_eq_true, if_false, if_true]); first | done | rfl | exact hwx | exact hwo | exact hw0)
        case vb5 =>
        simp only [Act.put, List.setIfInBounds_toArray, List.set_cons_succ, List.set_cons_zero]
        refine w_pure 6 (v := ?tv13) rfl (by kernel_rfl) (by kernel_rfl) (by kernel_rfl) (fun _ _ _ h => h) (.inl ⟨rfl, ?ty13⟩) ?tr13
        case ty13 => (intro _ _; go_simp; try with_reducible rfl)
        case tr13 =>
        simp only [Act.put, List.setIfInBounds_toArray, List.set_cons_succ, List.set_cons_zero]
        refine w_take 7 (v := ?tv14) rfl (by kernel_rfl) (by kernel_rfl) (by kernel_rfl) (by kernel_rfl) (by kernel_rfl) (fun _ _ _ h => h) (.inl ⟨rfl, ?ty14⟩) hS0 ?tr14
        case ty14 => (intro wq hwq; have hcq := (fun w1 h => cell_extU C54.out ((HCC.out w1).1 h).2) wq hwq; go_simp; try with_reducible rfl)
        case tr14 =>
        simp only [Act.put, List.setIfInBounds_toArray, List.set_cons_succ, List.set_cons_zero]
        refine w_pure 8 (v := ?tv15) rfl (by kernel_rfl) (by kernel_rfl) (by kernel_rfl) (fun _ _ _ h => h) (.inl ⟨rfl, ?ty15⟩) ?tr15
        case ty15 => (intro _ _; go_simp; try with_reducible rfl)
        case tr15 =>
        simp only [Act.put, List.setIfInBounds_toArray, List.set_cons_succ, List.set_cons_zero]
        refine w_pure 9 (v := ?tv16) rfl (by kernel_rfl) (by kernel_rfl) (by kernel_rfl) (fun _ _ _ h => h) (.inl ⟨rfl, ?ty16⟩) ?tr16
        case ty16 => (intro _ _; go_simp; try with_reducible rfl)
        case tr16 =>
        simp only [Act.put, List.setIfInBounds_toArray, List.set_cons_succ, List.set_cons_zero]
        refine w_pure 13 (v := ?tv17) rfl (by kernel_rfl) (by kernel_rfl) (by kernel_rfl) (fun _ _ _ h => h) (.inl ⟨rfl, ?ty17⟩) ?tr17
        case ty17 => (intro _ _; go_simp; try with_reducible rfl)
        case tr17 =>
        simp only [Act.put, List.setIfInBounds_toArray, List.set_cons_succ, List.set_cons_zero]
        refine w_take 14 (v := ?tv18) rfl (by kernel_rfl) (by kernel_rfl) (by kernel_rfl) (by kernel_rfl) (by kernel_rfl) (fun _ _ _ h => h) (.inl ⟨rfl, ?ty18⟩) hS0 ?tr18
        case ty18 => (intro wq hwq; have hcq := (fun w1 h => cell_extU C55.out ((HCC.out w1).1 h).2) wq hwq; go_simp; try with_reducible rfl)
        case tr18 =>
        simp only [Act.put, List.setIfInBounds_toArray, List.set_cons_succ, List.set_cons_zero]
        refine w_pure 15 (v := ?tv19) rfl (by kernel_rfl) (by kernel_rfl) (by kernel_rfl) (fun _ _ _ h => h) (.inl ⟨rfl, ?ty19⟩) ?tr19
        case ty19 => (intro _ _; go_simp; try with_reducible rfl)
        case tr19 =>
        simp only [Act.put, List.setIfInBounds_toArray, List.set_cons_succ, List.set_cons_zero]
        refine w_pure 16 (v := ?tv20) rfl (by kernel_rfl) (by kernel_rfl) (by kernel_rfl) (fun _ _ _ h => h) (.inl ⟨rfl, ?ty20⟩) ?tr20
        case ty20 => (intro _ _; go_simp; try with_reducible rfl)
        case tr20 =>
        simp only [Act.put, List.setIfInBounds_toArray, List.set_cons_succ, List.set_cons_zero]
        refine w_one (i := 10) (by kernel_rfl) rfl (by kernel_rfl) hS0 ?_
        intro Q' hQ
        go_wp2_with fail
        refine (truth_c _ _).mono ?_
        rintro e wq ⟨rfl, hwq⟩
        rw [← hwq]
        clear hwq wq
        go_wp2_with fail
        refine hQ _ _ hS0 ?_
        clear hQ Q'
        try dsimp only
        try simp only [Act.put, List.setIfInBounds_toArray, List.set_cons_succ, List.set_cons_zero]
        refine w_pure 11 (v := .int .i64 0) rfl (by kernel_rfl) (by kernel_rfl) (by kernel_rfl) (fun _ _ _ h => h) (.inl ⟨rfl, ?va11⟩) ?vb11
        case va11 => (intro _ _; go_simp; try (simp only [Int.add_zero, Int.zero_add, Int.mul_zero, Int.mul_one, Int.zero_mul, Bool.false_eq_true, if_false, if_true]); first | done | rfl | exact hwx | exact hwo | exact hw0)
        case vb11 =>
        simp only [Act.put, List.setIfInBounds_toArray, List.set_cons_succ, List.set_cons_zero]
        refine w_pure 12 (v := .int .i64 X) rfl (by kernel_rfl) (by kernel_rfl) (by kernel_rfl) (fun _ _ _ h => h) (.inl ⟨rfl, ?va12⟩) ?vb12
        case va12 => (intro _ _; go_simp; try (simp only [Int.add_zero, Int.zero_add, Int.mul_zero, Int.mul_one, Int.zero_mul, Bool.false_eq_true, if_false, if_true]); first | done | rfl | exact hwx | exact hwo | exact hw0)
        case vb12 =>
        simp only [Act.put, List.setIfInBounds_toArray, List.set_cons_succ, List.set_cons_zero]
        refine w_one (i := 17) (by kernel_rfl) rfl (by kernel_rfl) hS0 ?_
        intro Q' hQ
        go_wp2_with fail
        refine (truth_c _ _).mono ?_
        rintro e wq ⟨rfl, hwq⟩
        rw [← hwq]
        clear hwq wq
        go_wp2_with fail
        refine hQ _ _ hS0 ?_
        clear hQ Q'
        try dsimp only
        try simp only [Act.put, List.setIfInBounds_toArray, List.set_cons_succ, List.set_cons_zero]
        refine w_pure 18 (v := .int .i64 0) rfl (by kernel_rfl) (by kernel_rfl) (by kernel_rfl) (fun _ _ _ h => h) (.inl ⟨rfl, ?va18⟩) ?vb18
        case va18 => (intro _ _; go_simp; try (simp only [Int.add_zero, Int.zero_add, Int.mul_zero, Int.mul_one, Int.zero_mul, Bool.false_eq_true, if_false, if_true]); first | done | rfl | exact hwx | exact hwo | exact hw0)
        case vb18 =>
        simp only [Act.put, List.setIfInBounds_toArray, List.set_cons_succ, List.set_cons_zero]
        refine w_pure 19 (v := .int .i64 X) rfl (by kernel_rfl) (by kernel_rfl) (by kernel_rfl) (fun _ _ _ h => h) (.inl ⟨rfl, ?va19⟩) ?vb19
        case va19 => (intro _ _; go_simp; try (simp only [Int.add_zero, Int.zero_add, Int.mul_zero, Int.mul_one, Int.zero_mul, Bool.false_eq_true, if_false, if_true]); first | done | rfl | exact hwx | exact hwo | exact hw0)
        case vb19 =>
        simp only [Act.put, List.setIfInBounds_toArray, List.set_cons_succ, List.set_cons_zero]
        refine w_pure 20 (v := .int .u8 (oc.toNat : Int)) rfl (by kernel_rfl) (by kernel_rfl) (by kernel_rfl) (fun _ _ _ h => h) (.inl ⟨rfl, ?va20⟩) ?vb20
        case va20 => (intro _ _; go_simp; try (simp only [Int.add_zero, Int.zero_add, Int.mul_zero, Int.mul_one, Int.zero_mul, Bool.false_eq_true, if_false, if_true]); first | done | rfl | exact hwx | exact hwo | exact hw0)
        case vb20 =>
        simp only [Act.put, List.setIfInBounds_toArray, List.set_cons_succ, List.set_cons_zero]
        refine w_one (i := 21) (by kernel_rfl) rfl (by kernel_rfl) hS0 ?_
        intro Q' hQ
        go_wp2_with fail
        refine hQ _ _ (hCx _ _ hS0 ((Ext.refl _).alloc _)) ?_
        clear hQ Q' hS0
        generalize hwB : World.drew (World.alloc wX _) = wB
        have nB : Blk wB wX.heap.size (([oc] : List UInt8).map u8v) 5 := by rw [← hwB]; exact Blk.mk_alloc rfl rfl
        have eB : Ext wX wB := by rw [← hwB]; exact ((Ext.refl wX).alloc _).drew
        have NB := hid nB
        have EB2 := hid eB
        have OB := hid (OWN.out.ext eB)
        have hleB := Nat.le_trans hle eB.size
        clear hwB nB eB
        try dsimp only
        try simp only [Act.put, List.setIfInBounds_toArray, List.set_cons_succ, List.set_cons_zero]
        refine w_late (i := 22) (by kernel_rfl) rfl (by kernel_rfl) ?_
        intro Q' hQ
        go_wp2_with (at_builtin; refine wpl_appendM rfl _ _ rfl (gi + 1) (ys := [oc]) rfl rfl OB.out rfl (news_blk NB.out) (by omega) hleB ?_)
        intro v4 w4 own4 g4
        have BE3 : Below (gi + 1) wB w4 := (Below.refl (gi + 1) wB).grown g4 hleB OB.out.block_ge
        have BEL : Below (gi + 1) wX w4 := Below.trans (EB2.out.mono hle) BE3
        have E4 := hid (show Tch (gi + 1) gb wX w4 from (Tch.below BEL))
        have O4 := hid own4
        have hb4 : Blk w4 gb [.slice av LL.length cv] ST := Below.blkB (BEL) hbB VAR.out
        have kb := hb4.cell' (i := 0) (v := .slice av LL.length cv) rfl
        have fb := hb4.frozen 0
        obtain ⟨a6, c6, rfl, -, -, -, -⟩ := O4.out.slice
        have HB4 := hid hb4
        clear hb4 own4 g4
        go_wp2_with fail
        refine hQ _ _ trivial ?_
        clear hQ Q'
        try dsimp only
        try simp only [Act.put, List.setIfInBounds_toArray, List.set_cons_succ, List.set_cons_zero]
        refine w_late (i := 23) (by kernel_rfl) rfl (by kernel_rfl) ?_
        intro Q' hQ
        go_wp2_with fail
        generalize hwC : World.setCell w4 _ _ = wC
        have bC : Blk wC gb [.slice a6 (LL.length + 1) c6] ST := by rw [← hwC]; exact HB4.out.set 0 (.slice a6 (LL.length + 1) c6)
        have uC : Upd w4 gb wC := by rw [← hwC]; exact Upd.setCell _
        have htc : Tch (gi + 1) gb wX wC := E4.out.trans (Tch.upd uC)
        have ownC := O4.out.turn (w' := wC) fun i hi _ => uC.block i (by omega)
        refine hQ _ _ trivial ?_
        try dsimp only
        try simp only [Act.put, List.setIfInBounds_toArray, List.set_cons_succ, List.set_cons_zero]
        refine w_done (by kernel_rfl) ?_ _
        rw [show LL ++ [oc] = printL (SQ.take k) b.p ++ fieldL 6 b.p from by rw [HLL.out]; exact congrArg _ (by rw [← HOC.out, ← HXE.out]; rfl)] at ownC
        have hfin := HREL.out _ _ (hM.next (i := 6) h0b hib h0B hiB htc bC ownC (Nat.le_of_ble_eq_true rfl))
        have HFIN := hid hfin
        clear hwC bC uC htc ownC hfin kb fb
        go_wp2_with fail
        go_roundg g'
        case measure => omega
        case rel => exact HFIN.out
      · rw [show (letter 7).toNat = 97 from rfl] at hnx
        have hXB : 0 ≤ b.reason ∧ b.reason ≤ 255 := by
          have hrg := RG.out.range
          have hna : needAt (K : Int) 7 = true := need_mem RG.out.isa (by rw [HSQ.out]; exact HMEM.out)
          unfold rangeB outB at hrg
          simp only [Bool.or_eq_false_iff, Bool.and_eq_false_imp, decide_eq_false_iff_not] at hrg
          obtain ⟨⟨⟨⟨⟨r1, r2⟩, r3⟩, r4⟩, r5⟩, r6⟩ := hrg
          first | (have := r1 hna; omega) | (have := r4 hna; omega) | omega
        have z6 := HZ.out.p (HAL.out.2.1 HMEM.out)
        have hcB : CellsAt wX ⟨w.heap.size, 52, none⟩ [.int .i64 b.purpose, .int .i64 b.reason, .int .i64 b.need, .int .i64 b.version] := by
          intro j u hu
          have hj : j < 4 := (List.getElem?_eq_some_iff.1 hu).1
          rw [addr_add]
          refine HBK.out.cell' ?_
          rcases (by omega : j = 0 ∨ j = 1 ∨ j = 2 ∨ j = 3) with rfl | rfl | rfl | rfl
          · rw [BodyR.at52 HR.out]; exact hu
          · rw [BodyR.at53 HR.out]; exact hu
          · rw [BodyR.at54 HR.out]; exact hu
          · rw [BodyR.at55 HR.out]; exact hu
        rw [z6] at hcB
        obtain ⟨X, hXe⟩ : ∃ X, b.reason = X := ⟨_, rfl⟩
        rw [hXe] at hcB hXB
        generalize b.need = ya at hcB
        generalize b.version = yb at hcB
        clear z6
        have HXE := hid hXe
        have hwx : IntKind.i64.wrap X = X := IntWalk.i64_in _ (by omega)
        have hw0 : IntKind.i64.wrap 0 = 0 := IntWalk.i64_in _ (by omega)
        have hwo : IntKind.u8.wrap X = ((octI X).toNat : Int) := wrap_octI X
        obtain ⟨oc, hoc⟩ : ∃ oc, octI X = oc := ⟨_, rfl⟩
        rw [hoc] at hwo
        have HOC := hid hoc
        have c52 := hcB 0 _ rfl
        rw [addr_add] at c52
        change wX.cell? ⟨w.heap.size, 52, none⟩ = _ at c52
        have C52 := hid c52
        have c53 := hcB 1 _ rfl
        rw [addr_add] at c53
        change wX.cell? ⟨w.heap.size, 53, none⟩ = _ at c53
        have C53 := hid c53
        have c54 := hcB 2 _ rfl
        rw [addr_add] at c54
        change wX.cell? ⟨w.heap.size, 54, none⟩ = _ at c54
        have C54 := hid c54
        have c55 := hcB 3 _ rfl
        rw [addr_add] at c55
        change wX.cell? ⟨w.heap.size, 55, none⟩ = _ at c55
        have C55 := hid c55
        clear hoc hXe hcB hXB c52 c53 c54 c55
        obtain ⟨C, hC⟩ : ∃ C : World → Prop, C = fun w' => Blk w' gb [.slice av LL.length cv] ST ∧ Ext wX w' := ⟨_, rfl⟩
        have hC0 : ∀ w', C w' ↔ (Blk w' gb [.slice av LL.length cv] ST ∧ Ext wX w') := fun w' => by rw [hC]
        clear hC
        have HCC := hid hC0
        clear hC0
        have hCx : ∀ w w', C w → Ext w w' → C w' := fun w w' h1 h2 => (HCC.out w').2 ⟨((HCC.out w).1 h1).1.ext h2, ((HCC.out w).1 h1).2.ext h2⟩
        have hCA : C wX := (HCC.out _).2 ⟨VAR.out, Ext.refl _⟩
        clear kvr
        go_upto_region 31 with (fail)
        refine wp_region_w (S := C) (W := [22, 23]) (by kernel_rfl) (hCx _ _ hCA (Ext.refl _).drew) (fun hS0 => ?_)
        refine w_take 0 (v := ?tv21) rfl (by kernel_rfl) (by kernel_rfl) (by kernel_rfl) (by kernel_rfl) (by kernel_rfl) (fun _ _ _ h => h) (.inl ⟨rfl, ?ty21⟩) hS0 ?tr21
        case ty21 => (intro wq hwq; have hcq := (fun w1 h => ((HCC.out w1).1 h).1.cell' (i := 0) (v := .slice av LL.length cv) rfl) wq hwq; go_simp; try with_reducible rfl)
        case tr21 =>
        simp only [Act.put, List.setIfInBounds_toArray, List.set_cons_succ, List.set_cons_zero]
        refine w_pure 1 (v := ?tv22) rfl (by kernel_rfl) (by kernel_rfl) (by kernel_rfl) (fun _ _ _ h => h) (.inl ⟨rfl, ?ty22⟩) ?tr22
        case ty22 => (intro _ _; go_simp; try with_reducible rfl)
        case tr22 =>
        simp only [Act.put, List.setIfInBounds_toArray, List.set_cons_succ, List.set_cons_zero]
        refine w_take 2 (v := ?tv23) rfl (by kernel_rfl) (by kernel_rfl) (by kernel_rfl) (by kernel_rfl) (by kernel_rfl) (fun _ _ _ h => h) (.inl ⟨rfl, ?ty23⟩) hS0 ?tr23
        case ty23 => (intro wq hwq; have hcq := (fun w1 h => cell_extU C52.out ((HCC.out w1).1 h).2) wq hwq; go_simp; try with_reducible rfl)
        case tr23 =>
        simp only [Act.put, List.setIfInBounds_toArray, List.set_cons_succ, List.set_cons_zero]
        refine w_pure 3 (v := ?tv24) rfl (by kernel_rfl) (by kernel_rfl) (by kernel_rfl) (fun _ _ _ h => h) (.inl ⟨rfl, ?ty24⟩) ?tr24
        case ty24 => (intro _ _; go_simp; try with_reducible rfl)
        case tr24 =>
        simp only [Act.put, List.setIfInBounds_toArray, List.set_cons_succ, List.set_cons_zero]
        refine w_take 4 (v := ?tv25) rfl (by kernel_rfl) (by kernel_rfl) (by kernel_rfl) (by kernel_rfl) (by kernel_rfl) (fun _ _ _ h => h) (.inl ⟨rfl, ?ty25⟩) hS0 ?tr25
        case ty25 => (intro wq hwq; have hcq := (fun w1 h => cell_extU C53.out ((HCC.out w1).1 h).2) wq hwq; go_simp; try with_reducible rfl)
        case tr25 =>
        simp only [Act.put, List.setIfInBounds_toArray, List.set_cons_succ, List.set_cons_zero]
        refine w_pure 5 (v := .int .i64 X) rfl (by kernel_rfl) (by kernel_rfl) (by kernel_rfl) (fun _ _ _ h => h) (.inl ⟨rfl, ?va5⟩) ?vb5
        case va5 => (intro _ _; go_simp; try (simp only [Int.add_zero, Int.zero_add, Int.mul_zero, Int.mul_one, Int.zero_mul, Bool.false_eq_true, if_false, if_true]); first | done | rfl | exact hwx | exact hwo | exact hw0)
        case vb5 =>
        simp only [Act.put, List.setIfInBounds_toArray, List.set_cons_succ, List.set_cons_zero]
        refine w_pure 6 (v := ?tv26) rfl (by kernel_rfl) (by kernel_rfl) (by kernel_rfl) (fun _ _ _ h => h) (.inl ⟨rfl, ?ty26⟩) ?tr26
        case ty26 => (intro _ _; go_simp; try with_reducible rfl)
        case tr26 =>
        simp only [Act.put, List.setIfInBounds_toArray, List.set_cons_succ, List.set_cons_zero]
        refine w_take 7 (v := ?tv27) rfl (by kernel_rfl) (by kernel_rfl) (by kernel_rfl) (by kernel_rfl) (by kernel_rfl) (fun _ _ _ h => h) (.inl ⟨rfl, ?ty27⟩) hS0 ?tr27
        case ty27 => (intro wq hwq; have hcq := (fun w1 h => cell_extU C54.out ((HCC.out w1).1 h).2) wq hwq; go_simp; try with_reducible rfl)
        case tr27 =>
        simp only [Act.put, List.setIfInBounds_toArray, List.set_cons_succ, List.set_cons_zero]
        refine w_pure 8 (v := ?tv28) rfl (by kernel_rfl) (by kernel_rfl) (by kernel_rfl) (fun _ _ _ h => h) (.inl ⟨rfl, ?ty28⟩) ?tr28
        case ty28 => (intro _ _; go_simp; try with_reducible rfl)
        case tr28 =>
        simp only [Act.put, List.setIfInBounds_toArray, List.set_cons_succ, List.set_cons_zero]
        refine w_pure 9 (v := ?tv29) rfl (by kernel_rfl) (by kernel_rfl) (by kernel_rfl) (fun _ _ _ h => h) (.inl ⟨rfl, ?ty29⟩) ?tr29
        case ty29 => (intro _ _; go_simp; try with_reducible rfl)
        case tr29 =>
        simp only [Act.put, List.setIfInBounds_toArray, List.set_cons_succ, List.set_cons_zero]
        refine w_pure 13 (v := ?tv30) rfl (by kernel_rfl) (by kernel_rfl) (by kernel_rfl) (fun _ _ _ h => h) (.inl ⟨rfl, ?ty30⟩) ?tr30
        case ty30 => (intro _ _; go_simp; try with_reducible rfl)
        case tr30 =>
        simp only [Act.put, List.setIfInBounds_toArray, List.set_cons_succ, List.set_cons_zero]
        refine w_take 14 (v := ?tv31) rfl (by kernel_rfl) (by kernel_rfl) (by kernel_rfl) (by kernel_rfl) (by kernel_rfl) (fun _ _ _ h => h) (.inl ⟨rfl, ?ty31⟩) hS0 ?tr31
        case ty31 => (intro wq hwq; have hcq := (fun w1 h => cell_extU C55.out ((HCC.out w1).1 h).2) wq hwq; go_simp; try with_reducible rfl)
        case tr31 =>
        simp only [Act.put, List.setIfInBounds_toArray, List.set_cons_succ, List.set_cons_zero]
        refine w_pure 15 (v := ?tv32) rfl (by kernel_rfl) (by kernel_rfl) (by kernel_rfl) (fun _ _ _ h => h) (.inl ⟨rfl, ?ty32⟩) ?tr32
        case ty32 => (intro _ _; go_simp; try with_reducible rfl)
        case tr32 =>
        simp only [Act.put, List.setIfInBounds_toArray, List.set_cons_succ, List.set_cons_zero]
        refine w_pure 16 (v := ?tv33) rfl (by kernel_rfl) (by kernel_rfl) (by kernel_rfl) (fun _ _ _ h => h) (.inl ⟨rfl, ?ty33⟩) ?tr33
        case ty33 => (intro _ _; go_simp; try with_reducible rfl)
        case tr33 =>
        simp only [Act.put, List.setIfInBounds_toArray, List.set_cons_succ, List.set_cons_zero]
        refine w_one (i := 10) (by kernel_rfl) rfl (by kernel_rfl) hS0 ?_
        intro Q' hQ
        go_wp2_with fail
        refine (truth_c _ _).mono ?_
        rintro e wq ⟨rfl, hwq⟩
        rw [← hwq]
        clear hwq wq
        go_wp2_with fail
        refine hQ _ _ hS0 ?_
        clear hQ Q'
        try dsimp only
        try simp only [Act.put, List.setIfInBounds_toArray, List.set_cons_succ, List.set_cons_zero]
        refine w_pure 11 (v := .int .i64 0) rfl (by kernel_rfl) (by kernel_rfl) (by kernel_rfl) (fun _ _ _ h => h) (.inl ⟨rfl, ?va11⟩) ?vb11
        case va11 => (intro _ _; go_simp; try (simp only [Int.add_zero, Int.zero_add, Int.mul_zero, Int.mul_one, Int.zero_mul, Bool.false_eq_true, if_false, if_true]); first | done | rfl | exact hwx | exact hwo | exact hw0)
        case vb11 =>
        simp only [Act.put, List.setIfInBounds_toArray, List.set_cons_succ, List.set_cons_zero]
        refine w_pure 12 (v := .int .i64 X) rfl (by kernel_rfl) (by kernel_rfl) (by kernel_rfl) (fun _ _ _ h => h) (.inl ⟨rfl, ?va12⟩) ?vb12
        case va12 => (intro _ _; go_simp; try (simp only [Int.add_zero, Int.zero_add, Int.mul_zero, Int.mul_one, Int.zero_mul, Bool.false_eq_true, if_false, if_true]); first | done | rfl | exact hwx | exact hwo | exact hw0)
        case vb12 =>
        simp only [Act.put, List.setIfInBounds_toArray, List.set_cons_succ, List.set_cons_zero]
        refine w_one (i := 17) (by kernel_rfl) rfl (by kernel_rfl) hS0 ?_
        intro Q' hQ
        go_wp2_with fail
        refine (truth_c _ _).mono ?_
        rintro e wq ⟨rfl, hwq⟩
        rw [← hwq]
        clear hwq wq
        go_wp2_with fail
        refine hQ _ _ hS0 ?_
        clear hQ Q'
        try dsimp only
        try simp only [Act.put, List.setIfInBounds_toArray, List.set_cons_succ, List.set_cons_zero]
        refine w_pure 18 (v := .int .i64 0) rfl (by kernel_rfl) (by kernel_rfl) (by kernel_rfl) (fun _ _ _ h => h) (.inl ⟨rfl, ?va18⟩) ?vb18
        case va18 => (intro _ _; go_simp; try (simp only [Int.add_zero, Int.zero_add, Int.mul_zero, Int.mul_one, Int.zero_mul, Bool.false_eq_true, if_false, if_true]); first | done | rfl | exact hwx | exact hwo | exact hw0)
        case vb18 =>
        simp only [Act.put, List.setIfInBounds_toArray, List.set_cons_succ, List.set_cons_zero]
        refine w_pure 19 (v := .int .i64 X) rfl (by kernel_rfl) (by kernel_rfl) (by kernel_rfl) (fun _ _ _ h => h) (.inl ⟨rfl, ?va19⟩) ?vb19
        case va19 => (intro _ _; go_simp; try (simp only [Int.add_zero, Int.zero_add, Int.mul_zero, Int.mul_one, Int.zero_mul, Bool.false_eq_true, if_false, if_true]); first | done | rfl | exact hwx | exact hwo | exact hw0)
        case vb19 =>
        simp only [Act.put, List.setIfInBounds_toArray, List.set_cons_succ, List.set_cons_zero]
        refine w_pure 20 (v := .int .u8 (oc.toNat : Int)) rfl (by kernel_rfl) (by kernel_rfl) (by kernel_rfl) (fun _ _ _ h => h) (.inl ⟨rfl, ?va20⟩) ?vb20
        case va20 => (intro _ _; go_simp; try (simp only [Int.add_zero, Int.zero_add, Int.mul_zero, Int.mul_one, Int.zero_mul, Bool.false_eq_true, if_false, if_true]); first | done | rfl | exact hwx | exact hwo | exact hw0)
        case vb20 =>
        simp only [Act.put, List.setIfInBounds_toArray, List.set_cons_succ, List.set_cons_zero]
        refine w_one (i := 21) (by kernel_rfl) rfl (by kernel_rfl) hS0 ?_
        intro Q' hQ
        go_wp2_with fail
        refine hQ _ _ (hCx _ _ hS0 ((Ext.refl _).alloc _)) ?_
        clear hQ Q' hS0
        generalize hwB : World.drew (World.alloc wX _) = wB
        have nB : Blk wB wX.heap.size (([oc] : List UInt8).map u8v) 5 := by rw [← hwB]; exact Blk.mk_alloc rfl rfl
        have eB : Ext wX wB := by rw [← hwB]; exact ((Ext.refl wX).alloc _).drew
        have NB := hid nB
        have EB2 := hid eB
        have OB := hid (OWN.out.ext eB)
        have hleB := Nat.le_trans hle eB.size
        clear hwB nB eB
        try dsimp only
        try simp only [Act.put, List.setIfInBounds_toArray, List.set_cons_succ, List.set_cons_zero]
        refine w_late (i := 22) (by kernel_rfl) rfl (by kernel_rfl) ?_
        intro Q' hQ
        go_wp2_with (at_builtin; refine wpl_appendM rfl _ _ rfl (gi + 1) (ys := [oc]) rfl rfl OB.out rfl (news_blk NB.out) (by omega) hleB ?_)
        intro v4 w4 own4 g4
        have BE3 : Below (gi + 1) wB w4 := (Below.refl (gi + 1) wB).grown g4 hleB OB.out.block_ge
        have BEL : Below (gi + 1) wX w4 := Below.trans (EB2.out.mono hle) BE3
        have E4 := hid (show Tch (gi + 1) gb wX w4 from (Tch.below BEL))
        have O4 := hid own4
        have hb4 : Blk w4 gb [.slice av LL.length cv] ST := Below.blkB (BEL) hbB VAR.out
        have kb := hb4.cell' (i := 0) (v := .slice av LL.length cv) rfl
        have fb := hb4.frozen 0
        obtain ⟨a6, c6, rfl, -, -, -, -⟩ := O4.out.slice
        have HB4 := hid hb4
        clear hb4 own4 g4
        go_wp2_with fail
        refine hQ _ _ trivial ?_
        clear hQ Q'
        try dsimp only
        try simp only [Act.put, List.setIfInBounds_toArray, List.set_cons_succ, List.set_cons_zero]
        refine w_late (i := 23) (by kernel_rfl) rfl (by kernel_rfl) ?_
        intro Q' hQ
        go_wp2_with fail
        generalize hwC : World.setCell w4 _ _ = wC
        have bC : Blk wC gb [.slice a6 (LL.length + 1) c6] ST := by rw [← hwC]; exact HB4.out.set 0 (.slice a6 (LL.length + 1) c6)
        have uC : Upd w4 gb wC := by rw [← hwC]; exact Upd.setCell _
        have htc : Tch (gi + 1) gb wX wC := E4.out.trans (Tch.upd uC)
        have ownC := O4.out.turn (w' := wC) fun i hi _ => uC.block i (by omega)
        refine hQ _ _ trivial ?_
        try dsimp only
        try simp only [Act.put, List.setIfInBounds_toArray, List.set_cons_succ, List.set_cons_zero]
        refine w_done (by kernel_rfl) ?_ _
        rw [show LL ++ [oc] = printL (SQ.take k) b.p ++ fieldL 7 b.p from by rw [HLL.out]; exact congrArg _ (by rw [← HOC.out, ← HXE.out]; rfl)] at ownC
        have hfin := HREL.out _ _ (hM.next (i := 7) h0b hib h0B hiB htc bC ownC (Nat.le_of_ble_eq_true rfl))
        have HFIN := hid hfin
        clear hwC bC uC htc ownC hfin kb fb
        go_wp2_with fail
        go_roundg g'
        case measure => omega
        case rel => exact HFIN.out
      · rw [show (letter 8).toNat = 110 from rfl] at hnx
        have hXB : 0 ≤ b.need ∧ b.need ≤ 255 := by
          have hrg := RG.out.range
          have hna : needAt (K : Int) 8 = true := need_mem RG.out.isa (by rw [HSQ.out]; exact HMEM.out)
          unfold rangeB outB at hrg
          simp only [Bool.or_eq_false_iff, Bool.and_eq_false_imp, decide_eq_false_iff_not] at hrg
          obtain ⟨⟨⟨⟨⟨r1, r2⟩, r3⟩, r4⟩, r5⟩, r6⟩ := hrg
          first | (have := r1 hna; omega) | (have := r4 hna; omega) | omega
        have z6 := HZ.out.p (HAL.out.2.2.1 HMEM.out).1
        have z7 := HZ.out.a (HAL.out.2.2.1 HMEM.out).2
        have hcB : CellsAt wX ⟨w.heap.size, 52, none⟩ [.int .i64 b.purpose, .int .i64 b.reason, .int .i64 b.need, .int .i64 b.version] := by
          intro j u hu
          have hj : j < 4 := (List.getElem?_eq_some_iff.1 hu).1
          rw [addr_add]
          refine HBK.out.cell' ?_
          rcases (by omega : j = 0 ∨ j = 1 ∨ j = 2 ∨ j = 3) with rfl | rfl | rfl | rfl
          · rw [BodyR.at52 HR.out]; exact hu
          · rw [BodyR.at53 HR.out]; exact hu
          · rw [BodyR.at54 HR.out]; exact hu
          · rw [BodyR.at55 HR.out]; exact hu
        rw [z6, z7] at hcB
        obtain ⟨X, hXe⟩ : ∃ X, b.need = X := ⟨_, rfl⟩
        rw [hXe] at hcB hXB
        generalize b.version = yb at hcB
        clear z6 z7
        have HXE := hid hXe
        have hwx : IntKind.i64.wrap X = X := IntWalk.i64_in _ (by omega)
        have hw0 : IntKind.i64.wrap 0 = 0 := IntWalk.i64_in _ (by omega)
        have hwo : IntKind.u8.wrap X = ((octI X).toNat : Int) := wrap_octI X
        obtain ⟨oc, hoc⟩ : ∃ oc, octI X = oc := ⟨_, rfl⟩
        rw [hoc] at hwo
        have HOC := hid hoc
        have c52 := hcB 0 _ rfl
        rw [addr_add] at c52
        change wX.cell? ⟨w.heap.size, 52, none⟩ = _ at c52
        have C52 := hid c52
        have c53 := hcB 1 _ rfl
        rw [addr_add] at c53
        change wX.cell? ⟨w.heap.size, 53, none⟩ = _ at c53
        have C53 := hid c53
        have c54 := hcB 2 _ rfl
        rw [addr_add] at c54
        change wX.cell? ⟨w.heap.size, 54, none⟩ = _ at c54
        have C54 := hid c54
        have c55 := hcB 3 _ rfl
        rw [addr_add] at c55
        change wX.cell? ⟨w.heap.size, 55, none⟩ = _ at c55
        have C55 := hid c55
        clear hoc hXe hcB hXB c52 c53 c54 c55
        obtain ⟨C, hC⟩ : ∃ C : World → Prop, C = fun w' => Blk w' gb [.slice av LL.length cv] ST ∧ Ext wX w' := ⟨_, rfl⟩
        have hC0 : ∀ w', C w' ↔ (Blk w' gb [.slice av LL.length cv] ST ∧ Ext wX w') := fun w' => by rw [hC]
        clear hC
        have HCC := hid hC0
        clear hC0
        have hCx : ∀ w w', C w → Ext w w' → C w' := fun w w' h1 h2 => (HCC.out w').2 ⟨((HCC.out w).1 h1).1.ext h2, ((HCC.out w).1 h1).2.ext h2⟩
        have hCA : C wX := (HCC.out _).2 ⟨VAR.out, Ext.refl _⟩
        clear kvr
        go_upto_region 31 with (fail)
        refine wp_region_w (S := C) (W := [22, 23]) (by kernel_rfl) (hCx _ _ hCA (Ext.refl _).drew) (fun hS0 => ?_)
        refine w_take 0 (v := ?tv34) rfl (by kernel_rfl) (by kernel_rfl) (by kernel_rfl) (by kernel_rfl) (by kernel_rfl) (fun _ _ _ h => h) (.inl ⟨rfl, ?ty34⟩) hS0 ?tr34
        case ty34 => (intro wq hwq; have hcq := (fun w1 h => ((HCC.out w1).1 h).1.cell' (i := 0) (v := .slice av LL.length cv) rfl) wq hwq; go_simp; try with_reducible rfl)
        case tr34 =>
        simp only [Act.put, List.setIfInBounds_toArray, List.set_cons_succ, List.set_cons_zero]
        refine w_pure 1 (v := ?tv35) rfl (by kernel_rfl) (by kernel_rfl) (by kernel_rfl) (fun _ _ _ h => h) (.inl ⟨rfl, ?ty35⟩) ?tr35
        case ty35 => (intro _ _; go_simp; try with_reducible rfl)
        case tr35 =>
        simp only [Act.put, List.setIfInBounds_toArray, List.set_cons_succ, List.set_cons_zero]
        refine w_take 2 (v := ?tv36) rfl (by kernel_rfl) (by kernel_rfl) (by kernel_rfl) (by kernel_rfl) (by kernel_rfl) (fun _ _ _ h => h) (.inl ⟨rfl, ?ty36⟩) hS0 ?tr36
        case ty36 => (intro wq hwq; have hcq := (fun w1 h => cell_extU C52.out ((HCC.out w1).1 h).2) wq hwq; go_simp; try with_reducible rfl)
        case tr36 =>
        simp only [Act.put, List.setIfInBounds_toArray, List.set_cons_succ, List.set_cons_zero]
        refine w_pure 3 (v := ?tv37) rfl (by kernel_rfl) (by kernel_rfl) (by kernel_rfl) (fun _ _ _ h => h) (.inl ⟨rfl, ?ty37⟩) ?tr37
        case ty37 => (intro _ _; go_simp; try with_reducible rfl)
        case tr37 =>
        simp only [Act.put, List.setIfInBounds_toArray, List.set_cons_succ, List.set_cons_zero]
        refine w_take 4 (v := ?tv38) rfl (by kernel_rfl) (by kernel_rfl) (by kernel_rfl) (by kernel_rfl) (by kernel_rfl) (fun _ _ _ h => h) (.inl ⟨rfl, ?ty38⟩) hS0 ?tr38
        case ty38 => (intro wq hwq; have hcq := (fun w1 h => cell_extU C53.out ((HCC.out w1).1 h).2) wq hwq; go_simp; try with_reducible rfl)
        case tr38 =>
        simp only [Act.put, List.setIfInBounds_toArray, List.set_cons_succ, List.set_cons_zero]
        refine w_pure 5 (v := .int .i64 0) rfl (by kernel_rfl) (by kernel_rfl) (by kernel_rfl) (fun _ _ _ h => h) (.inl ⟨rfl, ?va5⟩) ?vb5
        case va5 => (intro _ _; go_simp; try (simp only [Int.add_zero, Int.zero_add, Int.mul_zero, Int.mul_one, Int.zero_mul, Bool.false_eq_true, if_false, if_true]); first | done | rfl | exact hwx | exact hwo | exact hw0)
        case vb5 =>
        simp only [Act.put, List.setIfInBounds_toArray, List.set_cons_succ, List.set_cons_zero]
        refine w_pure 6 (v := ?tv39) rfl (by kernel_rfl) (by kernel_rfl) (by kernel_rfl) (fun _ _ _ h => h) (.inl ⟨rfl, ?ty39⟩) ?tr39
        case ty39 => (intro _ _; go_simp; try with_reducible rfl)
        case tr39 =>
        simp only [Act.put, List.setIfInBounds_toArray, List.set_cons_succ, List.set_cons_zero]
        refine w_take 7 (v := ?tv40) rfl (by kernel_rfl) (by kernel_rfl) (by kernel_rfl) (by kernel_rfl) (by kernel_rfl) (fun _ _ _ h => h) (.inl ⟨rfl, ?ty40⟩) hS0 ?tr40
        case ty40 => (intro wq hwq; have hcq := (fun w1 h => cell_extU C54.out ((HCC.out w1).1 h).2) wq hwq; go_simp; try with_reducible rfl)
        case tr40 =>
        simp only [Act.put, List.setIfInBounds_toArray, List.set_cons_succ, List.set_cons_zero]
        refine w_pure 8 (v := ?tv41) rfl (by kernel_rfl) (by kernel_rfl) (by kernel_rfl) (fun _ _ _ h => h) (.inl ⟨rfl, ?ty41⟩) ?tr41
        case ty41 => (intro _ _; go_simp; try with_reducible rfl)
        case tr41 =>
        simp only [Act.put, List.setIfInBounds_toArray, List.set_cons_succ, List.set_cons_zero]
        refine w_pure 9 (v := ?tv42) rfl (by kernel_rfl) (by kernel_rfl) (by kernel_rfl) (fun _ _ _ h => h) (.inl ⟨rfl, ?ty42⟩) ?tr42
        case ty42 => (intro _ _; go_simp; try with_reducible rfl)
        case tr42 =>
        simp only [Act.put, List.setIfInBounds_toArray, List.set_cons_succ, List.set_cons_zero]
        refine w_pure 13 (v := ?tv43) rfl (by kernel_rfl) (by kernel_rfl) (by kernel_rfl) (fun _ _ _ h => h) (.inl ⟨rfl, ?ty43⟩) ?tr43
        case ty43 => (intro _ _; go_simp; try with_reducible rfl)
        case tr43 =>
        simp only [Act.put, List.setIfInBounds_toArray, List.set_cons_succ, List.set_cons_zero]
        refine w_take 14 (v := ?tv44) rfl (by kernel_rfl) (by kernel_rfl) (by kernel_rfl) (by kernel_rfl) (by kernel_rfl) (fun _ _ _ h => h) (.inl ⟨rfl, ?ty44⟩) hS0 ?tr44
        case ty44 => (intro wq hwq; have hcq := (fun w1 h => cell_extU C55.out ((HCC.out w1).1 h).2) wq hwq; go_simp; try with_reducible rfl)
        case tr44 =>
        simp only [Act.put, List.setIfInBounds_toArray, List.set_cons_succ, List.set_cons_zero]
        refine w_pure 15 (v := ?tv45) rfl (by kernel_rfl) (by kernel_rfl) (by kernel_rfl) (fun _ _ _ h => h) (.inl ⟨rfl, ?ty45⟩) ?tr45
        case ty45 => (intro _ _; go_simp; try with_reducible rfl)
        case tr45 =>
        simp only [Act.put, List.setIfInBounds_toArray, List.set_cons_succ, List.set_cons_zero]
        refine w_pure 16 (v := ?tv46) rfl (by kernel_rfl) (by kernel_rfl) (by kernel_rfl) (fun _ _ _ h => h) (.inl ⟨rfl, ?ty46⟩) ?tr46
        case ty46 => (intro _ _; go_simp; try with_reducible rfl)
        case tr46 =>
        simp only [Act.put, List.setIfInBounds_toArray, List.set_cons_succ, List.set_cons_zero]
        refine w_one (i := 10) (by kernel_rfl) rfl (by kernel_rfl) hS0 ?_
        intro Q' hQ
        go_wp2_with fail
        refine (truth_c _ _).mono ?_
        rintro e wq ⟨rfl, hwq⟩
        rw [← hwq]
        clear hwq wq
        go_wp2_with fail
        refine hQ _ _ hS0 ?_
        clear hQ Q'
        try dsimp only
        try simp only [Act.put, List.setIfInBounds_toArray, List.set_cons_succ, List.set_cons_zero]
        refine w_pure 11 (v := .int .i64 X) rfl (by kernel_rfl) (by kernel_rfl) (by kernel_rfl) (fun _ _ _ h => h) (.inl ⟨rfl, ?va11⟩) ?vb11
        case va11 => (intro _ _; go_simp; try (simp only [Int.add_zero, Int.zero_add, Int.mul_zero, Int.mul_one, Int.zero_mul, Bool.false_eq_true, if_false, if_true]); first | done | rfl | exact hwx | exact hwo | exact hw0)
        case vb11 =>
        simp only [Act.put, List.setIfInBounds_toArray, List.set_cons_succ, List.set_cons_zero]
        refine w_pure 12 (v := .int .i64 X) rfl (by kernel_rfl) (by kernel_rfl) (by kernel_rfl) (fun _ _ _ h => h) (.inl ⟨rfl, ?va12⟩) ?vb12
        case va12 => (intro _ _; go_simp; try (simp only [Int.add_zero, Int.zero_add, Int.mul_zero, Int.mul_one, Int.zero_mul, Bool.false_eq_true, if_false, if_true]); first | done | rfl | exact hwx | exact hwo | exact hw0)
        case vb12 =>
        simp only [Act.put, List.setIfInBounds_toArray, List.set_cons_succ, List.set_cons_zero]
        refine w_one (i := 17) (by kernel_rfl) rfl (by kernel_rfl) hS0 ?_
        intro Q' hQ
        go_wp2_with fail
        refine (truth_c _ _).mono ?_
        rintro e wq ⟨rfl, hwq⟩
        rw [← hwq]
        clear hwq wq
        go_wp2_with fail
        refine hQ _ _ hS0 ?_
        clear hQ Q'
        try dsimp only
        try simp only [Act.put, List.setIfInBounds_toArray, List.set_cons_succ, List.set_cons_zero]
        refine w_pure 18 (v := .int .i64 0) rfl (by kernel_rfl) (by kernel_rfl) (by kernel_rfl) (fun _ _ _ h => h) (.inl ⟨rfl, ?va18⟩) ?vb18
        case va18 => (intro _ _; go_simp; try (simp only [Int.add_zero, Int.zero_add, Int.mul_zero, Int.mul_one, Int.zero_mul, Bool.false_eq_true, if_false, if_true]); first | done | rfl | exact hwx | exact hwo | exact hw0)
        case vb18 =>
        simp only [Act.put, List.setIfInBounds_toArray, List.set_cons_succ, List.set_cons_zero]
        refine w_pure 19 (v := .int .i64 X) rfl (by kernel_rfl) (by kernel_rfl) (by kernel_rfl) (fun _ _ _ h => h) (.inl ⟨rfl, ?va19⟩) ?vb19
        case va19 => (intro _ _; go_simp; try (simp only [Int.add_zero, Int.zero_add, Int.mul_zero, Int.mul_one, Int.zero_mul, Bool.false_eq_true, if_false, if_true]); first | done | rfl | exact hwx | exact hwo | exact hw0)
        case vb19 =>
        simp only [Act.put, List.setIfInBounds_toArray, List.set_cons_succ, List.set_cons_zero]
        refine w_pure 20 (v := .int .u8 (oc.toNat : Int)) rfl (by kernel_rfl) (by kernel_rfl) (by kernel_rfl) (fun _ _ _ h => h) (.inl ⟨rfl, ?va20⟩) ?vb20
        case va20 => (intro _ _; go_simp; try (simp only [Int.add_zero, Int.zero_add, Int.mul_zero, Int.mul_one, Int.zero_mul, Bool.false_eq_true, if_false, if_true]); first | done | rfl | exact hwx | exact hwo | exact hw0)
        case vb20 =>
        simp only [Act.put, List.setIfInBounds_toArray, List.set_cons_succ, List.set_cons_zero]
        refine w_one (i := 21) (by kernel_rfl) rfl (by kernel_rfl) hS0 ?_
        intro Q' hQ
        go_wp2_with fail
        refine hQ _ _ (hCx _ _ hS0 ((Ext.refl _).alloc _)) ?_
        clear hQ Q' hS0
        generalize hwB : World.drew (World.alloc wX _) = wB
        have nB : Blk wB wX.heap.size (([oc] : List UInt8).map u8v) 5 := by rw [← hwB]; exact Blk.mk_alloc rfl rfl
        have eB : Ext wX wB := by rw [← hwB]; exact ((Ext.refl wX).alloc _).drew
        have NB := hid nB
        have EB2 := hid eB
        have OB := hid (OWN.out.ext eB)
        have hleB := Nat.le_trans hle eB.size
        clear hwB nB eB
        try dsimp only
        try simp only [Act.put, List.setIfInBounds_toArray, List.set_cons_succ, List.set_cons_zero]
        refine w_late (i := 22) (by kernel_rfl) rfl (by kernel_rfl) ?_
        intro Q' hQ
        go_wp2_with (at_builtin; refine wpl_appendM rfl _ _ rfl (gi + 1) (ys := [oc]) rfl rfl OB.out rfl (news_blk NB.out) (by omega) hleB ?_)
        intro v4 w4 own4 g4
        have BE3 : Below (gi + 1) wB w4 := (Below.refl (gi + 1) wB).grown g4 hleB OB.out.block_ge
        have BEL : Below (gi + 1) wX w4 := Below.trans (EB2.out.mono hle) BE3
        have E4 := hid (show Tch (gi + 1) gb wX w4 from (Tch.below BEL))
        have O4 := hid own4
        have hb4 : Blk w4 gb [.slice av LL.length cv] ST := Below.blkB (BEL) hbB VAR.out
        have kb := hb4.cell' (i := 0) (v := .slice av LL.length cv) rfl
        have fb := hb4.frozen 0
        obtain ⟨a6, c6, rfl, -, -, -, -⟩ := O4.out.slice
        have HB4 := hid hb4
        clear hb4 own4 g4
        go_wp2_with fail
        refine hQ _ _ trivial ?_
        clear hQ Q'
        try dsimp only
        try simp only [Act.put, List.setIfInBounds_toArray, List.set_cons_succ, List.set_cons_zero]
        refine w_late (i := 23) (by kernel_rfl) rfl (by kernel_rfl) ?_
        intro Q' hQ
        go_wp2_with fail
        generalize hwC : World.setCell w4 _ _ = wC
        have bC : Blk wC gb [.slice a6 (LL.length + 1) c6] ST := by rw [← hwC]; exact HB4.out.set 0 (.slice a6 (LL.length + 1) c6)
        have uC : Upd w4 gb wC := by rw [← hwC]; exact Upd.setCell _
        have htc : Tch (gi + 1) gb wX wC := E4.out.trans (Tch.upd uC)
        have ownC := O4.out.turn (w' := wC) fun i hi _ => uC.block i (by omega)
        refine hQ _ _ trivial ?_
        try dsimp only
        try simp only [Act.put, List.setIfInBounds_toArray, List.set_cons_succ, List.set_cons_zero]
        refine w_done (by kernel_rfl) ?_ _
        rw [show LL ++ [oc] = printL (SQ.take k) b.p ++ fieldL 8 b.p from by rw [HLL.out]; exact congrArg _ (by rw [← HOC.out, ← HXE.out]; rfl)] at ownC
        have hfin := HREL.out _ _ (hM.next (i := 8) h0b hib h0B hiB htc bC ownC (Nat.le_of_ble_eq_true rfl))
        have HFIN := hid hfin
        clear hwC bC uC htc ownC hfin kb fb
        go_wp2_with fail
        go_roundg g'
        case measure => omega
        case rel => exact HFIN.out
      · rw [show (letter 9).toNat = 104 from rfl] at hnx
        have c57 := HBK.out.cell' (BodyR.at57 HKX.out)
        have hrn := SM.out.hn
        have hwn : IntKind.u8.wrap (b.hn : Int) = ((octI (b.hn : Int)).toNat : Int) := wrap_octI _
        obtain ⟨oc, hoc⟩ : ∃ oc, octI (b.hn : Int) = oc := ⟨_, rfl⟩
        rw [hoc] at hwn
        have HOC := hid hoc
        have HRL := hid HR.out.hl
        clear hoc
        go_upto_region 34 with (at_builtin; refine wpl_appendM rfl _ _ rfl (gi + 1) (ys := [oc]) rfl rfl (OWN.out.ext ((Ext.refl _).alloc _)) rfl (news_blk (Blk.mk_alloc rfl rfl)) (by omega) (Nat.le_trans hle (by rw [size_alloc]; exact Nat.le_succ _)) ?_)
        intro v4 w4 own4 g4
        have BEL : Below (gi + 1) wX w4 := ((Below.refl (gi + 1) wX).alloc hle _).grown g4 (Nat.le_trans hle (by rw [size_alloc]; exact Nat.le_succ _)) OWN.out.block_ge
        have E4 := hid (show Tch (gi + 1) gb wX w4 from (Tch.below BEL))
        have O4 := hid own4
        have hb4 : Blk w4 gb [.slice av LL.length cv] ST := Below.blkB (BEL) hbB VAR.out
        have kb := hb4.cell' (i := 0) (v := .slice av LL.length cv) rfl
        have fb := hb4.frozen 0
        obtain ⟨a6, c6, rfl, -, -, -, -⟩ := O4.out.slice
        have HB4 := hid hb4
        clear hb4 own4 g4
        clear kvr hwn c57
        go_upto_region 34 with (fail)
        generalize hwC : World.setCell w4 _ _ = wC
        have bC : Blk wC gb [.slice a6 (LL.length + 1) c6] ST := by rw [← hwC]; exact HB4.out.set 0 (.slice a6 (LL.length + 1) c6)
        have uC : Upd w4 gb wC := by rw [← hwC]; exact Upd.setCell _
        have htc : Tch (gi + 1) gb wX wC := E4.out.trans (Tch.upd uC)
        have ownC := O4.out.turn (w' := wC) fun i hi _ => uC.block i (by omega)
        have BKC := hid (htc.blk h0B (by omega) HBK.out)
        have c57b := BKC.out.cell' (BodyR.at57 HKX.out)
        have TC := hid htc
        have OC := hid ownC
        have VC9 := hid bC
        clear hwC bC uC htc ownC kb fb E4 O4 HB4
        go_wp2_with fail
        go_loopw [120] (fun i wr => ∃ (k1 : Nat) (v' : Value), k1 ≤ b.hn ∧ i = .int .i64 (k1 : Int) ∧ OwnM wr (gi + 1) v' (LL.length + 1 + (b.holders.take k1).flatten.length) ((LL ++ [oc]) ++ (b.holders.take k1).flatten) ∧ Blk wr gb [v'] ST ∧ Tch (gi + 1) gb wX wr) (fun i _ => b.hn - (intOf i).toNat)
        case atStart => exact ⟨0, _, by omega, rfl, by simpa using OC.out, VC9.out, TC.out⟩
        case round =>
          obtain ⟨k1, v', hk1, rfl, own5, var5, t5⟩ := hrel
          have ew : Ext w wr := Tch.ext0 hM.ext t5 (by omega) (by omega)
          have hlen4 := holders_part HR.out.h16 k1 (by omega)
          by_cases hlt : k1 < b.hn
          · have d1 : decide ((k1 : Int) < (b.hn : Int)) = true := decide_eq_true (by omega)
            have d2 : decide (k1 < b.hn) = true := decide_eq_true hlt
            have HRL2 := HRL.out
            obtain ⟨x, hxk⟩ : ∃ x, b.holders[k1]? = some x := ⟨b.holders[k1]'(by omega), List.getElem?_eq_getElem _⟩
            obtain ⟨A, hA, hrow⟩ := row16_at (HR.out.hcell.ext ew) HR.out.h16 hxk
            have HCX := hid (hrow k1 x hxk)
            have HA := hid hA
            have hx16 := HR.out.h16 x (List.mem_of_getElem? hxk)
            have HX := hid hx16
            have HXL := hid (show (x.map u8v).length = 16 by rw [List.length_map]; exact hx16)
            have HST := hid (holders_step hxk)
            obtain ⟨P, hP⟩ : ∃ P, (b.holders.take k1).flatten = P := ⟨_, rfl⟩
            rw [hP] at own5 hlen4 HST
            obtain ⟨a5, c5, rfl, -, -, -, -⟩ := own5.slice
            have hmn : ∃ mn, LL.length + 1 + P.length = mn := ⟨_, rfl⟩
            obtain ⟨mn, hmn⟩ := hmn
            rw [hmn] at own5 var5
            have HMN := hid hmn
            have hmb : mn ≤ 500000 := by omega
            have O5 := hid own5
            have V5 := hid var5
            have T5 := hid t5
            have hle4 : gi + 1 ≤ wr.heap.size := Nat.le_trans hle t5.size
            clear hrow hA hxk hP own5 var5 t5 HRL2 c57b hx16 hmn
            have hz16 : ((List.replicate 16 (0 : UInt8)).map u8v).length = 16 := by simp
            have HZ16 := hid hz16
            clear hz16
            go_wp2_with (first | (refine wpg_run rfl (exec_index (p := A) (i := k1) rfl (by show Value.slice b.ha b.hn b.hc = _; rw [HA.out]) rfl Try.underlying70 size_id hlt _) ?_) | (refine wpl_run rfl (exec_load_at rfl rfl HCX.out agg_id HXL.out) ?_) | (refine wpl_storew rfl _ _ _ rfl rfl rfl (Blk.mk_alloc (vs := (List.replicate 16 (0 : UInt8)).map u8v) rfl rfl) agg_id HZ16.out (xs := x.map u8v) HXL.out (one_u8 x) ?_))
            intro w5 b5 u5
            have e5 : Below (gi + 1) wr w5 := ((Below.refl (gi + 1) wr).alloc hle4 _).trans ⟨u5.os, u5.tape, u5.output, by rw [u5.size]; exact Nat.le_refl _, fun i hi => u5.block i (by omega)⟩
            have x5 : Ext wr w5 := u5.ext ((Ext.refl wr).alloc _) (Nat.le_refl _)
            have O6 := hid (O5.out.ext x5)
            have V6 := hid (V5.out.ext x5)
            have B6 := hid b5
            have hle5 := Nat.le_trans hle4 x5.size
            have T6 := hid (T5.out.trans (Tch.below e5))
            clear b5 u5 e5 x5 O5 V5 T5
            obtain ⟨C, hC⟩ : ∃ C : World → Prop, C = fun w' => Blk w' gb [.slice a5 mn c5] ST := ⟨_, rfl⟩
            have hC0 : ∀ w', C w' ↔ Blk w' gb [.slice a5 mn c5] ST := fun w' => by rw [hC]
            clear hC
            have HCC := hid hC0
            clear hC0
            have hCx : ∀ w w', C w → Ext w w' → C w' := fun w w' h1 h2 => (HCC.out w').2 (((HCC.out w).1 h1).ext h2)
            have hCA : C w5 := (HCC.out _).2 V6.out
            go_upto_region 37 with (fail)
            refine wp_region_w (S := C) (W := [3]) (by kernel_rfl) (hCx _ _ hCA (Ext.refl _).drew) (fun hS0 => ?_)
            refine w_take 0 (v := ?tv47) rfl (by kernel_rfl) (by kernel_rfl) (by kernel_rfl) (by kernel_rfl) (by kernel_rfl) (fun _ _ _ h => h) (.inl ⟨rfl, ?ty47⟩) hS0 ?tr47
            case ty47 => (intro wq hwq; have hcq := (fun w1 h => ((HCC.out w1).1 h).cell' (i := 0) (v := .slice a5 mn c5) rfl) wq hwq; go_simp; try with_reducible rfl)
            case tr47 =>
            simp only [Act.put, List.setIfInBounds_toArray, List.set_cons_succ, List.set_cons_zero]
            refine w_one (i := 1) (by kernel_rfl) rfl (by kernel_rfl) hS0 ?_
            intro Q' hQ
            go_wp2_with fail
            refine hQ _ _ hS0 ?_
            clear hQ Q'
            try dsimp only
            try simp only [Act.put, List.setIfInBounds_toArray, List.set_cons_succ, List.set_cons_zero]
            refine w_one (i := 2) (by kernel_rfl) rfl (by kernel_rfl) hS0 ?_
            intro Q' hQ
            go_wp2_with (at_builtin; refine wpl_appendM rfl _ _ rfl (gi + 1) (ys := x) rfl rfl (O6.out.ext (Ext.refl w5).drew) HX.out (news_blk B6.out.drew) (by omega) hle5 ?_)
            intro v7 w7 own7 g7
            have BE7 : Below (gi + 1) w5 w7 := ((Below.refl (gi + 1) w5).drew).grown g7 hle5 O6.out.block_ge
            have hb7 : Blk w7 gb [.slice a5 mn c5] ST := Below.blkB BE7 hbB V6.out
            have hS9 : C w7 := (HCC.out _).2 hb7
            have kb := hb7.cell' (i := 0) (v := .slice a5 mn c5) rfl
            have fb := hb7.frozen 0
            obtain ⟨a8, c8, rfl, -, -, -, -⟩ := own7.slice
            have O7 := hid own7
            have HB7 := hid hb7
            have T7 := hid (T6.out.trans (Tch.below BE7))
            clear own7 g7 BE7 hb7
            go_wp2_with fail
            refine hQ _ _ hS9 ?_
            clear hQ Q' hS0
            try dsimp only
            try simp only [Act.put, List.setIfInBounds_toArray, List.set_cons_succ, List.set_cons_zero]
            refine w_late (i := 3) (by kernel_rfl) rfl (by kernel_rfl) ?_
            intro Q' hQ
            go_wp2_with fail
            generalize hwC : World.setCell w7 _ _ = wC
            have bC : Blk wC gb [.slice a8 (mn + 16) c8] ST := by rw [← hwC]; exact HB7.out.set 0 (.slice a8 (mn + 16) c8)
            have uC : Upd w7 gb wC := by rw [← hwC]; exact Upd.setCell _
            have O8 := hid (O7.out.turn (w' := wC) fun i hi _ => uC.block i (by omega))
            have T8 := hid (T7.out.trans (Tch.upd uC))
            have V8 := hid bC
            clear hwC kb fb bC uC O7 T7
            refine hQ _ _ trivial ?_
            try dsimp only
            try simp only [Act.put, List.setIfInBounds_toArray, List.set_cons_succ, List.set_cons_zero]
            refine w_done (by kernel_rfl) ?_ _
            go_wp2_with fail
            go_roundw
            case rel => exact ⟨k1 + 1, _, by omega, by go_num, by rw [HST.out, List.length_append, HX.out, ← List.append_assoc]; have h9 := O8.out; rw [show LL.length + 1 + (P.length + 16) = mn + 16 by rw [← HMN.out]; omega]; simpa using h9, V8.out, T8.out⟩
            case measure => simp [intOf]; omega
          · have d1 : decide ((k1 : Int) < (b.hn : Int)) = false := decide_eq_false (by omega)
            have d2 : decide (k1 < b.hn) = false := decide_eq_false hlt
            have htk : b.holders.take k1 = b.holders := List.take_of_length_le (by rw [HRL.out]; omega)
            rw [htk] at own5
            rw [show (LL ++ [oc]) ++ b.holders.flatten = printL (SQ.take k) b.p ++ fieldL 9 b.p from by
              rw [HLL.out, ← HOC.out, octI_nat, ← HRL.out]
              show _ = LL ++ holdersL b.holders
              unfold holdersL; simp] at own5
            have hfin := HREL.out _ _ (hM.next (i := 9) h0b hib h0B hiB t5 var5 own5 (Nat.le_trans (holdersL_len SM.out HRL.out HR.out.h16) (by decide)))
            have HFIN := hid hfin
            clear own5 var5 t5 htk hfin c57b
            go_wp2_with fail
            go_roundg g'
            case measure => omega
            case rel => exact HFIN.out
      · rw [show (letter 10).toNat = 118 from rfl] at hnx
        have hXB : 0 ≤ b.version ∧ b.version ≤ 255 := by
          have hrg := RG.out.range
          have hna : needAt (K : Int) 10 = true := need_mem RG.out.isa (by rw [HSQ.out]; exact HMEM.out)
          unfold rangeB outB at hrg
          simp only [Bool.or_eq_false_iff, Bool.and_eq_false_imp, decide_eq_false_iff_not] at hrg
          obtain ⟨⟨⟨⟨⟨r1, r2⟩, r3⟩, r4⟩, r5⟩, r6⟩ := hrg
          first | (have := r1 hna; omega) | (have := r4 hna; omega) | omega
        have z6 := HZ.out.p (HAL.out.2.2.2 HMEM.out).1
        have z7 := HZ.out.a (HAL.out.2.2.2 HMEM.out).2
        have hcB : CellsAt wX ⟨w.heap.size, 52, none⟩ [.int .i64 b.purpose, .int .i64 b.reason, .int .i64 b.need, .int .i64 b.version] := by
          intro j u hu
          have hj : j < 4 := (List.getElem?_eq_some_iff.1 hu).1
          rw [addr_add]
          refine HBK.out.cell' ?_
          rcases (by omega : j = 0 ∨ j = 1 ∨ j = 2 ∨ j = 3) with rfl | rfl | rfl | rfl
          · rw [BodyR.at52 HR.out]; exact hu
          · rw [BodyR.at53 HR.out]; exact hu
          · rw [BodyR.at54 HR.out]; exact hu
          · rw [BodyR.at55 HR.out]; exact hu
        rw [z6, z7] at hcB
        obtain ⟨X, hXe⟩ : ∃ X, b.version = X := ⟨_, rfl⟩
        rw [hXe] at hcB hXB
        generalize b.need = ya at hcB
        clear z6 z7
        have HXE := hid hXe
        have hwx : IntKind.i64.wrap X = X := IntWalk.i64_in _ (by omega)
        have hw0 : IntKind.i64.wrap 0 = 0 := IntWalk.i64_in _ (by omega)
        have hwo : IntKind.u8.wrap X = ((octI X).toNat : Int) := wrap_octI X
        obtain ⟨oc, hoc⟩ : ∃ oc, octI X = oc := ⟨_, rfl⟩
        rw [hoc] at hwo
        have HOC := hid hoc
        have c52 := hcB 0 _ rfl
        rw [addr_add] at c52
        change wX.cell? ⟨w.heap.size, 52, none⟩ = _ at c52
        have C52 := hid c52
        have c53 := hcB 1 _ rfl
        rw [addr_add] at c53
        change wX.cell? ⟨w.heap.size, 53, none⟩ = _ at c53
        have C53 := hid c53
        have c54 := hcB 2 _ rfl
        rw [addr_add] at c54
        change wX.cell? ⟨w.heap.size, 54, none⟩ = _ at c54
        have C54 := hid c54
        have c55 := hcB 3 _ rfl
        rw [addr_add] at c55
        change wX.cell? ⟨w.heap.size, 55, none⟩ = _ at c55
        have C55 := hid c55
        clear hoc hXe hcB hXB c52 c53 c54 c55
        obtain ⟨C, hC⟩ : ∃ C : World → Prop, C = fun w' => Blk w' gb [.slice av LL.length cv] ST ∧ Ext wX w' := ⟨_, rfl⟩
        have hC0 : ∀ w', C w' ↔ (Blk w' gb [.slice av LL.length cv] ST ∧ Ext wX w') := fun w' => by rw [hC]
        clear hC
        have HCC := hid hC0
        clear hC0
        have hCx : ∀ w w', C w → Ext w w' → C w' := fun w w' h1 h2 => (HCC.out w').2 ⟨((HCC.out w).1 h1).1.ext h2, ((HCC.out w).1 h1).2.ext h2⟩
        have hCA : C wX := (HCC.out _).2 ⟨VAR.out, Ext.refl _⟩
        clear kvr
        go_upto_region 31 with (fail)
        refine wp_region_w (S := C) (W := [22, 23]) (by kernel_rfl) (hCx _ _ hCA (Ext.refl _).drew) (fun hS0 => ?_)
        refine w_take 0 (v := ?tv48) rfl (by kernel_rfl) (by kernel_rfl) (by kernel_rfl) (by kernel_rfl) (by kernel_rfl) (fun _ _ _ h => h) (.inl ⟨rfl, ?ty48⟩) hS0 ?tr48
        case ty48 => (intro wq hwq; have hcq := (fun w1 h => ((HCC.out w1).1 h).1.cell' (i := 0) (v := .slice av LL.length cv) rfl) wq hwq; go_simp; try with_reducible rfl)
        case tr48 =>
        simp only [Act.put, List.setIfInBounds_toArray, List.set_cons_succ, List.set_cons_zero]
        refine w_pure 1 (v := ?tv49) rfl (by kernel_rfl) (by kernel_rfl) (by kernel_rfl) (fun _ _ _ h => h) (.inl ⟨rfl, ?ty49⟩) ?tr49
        case ty49 => (intro _ _; go_simp; try with_reducible rfl)
        case tr49 =>
        simp only [Act.put, List.setIfInBounds_toArray, List.set_cons_succ, List.set_cons_zero]
        refine w_take 2 (v := ?tv50) rfl (by kernel_rfl) (by kernel_rfl) (by kernel_rfl) (by kernel_rfl) (by kernel_rfl) (fun _ _ _ h => h) (.inl ⟨rfl, ?ty50⟩) hS0 ?tr50
        case ty50 => (intro wq hwq; have hcq := (fun w1 h => cell_extU C52.out ((HCC.out w1).1 h).2) wq hwq; go_simp; try with_reducible rfl)
        case tr50 =>
        simp only [Act.put, List.setIfInBounds_toArray, List.set_cons_succ, List.set_cons_zero]
        refine w_pure 3 (v := ?tv51) rfl (by kernel_rfl) (by kernel_rfl) (by kernel_rfl) (fun _ _ _ h => h) (.inl ⟨rfl, ?ty51⟩) ?tr51
        case ty51 => (intro _ _; go_simp; try with_reducible rfl)
        case tr51 =>
        simp only [Act.put, List.setIfInBounds_toArray, List.set_cons_succ, List.set_cons_zero]
        refine w_take 4 (v := ?tv52) rfl (by kernel_rfl) (by kernel_rfl) (by kernel_rfl) (by kernel_rfl) (by kernel_rfl) (fun _ _ _ h => h) (.inl ⟨rfl, ?ty52⟩) hS0 ?tr52
        case ty52 => (intro wq hwq; have hcq := (fun w1 h => cell_extU C53.out ((HCC.out w1).1 h).2) wq hwq; go_simp; try with_reducible rfl)
        case tr52 =>
        simp only [Act.put, List.setIfInBounds_toArray, List.set_cons_succ, List.set_cons_zero]
        refine w_pure 5 (v := .int .i64 0) rfl (by kernel_rfl) (by kernel_rfl) (by kernel_rfl) (fun _ _ _ h => h) (.inl ⟨rfl, ?va5⟩) ?vb5
        case va5 => (intro _ _; go_simp; try (simp only [Int.add_zero, Int.zero_add, Int.mul_zero, Int.mul_one, Int.zero_mul, Bool.false_eq_true, if_false, if_true]); first | done | rfl | exact hwx | exact hwo | exact hw0)
        case vb5 =>
        simp only [Act.put, List.setIfInBounds_toArray, List.set_cons_succ, List.set_cons_zero]
        refine w_pure 6 (v := ?tv53) rfl (by kernel_rfl) (by kernel_rfl) (by kernel_rfl) (fun _ _ _ h => h) (.inl ⟨rfl, ?ty53⟩) ?tr53
        case ty53 => (intro _ _; go_simp; try with_reducible rfl)
        case tr53 =>
        simp only [Act.put, List.setIfInBounds_toArray, List.set_cons_succ, List.set_cons_zero]
        refine w_take 7 (v := ?tv54) rfl (by kernel_rfl) (by kernel_rfl) (by kernel_rfl) (by kernel_rfl) (by kernel_rfl) (fun _ _ _ h => h) (.inl ⟨rfl, ?ty54⟩) hS0 ?tr54
        case ty54 => (intro wq hwq; have hcq := (fun w1 h => cell_extU C54.out ((HCC.out w1).1 h).2) wq hwq; go_simp; try with_reducible rfl)
        case tr54 =>
        simp only [Act.put, List.setIfInBounds_toArray, List.set_cons_succ, List.set_cons_zero]
        refine w_pure 8 (v := ?tv55) rfl (by kernel_rfl) (by kernel_rfl) (by kernel_rfl) (fun _ _ _ h => h) (.inl ⟨rfl, ?ty55⟩) ?tr55
        case ty55 => (intro _ _; go_simp; try with_reducible rfl)
        case tr55 =>
        simp only [Act.put, List.setIfInBounds_toArray, List.set_cons_succ, List.set_cons_zero]
        refine w_pure 9 (v := ?tv56) rfl (by kernel_rfl) (by kernel_rfl) (by kernel_rfl) (fun _ _ _ h => h) (.inl ⟨rfl, ?ty56⟩) ?tr56
        case ty56 => (intro _ _; go_simp; try with_reducible rfl)
        case tr56 =>
        simp only [Act.put, List.setIfInBounds_toArray, List.set_cons_succ, List.set_cons_zero]
        refine w_pure 13 (v := ?tv57) rfl (by kernel_rfl) (by kernel_rfl) (by kernel_rfl) (fun _ _ _ h => h) (.inl ⟨rfl, ?ty57⟩) ?tr57
        case ty57 => (intro _ _; go_simp; try with_reducible rfl)
        case tr57 =>
        simp only [Act.put, List.setIfInBounds_toArray, List.set_cons_succ, List.set_cons_zero]
        refine w_take 14 (v := ?tv58) rfl (by kernel_rfl) (by kernel_rfl) (by kernel_rfl) (by kernel_rfl) (by kernel_rfl) (fun _ _ _ h => h) (.inl ⟨rfl, ?ty58⟩) hS0 ?tr58
        case ty58 => (intro wq hwq; have hcq := (fun w1 h => cell_extU C55.out ((HCC.out w1).1 h).2) wq hwq; go_simp; try with_reducible rfl)
        case tr58 =>
        simp only [Act.put, List.setIfInBounds_toArray, List.set_cons_succ, List.set_cons_zero]
        refine w_pure 15 (v := ?tv59) rfl (by kernel_rfl) (by kernel_rfl) (by kernel_rfl) (fun _ _ _ h => h) (.inl ⟨rfl, ?ty59⟩) ?tr59
        case ty59 => (intro _ _; go_simp; try with_reducible rfl)
        case tr59 =>
        simp only [Act.put, List.setIfInBounds_toArray, List.set_cons_succ, List.set_cons_zero]
        refine w_pure 16 (v := ?tv60) rfl (by kernel_rfl) (by kernel_rfl) (by kernel_rfl) (fun _ _ _ h => h) (.inl ⟨rfl, ?ty60⟩) ?tr60
        case ty60 => (intro _ _; go_simp; try with_reducible rfl)
        case tr60 =>
        simp only [Act.put, List.setIfInBounds_toArray, List.set_cons_succ, List.set_cons_zero]
        refine w_one (i := 10) (by kernel_rfl) rfl (by kernel_rfl) hS0 ?_
        intro Q' hQ
        go_wp2_with fail
        refine (truth_c _ _).mono ?_
        rintro e wq ⟨rfl, hwq⟩
        rw [← hwq]
        clear hwq wq
        go_wp2_with fail
        refine hQ _ _ hS0 ?_
        clear hQ Q'
        try dsimp only
        try simp only [Act.put, List.setIfInBounds_toArray, List.set_cons_succ, List.set_cons_zero]
        refine w_pure 11 (v := .int .i64 0) rfl (by kernel_rfl) (by kernel_rfl) (by kernel_rfl) (fun _ _ _ h => h) (.inl ⟨rfl, ?va11⟩) ?vb11
        case va11 => (intro _ _; go_simp; try (simp only [Int.add_zero, Int.zero_add, Int.mul_zero, Int.mul_one, Int.zero_mul, Bool.false_eq_true, if_false, if_true]); first | done | rfl | exact hwx | exact hwo | exact hw0)
        case vb11 =>
        simp only [Act.put, List.setIfInBounds_toArray, List.set_cons_succ, List.set_cons_zero]
        refine w_pure 12 (v := .int .i64 0) rfl (by kernel_rfl) (by kernel_rfl) (by kernel_rfl) (fun _ _ _ h => h) (.inl ⟨rfl, ?va12⟩) ?vb12
        case va12 => (intro _ _; go_simp; try (simp only [Int.add_zero, Int.zero_add, Int.mul_zero, Int.mul_one, Int.zero_mul, Bool.false_eq_true, if_false, if_true]); first | done | rfl | exact hwx | exact hwo | exact hw0)
        case vb12 =>
        simp only [Act.put, List.setIfInBounds_toArray, List.set_cons_succ, List.set_cons_zero]
        refine w_one (i := 17) (by kernel_rfl) rfl (by kernel_rfl) hS0 ?_
        intro Q' hQ
        go_wp2_with fail
        refine (truth_c _ _).mono ?_
        rintro e wq ⟨rfl, hwq⟩
        rw [← hwq]
        clear hwq wq
        go_wp2_with fail
        refine hQ _ _ hS0 ?_
        clear hQ Q'
        try dsimp only
        try simp only [Act.put, List.setIfInBounds_toArray, List.set_cons_succ, List.set_cons_zero]
        refine w_pure 18 (v := .int .i64 X) rfl (by kernel_rfl) (by kernel_rfl) (by kernel_rfl) (fun _ _ _ h => h) (.inl ⟨rfl, ?va18⟩) ?vb18
        case va18 => (intro _ _; go_simp; try (simp only [Int.add_zero, Int.zero_add, Int.mul_zero, Int.mul_one, Int.zero_mul, Bool.false_eq_true, if_false, if_true]); first | done | rfl | exact hwx | exact hwo | exact hw0)
        case vb18 =>
        simp only [Act.put, List.setIfInBounds_toArray, List.set_cons_succ, List.set_cons_zero]
        refine w_pure 19 (v := .int .i64 X) rfl (by kernel_rfl) (by kernel_rfl) (by kernel_rfl) (fun _ _ _ h => h) (.inl ⟨rfl, ?va19⟩) ?vb19
        case va19 => (intro _ _; go_simp; try (simp only [Int.add_zero, Int.zero_add, Int.mul_zero, Int.mul_one, Int.zero_mul, Bool.false_eq_true, if_false, if_true]); first | done | rfl | exact hwx | exact hwo | exact hw0)
        case vb19 =>
        simp only [Act.put, List.setIfInBounds_toArray, List.set_cons_succ, List.set_cons_zero]
        refine w_pure 20 (v := .int .u8 (oc.toNat : Int)) rfl (by kernel_rfl) (by kernel_rfl) (by kernel_rfl) (fun _ _ _ h => h) (.inl ⟨rfl, ?va20⟩) ?vb20
        case va20 => (intro _ _; go_simp; try (simp only [Int.add_zero, Int.zero_add, Int.mul_zero, Int.mul_one, Int.zero_mul, Bool.false_eq_true, if_false, if_true]); first | done | rfl | exact hwx | exact hwo | exact hw0)
        case vb20 =>
        simp only [Act.put, List.setIfInBounds_toArray, List.set_cons_succ, List.set_cons_zero]
        refine w_one (i := 21) (by kernel_rfl) rfl (by kernel_rfl) hS0 ?_
        intro Q' hQ
        go_wp2_with fail
        refine hQ _ _ (hCx _ _ hS0 ((Ext.refl _).alloc _)) ?_
        clear hQ Q' hS0
        generalize hwB : World.drew (World.alloc wX _) = wB
        have nB : Blk wB wX.heap.size (([oc] : List UInt8).map u8v) 5 := by rw [← hwB]; exact Blk.mk_alloc rfl rfl
        have eB : Ext wX wB := by rw [← hwB]; exact ((Ext.refl wX).alloc _).drew
        have NB := hid nB
        have EB2 := hid eB
        have OB := hid (OWN.out.ext eB)
        have hleB := Nat.le_trans hle eB.size
        clear hwB nB eB
        try dsimp only
        try simp only [Act.put, List.setIfInBounds_toArray, List.set_cons_succ, List.set_cons_zero]
        refine w_late (i := 22) (by kernel_rfl) rfl (by kernel_rfl) ?_
        intro Q' hQ
        go_wp2_with (at_builtin; refine wpl_appendM rfl _ _ rfl (gi + 1) (ys := [oc]) rfl rfl OB.out rfl (news_blk NB.out) (by omega) hleB ?_)
        intro v4 w4 own4 g4
        have BE3 : Below (gi + 1) wB w4 := (Below.refl (gi + 1) wB).grown g4 hleB OB.out.block_ge
        have BEL : Below (gi + 1) wX w4 := Below.trans (EB2.out.mono hle) BE3
        have E4 := hid (show Tch (gi + 1) gb wX w4 from (Tch.below BEL))
        have O4 := hid own4
        have hb4 : Blk w4 gb [.slice av LL.length cv] ST := Below.blkB (BEL) hbB VAR.out
        have kb := hb4.cell' (i := 0) (v := .slice av LL.length cv) rfl
        have fb := hb4.frozen 0
        obtain ⟨a6, c6, rfl, -, -, -, -⟩ := O4.out.slice
        have HB4 := hid hb4
        clear hb4 own4 g4
        go_wp2_with fail
        refine hQ _ _ trivial ?_
        clear hQ Q'
        try dsimp only
        try simp only [Act.put, List.setIfInBounds_toArray, List.set_cons_succ, List.set_cons_zero]
        refine w_late (i := 23) (by kernel_rfl) rfl (by kernel_rfl) ?_
        intro Q' hQ
        go_wp2_with fail
        generalize hwC : World.setCell w4 _ _ = wC
        have bC : Blk wC gb [.slice a6 (LL.length + 1) c6] ST := by rw [← hwC]; exact HB4.out.set 0 (.slice a6 (LL.length + 1) c6)
        have uC : Upd w4 gb wC := by rw [← hwC]; exact Upd.setCell _
        have htc : Tch (gi + 1) gb wX wC := E4.out.trans (Tch.upd uC)
        have ownC := O4.out.turn (w' := wC) fun i hi _ => uC.block i (by omega)
        refine hQ _ _ trivial ?_
        try dsimp only
        try simp only [Act.put, List.setIfInBounds_toArray, List.set_cons_succ, List.set_cons_zero]
        refine w_done (by kernel_rfl) ?_ _
        rw [show LL ++ [oc] = printL (SQ.take k) b.p ++ fieldL 10 b.p from by rw [HLL.out]; exact congrArg _ (by rw [← HOC.out, ← HXE.out]; rfl)] at ownC
        have hfin := HREL.out _ _ (hM.next (i := 10) h0b hib h0B hiB htc bC ownC (Nat.le_of_ble_eq_true rfl))
        have HFIN := hid hfin
        clear hwC bC uC htc ownC hfin kb fb
        go_wp2_with fail
        go_roundg g'
        case measure => omega
        case rel => exact HFIN.out
      · rw [show (letter 11).toNat = 107 from rfl] at hnx
        obtain ⟨C, hC⟩ : ∃ C : World → Prop, C = fun w' => Blk w' gb [.slice av LL.length cv] ST ∧ Blk w' w.heap.size b.v 72 := ⟨_, rfl⟩
        have hC0 : ∀ w', C w' ↔ (Blk w' gb [.slice av LL.length cv] ST ∧ Blk w' w.heap.size b.v 72) := fun w' => by rw [hC]
        clear hC
        have HCC := hid hC0
        clear hC0
        have hCx : ∀ w w', C w → Ext w w' → C w' := fun w w' h1 h2 => (HCC.out w').2 ⟨((HCC.out w).1 h1).1.ext h2, ((HCC.out w).1 h1).2.ext h2⟩
        have hCA : C wX := (HCC.out _).2 ⟨VAR.out, HBK.out⟩
        clear kvr
        go_upto_region 40 with (fail)
        refine wp_region_w (S := C) (W := [5]) (by kernel_rfl) (hCx _ _ hCA (Ext.refl _).drew) (fun hS0 => ?_)
        refine w_take 0 (v := ?tv61) rfl (by kernel_rfl) (by kernel_rfl) (by kernel_rfl) (by kernel_rfl) (by kernel_rfl) (fun _ _ _ h => h) (.inl ⟨rfl, ?ty61⟩) hS0 ?tr61
        case ty61 => (intro wq hwq; have hcq := (fun w1 h => ((HCC.out w1).1 h).1.cell' (i := 0) (v := .slice av LL.length cv) rfl) wq hwq; go_simp; try with_reducible rfl)
        case tr61 =>
        simp only [Act.put, List.setIfInBounds_toArray, List.set_cons_succ, List.set_cons_zero]
        refine w_pure 1 (v := ?tv62) rfl (by kernel_rfl) (by kernel_rfl) (by kernel_rfl) (fun _ _ _ h => h) (.inl ⟨rfl, ?ty62⟩) ?tr62
        case ty62 => (intro _ _; go_simp; try with_reducible rfl)
        case tr62 =>
        simp only [Act.put, List.setIfInBounds_toArray, List.set_cons_succ, List.set_cons_zero]
        refine w_take 2 (v := ?tv63) rfl (by kernel_rfl) (by kernel_rfl) (by kernel_rfl) (by kernel_rfl) (by kernel_rfl) (fun _ _ _ h => h) (.inl ⟨rfl, ?ty63⟩) hS0 ?tr63
        case ty63 => (intro wq hwq; have hcq := (fun w1 h => ((HCC.out w1).1 h).2.cell' (BodyR.at56 HR.out)) wq hwq; go_simp; try with_reducible rfl)
        case tr63 =>
        simp only [Act.put, List.setIfInBounds_toArray, List.set_cons_succ, List.set_cons_zero]
        obtain ⟨NN, hNN⟩ : ∃ NN : Nat, b.count = (NN : Int) := ⟨b.count.toNat, by have := SM.out.c; omega⟩
        have hNB : NN ≤ 4294967295 := by have := SM.out.c; omega
        have HNN := hid hNN
        rw [hNN]
        clear hNN
        refine w_one (i := 3) (by kernel_rfl) rfl (by kernel_rfl) hS0 ?_
        intro Q' hQ
        go_wp2_with fail
        refine (rlong_c NN wX.drew (by omega)).mono ?_
        rintro e w3b ⟨rfl, hbs, e3⟩
        have hcs : Cells w3b (some ⟨wX.heap.size, 0, none⟩) ((longL (UInt64.ofNat NN)).map u8v) := Cells.of_blk0 hbs
        have hx3 : Ext wX w3b := (Ext.refl wX).drew.ext e3
        have hcs2 : CellsAt w3b ⟨wX.heap.size, 0, none⟩ ((longL (UInt64.ofNat NN)).map u8v) := CellsAt.of hcs
        have HCS := hid hcs2
        have hS9 := hCx _ _ hCA hx3
        have HX3 := hid hx3
        have OW3 := hid (OWN.out.ext hx3)
        have hle3 := Nat.le_trans hle hx3.size
        have VAR3 := hid (VAR.out.ext hx3)
        have HBK3 := hid (HBK.out.ext hx3)
        obtain ⟨ys, hys⟩ : ∃ ys, longL (UInt64.ofNat NN) = ys := ⟨_, rfl⟩
        have hyl : ys.length = 8 := by rw [← hys]; rfl
        rw [hys] at HCS
        have HYS := hid hys
        have HYL := hid hyl
        clear hbs hcs hcs2 e3 hys hyl hx3
        go_wp2_with fail
        refine hQ _ _ hS9 ?_
        clear hQ Q' hS0
        have hS0 := hS9
        clear hS9
        try dsimp only
        try simp only [Act.put, List.setIfInBounds_toArray, List.set_cons_succ, List.set_cons_zero]
        refine w_one (i := 4) (by kernel_rfl) rfl (by kernel_rfl) hS0 ?_
        intro Q' hQ
        go_wp2_with (at_builtin; refine wpl_appendM rfl _ _ rfl (gi + 1) (ys := ys) rfl rfl OW3.out HYL.out HCS.out (by omega) hle3 ?_)
        intro v4 w4 own4 g4
        have BE3 : Below (gi + 1) w3b w4 := (Below.refl (gi + 1) w3b).grown g4 hle3 OW3.out.block_ge
        have BEL : Below (gi + 1) wX w4 := Below.trans (HX3.out.mono hle) BE3
        have hS9 : C w4 := (HCC.out _).2 ⟨Below.blkB BEL hbB VAR.out, Below.blkB BEL h0B HBK.out⟩
        have E4 := hid (show Tch (gi + 1) gb wX w4 from (Tch.below BEL))
        have O4 := hid own4
        have hb4 : Blk w4 gb [.slice av LL.length cv] ST := Below.blkB (BEL) hbB VAR.out
        have kb := hb4.cell' (i := 0) (v := .slice av LL.length cv) rfl
        have fb := hb4.frozen 0
        obtain ⟨a6, c6, rfl, -, -, -, -⟩ := O4.out.slice
        have HB4 := hid hb4
        clear hb4 own4 g4
        go_wp2_with fail
        refine hQ _ _ hS9 ?_
        clear hQ Q' hS0
        try dsimp only
        try simp only [Act.put, List.setIfInBounds_toArray, List.set_cons_succ, List.set_cons_zero]
        refine w_late (i := 5) (by kernel_rfl) rfl (by kernel_rfl) ?_
        intro Q' hQ
        go_wp2_with fail
        generalize hwC : World.setCell w4 _ _ = wC
        have bC : Blk wC gb [.slice a6 (LL.length + 8) c6] ST := by rw [← hwC]; exact HB4.out.set 0 (.slice a6 (LL.length + 8) c6)
        have uC : Upd w4 gb wC := by rw [← hwC]; exact Upd.setCell _
        have htc : Tch (gi + 1) gb wX wC := E4.out.trans (Tch.upd uC)
        have ownC := O4.out.turn (w' := wC) fun i hi _ => uC.block i (by omega)
        refine hQ _ _ trivial ?_
        try dsimp only
        try simp only [Act.put, List.setIfInBounds_toArray, List.set_cons_succ, List.set_cons_zero]
        refine w_done (by kernel_rfl) ?_ _
        rw [show LL ++ ys = printL (SQ.take k) b.p ++ fieldL 11 b.p from by rw [HLL.out]; exact congrArg _ (by rw [← HYS.out]; show longL (UInt64.ofNat NN) = longL (UInt64.ofNat b.count.toNat); rw [HNN.out]; rfl)] at ownC
        have hfin := HREL.out _ _ (hM.next (i := 11) h0b hib h0B hiB htc bC ownC (by show (longL _).length ≤ _; rw [longL_length]; decide))
        have HFIN := hid hfin
        clear hwC bC uC htc ownC hfin kb fb
        go_wp2_with fail
        go_roundg g'
        case measure => omega
        case rel => exact HFIN.out
    · have hpu : ¬ k < us.size := by rw [HUSS.out]; exact hps
      have hit := hI.it
      rw [htl] at hit
      have hnx : ∀ ty, (Instr.next (.pointer (some ⟨gi, 0, none⟩)) true ty).run Try.prog wr = _ := fun ty => Lib.run_next_end_at wr gi us k ty hit hpu
      have hfull : SQ.take k = SQ := List.take_of_length_le (by omega)
      rw [hfull] at hI
      obtain ⟨av, cv, hvv, -, -, -, -⟩ := hI.own.slice
      subst hvv
      have hown := hI.own
      rw [← HSQ.out] at hown
      have HJ := hid (show Ext w wr ∧ OwnM wr w.heap.size _ (printL (seqOf (K : Int)) b.p).length (printL (seqOf (K : Int)) b.p) from ⟨hI.ext, hown.lower (by omega)⟩)
      have kv := hI.var.cell' (i := 0) rfl
      rw [← HSQ.out] at kv
      obtain ⟨PP, hPP⟩ : ∃ PP, printL (seqOf (K : Int)) b.p = PP := ⟨_, rfl⟩
      have HPP := hid hPP
      rw [hPP] at kv HJ
      clear hit hfull hI htl hown hPP
      go_wp2_with fail
      go_ret2
      exact ⟨HJ.out.1, .inl ⟨HE.out, _, rfl, by rw [HPP.out]; exact HJ.out.2⟩⟩
end

section
open Go Go.RowKit

set_option maxRecDepth 100000 in
set_option maxHeartbeats 4000000 in
theorem bodiesMatch_c (act : Int) (b : BodyR) (l : List UInt8) (a : Option Addr) (n c : Nat) (w : World) (hb : b.Ok w) (hl : l.length = n) (hnc : n ≤ c) (hn : n ≤ 140737488355328) (hcl : Cells w a (l.map u8v)) :
    Calls Try.prog 6 #[.int .i64 act, .agg b.v.toArray, .slice a n c] w fun e w' => e = .returned (.bool true) ∧ Ext w w' := by
  have HB := hid hb
  have HL := hid hl
  have HC := hid hcl
  clear hb hl hcl
  have HLEN := hid (BodyR.len HB.out)
  go_enter Try.func6, Try.ntmps6
  go_upto_region 1 with (fail)
  generalize hwA : World.alloc w _ = wA
  have bA : Blk wA w.heap.size b.v 72 := by rw [← hwA]; exact Blk.mk_alloc rfl rfl
  have eA : Ext w wA := by rw [← hwA]; exact (Ext.refl w).alloc _
  have BA := hid bA
  have EA := hid eA
  clear hwA bA eA
  go_wp2_with fail
  refine (landed_c wA).mono ?_
  rintro e w2 ⟨rfl, e2⟩
  have BB := hid (BA.out.ext e2)
  have EB := hid (EA.out.ext e2)
  clear e2 BA EA
  go_wp2_with (refine wpl_loadw rfl 72 (.tmp 4) rfl rfl BB.out agg_body HLEN.out ?_)
  refine (lprintBody_c act b w2 (HB.out.ext EB.out)).mono ?_
  rintro e w3 ⟨e3, h3⟩
  have BC := hid (BB.out.ext e3)
  have EC := hid (EB.out.ext e3)
  have hrpr := hid (fun w' h => rprintBody_c act b w' h)
  clear BB
  by_cases hE : bodyE act b = 0
  rotate_left
  · have he : e = .returned (.tuple #[.slice none 0 0, .int .i64 (bodyE act b)]) := (h3.resolve_left (fun h => hE h.1)).2
    obtain ⟨E, hEE⟩ : ∃ E, bodyE act b = E := ⟨_, rfl⟩
    rw [hEE] at he hE hrpr
    subst he
    have d1 : (E == 0) = false := by simpa using hE
    have d2 : (E == E) = true := beq_self_eq_true _
    have HE := hid hE
    clear h3 e3 hEE hE
    go_wp2_with (refine wpl_loadw rfl 72 (.tmp 4) rfl rfl BC.out agg_body HLEN.out ?_)
    refine (hrpr.out w3 (HB.out.ext EC.out)).mono ?_
    rintro e w4 ⟨e4, h4⟩
    have he : e = .returned (.tuple #[.slice none 0 0, .int .i64 E]) := (h4.resolve_left (fun h => HE.out h.1)).2
    subst he
    have ED := hid (EC.out.ext e4)
    clear h4 e4 hrpr EC BC
    go_wp2_with fail
    refine (equal_c [] [] none none 0 0 0 0 w4 rfl rfl (.inl rfl) (.inl rfl)).mono ?_
    rintro e w4b ⟨rfl, hww⟩
    rw [← hww]
    clear hww w4b
    go_wp2_with fail
    go_upto_region 11 with (fail)
    have hlp := lparseBody_c act l a n c w4 HL.out hnc hn (HC.out.ext ED.out)
    rw [parse_same] at hlp
    have hrp := hid (fun w' h => rparseBody_c act l a n c w' HL.out hnc hn h)
    obtain ⟨PB, hPB⟩ : ∃ PB, parseB rcountF act l = PB := ⟨_, rfl⟩
    rw [hPB] at hlp hrp
    obtain ⟨cd, hcd⟩ : ∃ cd, PB.2 = cd := ⟨_, rfl⟩
    rw [hcd] at hlp hrp
    have scd : (cd == cd) = true := beq_self_eq_true _
    have HLP := hid hlp
    clear hlp hPB hcd
    go_wp2_with fail
    refine HLP.out.mono ?_
    rintro e w5 ⟨y, rfl, hyf, hya, hyh, hyp, e5⟩
    have HLY := hid (show y.v.length = 58 by unfold BodyR.v BodyR.t; simp [hyf.hm, hyf.hcm])
    have HYF := hid hyf
    have HYP := hid hyp
    have HYO := hid (hyf.ok hya hyh)
    have E5 := hid (ED.out.ext e5)
    clear hyf hya hyh hyp e5 HLP ED
    go_wp2_with (refine wpl_storew rfl _ _ _ rfl rfl rfl (Blk.mk_alloc (vs := zeroR.v) rfl rfl) agg_body zeroR_len (xs := y.v) HLY.out (v_one y) ?_)
    intro w6 b6 u6
    have e6 : Ext w5 w6 := u6.ext ((Ext.refl w5).alloc _) (Nat.le_refl _)
    have B6 := hid b6
    have HYO6 := hid (HYO.out.ext e6)
    have E6 := hid (E5.out.ext e6)
    clear b6 u6 e6 HYO E5
    obtain ⟨g6, hg6⟩ : ∃ g6, w5.heap.size = g6 := ⟨_, rfl⟩
    rw [hg6] at B6 ⊢
    clear hg6
    go_wp2_with fail
    refine (hrp.out w6 (HC.out.ext E6.out)).mono ?_
    rintro e w7 ⟨z, rfl, hzf, hza, hzh, hzp, e7⟩
    have HLZ := hid (show z.v.length = 58 by unfold BodyR.v BodyR.t; simp [hzf.hm, hzf.hcm])
    have HZP := hid hzp
    have HZO := hid (hzf.ok hza hzh)
    have B7 := hid (B6.out.ext e7)
    have HYO7 := hid (HYO6.out.ext e7)
    have E7 := hid (E6.out.ext e7)
    clear hzf hza hzh hzp e7 B6 HYO6 E6 hrp
    go_wp2_with (refine wpl_storew rfl _ _ _ rfl rfl rfl (Blk.mk_alloc (vs := zeroR.v) rfl rfl) agg_body zeroR_len (xs := z.v) HLZ.out (v_one z) ?_)
    intro w8 b8 u8'
    have e8 : Ext w7 w8 := u8'.ext ((Ext.refl w7).alloc _) (Nat.le_refl _)
    have B8 := hid b8
    have B8y := hid (B7.out.ext e8)
    have HZO8 := hid (HZO.out.ext e8)
    have HYO8 := hid (HYO7.out.ext e8)
    have E8 := hid (E7.out.ext e8)
    clear b8 u8' e8 B7 HZO HYO7 E7
    obtain ⟨g8, hg8⟩ : ∃ g8, w7.heap.size = g8 := ⟨_, rfl⟩
    rw [hg8] at B8 ⊢
    clear hg8
    go_wp2_with (first | (refine wpg_loadw rfl 72 (.tmp 13) rfl rfl B8y.out agg_body HLY.out ?_) | (refine wpg_loadw rfl 72 (.tmp 14) rfl rfl B8.out agg_body HLZ.out ?_))
    refine (sameBody_c y z w8 HYO8.out HZO8.out (HYP.out.trans HZP.out.symm)).mono ?_
    rintro e w9 ⟨rfl, e9⟩
    have E9 := hid (E8.out.ext e9)
    clear e9
    go_wp2_with fail
    go_ret
    exact ⟨rfl, E9.out⟩
  · obtain ⟨-, v3, he, own3⟩ := h3.resolve_right (fun h => h.1 hE)
    subst he
    rw [hE] at hrpr
    obtain ⟨a3, c3, rfl, hnc3, hcm3, hn03, hcl3⟩ := own3.slice
    have hpp := printed_parsed hE HB.out.hm HB.out.hcm HB.out.rl HB.out.hl HB.out.h16
    have hpl := printL_len (right_of hE) HB.out.hm HB.out.hcm HB.out.rl HB.out.hl HB.out.h16
    obtain ⟨PL, hPL⟩ : ∃ PL, printL (seqOf act) b.p = PL := ⟨_, rfl⟩
    rw [hPL] at hnc3 hcl3 hpp hpl hrpr own3 ⊢
    have HC3 := hid hcl3
    have HPP := hid hpp
    clear own3 hcl3 hpp hPL e3
    obtain ⟨nl, hnl⟩ : ∃ nl, PL.length = nl := ⟨_, rfl⟩
    rw [hnl] at hnc3 hpl hrpr ⊢
    have HNL := hid hnl
    clear hnl
    go_wp2_with (refine wpl_loadw rfl 72 (.tmp 4) rfl rfl BC.out agg_body HLEN.out ?_)
    refine (hrpr.out w3 (HB.out.ext EC.out)).mono ?_
    rintro e w4 ⟨e4, h4⟩
    obtain ⟨-, v4, he, own4⟩ := h4.resolve_right (fun h => h.1 rfl)
    subst he
    obtain ⟨a4, c4, rfl, hnc4, hcm4, hn04, hcl4⟩ := own4.slice
    have HC4 := hid hcl4
    have HC34 := hid (HC3.out.ext e4)
    have BD := hid (BC.out.ext e4)
    have ED := hid (EC.out.ext e4)
    clear h4 e4 hrpr EC BC own4 hcl4 HC3
    go_wp2_with fail
    refine (equal_c PL PL a3 a4 nl nl c3 c4 w4 HNL.out.symm HNL.out.symm HC34.out HC4.out).mono ?_
    rintro e w4b ⟨rfl, hww⟩
    rw [← hww, beq_self_eq_true]
    clear hww w4b
    have hlq := lparseBody_c act PL a3 nl c3 w4 HNL.out hnc3 (by omega) HC34.out
    rw [HPP.out] at hlq
    have HLQ := hid hlq
    clear hlq
    go_wp2_with fail
    refine HLQ.out.mono ?_
    rintro e wp ⟨x, rfl, hxf, hxa, hxh, hxp, ep⟩
    have HLX := hid (show x.v.length = 58 by unfold BodyR.v BodyR.t; simp [hxf.hm, hxf.hcm])
    have HXP := hid hxp
    have HXO := hid (hxf.ok hxa hxh)
    have BP := hid (BD.out.ext ep)
    have EP := hid (ED.out.ext ep)
    clear hxf hxa hxh hxp ep HLQ BD ED HC34 HC4
    go_wp2_with (refine wpl_storew rfl _ _ _ rfl rfl rfl (Blk.mk_alloc (vs := zeroR.v) rfl rfl) agg_body zeroR_len (xs := x.v) HLX.out (v_one x) ?_)
    intro wq bq uq
    have eq : Ext wp wq := uq.ext ((Ext.refl wp).alloc _) (Nat.le_refl _)
    have BQ := hid (BP.out.ext eq)
    have BX := hid bq
    have HXQ := hid (HXO.out.ext eq)
    have EQ := hid (EP.out.ext eq)
    clear bq uq eq BP HXO EP
    obtain ⟨gq, hgq⟩ : ∃ gq, wp.heap.size = gq := ⟨_, rfl⟩
    rw [hgq] at BX ⊢
    clear hgq
    go_wp2_with (first | (refine wpg_loadw rfl 72 (.tmp 4) rfl rfl BQ.out agg_body HLEN.out ?_) | (refine wpg_loadw rfl 72 (.tmp 11) rfl rfl BX.out agg_body HLX.out ?_))
    refine (sameBody_c b x wq (HB.out.ext EQ.out) HXQ.out HXP.out.symm).mono ?_
    rintro e wr ⟨rfl, er⟩
    have ER := hid (EQ.out.ext er)
    clear er EQ BQ BX HXQ
    go_upto_region 11 with (fail)
    have hlp := lparseBody_c act l a n c wr HL.out hnc hn (HC.out.ext ER.out)
    rw [parse_same] at hlp
    have hrp := hid (fun w' h => rparseBody_c act l a n c w' HL.out hnc hn h)
    obtain ⟨PB, hPB⟩ : ∃ PB, parseB rcountF act l = PB := ⟨_, rfl⟩
    rw [hPB] at hlp hrp
    obtain ⟨cd, hcd⟩ : ∃ cd, PB.2 = cd := ⟨_, rfl⟩
    rw [hcd] at hlp hrp
    have scd : (cd == cd) = true := beq_self_eq_true _
    have HLP := hid hlp
    clear hlp hPB hcd
    go_wp2_with fail
    refine HLP.out.mono ?_
    rintro e w5 ⟨y, rfl, hyf, hya, hyh, hyp, e5⟩
    have HLY := hid (show y.v.length = 58 by unfold BodyR.v BodyR.t; simp [hyf.hm, hyf.hcm])
    have HYF := hid hyf
    have HYP := hid hyp
    have HYO := hid (hyf.ok hya hyh)
    have E5 := hid (ER.out.ext e5)
    clear hyf hya hyh hyp e5 HLP ER
    go_wp2_with (refine wpl_storew rfl _ _ _ rfl rfl rfl (Blk.mk_alloc (vs := zeroR.v) rfl rfl) agg_body zeroR_len (xs := y.v) HLY.out (v_one y) ?_)
    intro w6 b6 u6
    have e6 : Ext w5 w6 := u6.ext ((Ext.refl w5).alloc _) (Nat.le_refl _)
    have B6 := hid b6
    have HYO6 := hid (HYO.out.ext e6)
    have E6 := hid (E5.out.ext e6)
    clear b6 u6 e6 HYO E5
    obtain ⟨g6, hg6⟩ : ∃ g6, w5.heap.size = g6 := ⟨_, rfl⟩
    rw [hg6] at B6 ⊢
    clear hg6
    go_wp2_with fail
    refine (hrp.out w6 (HC.out.ext E6.out)).mono ?_
    rintro e w7 ⟨z, rfl, hzf, hza, hzh, hzp, e7⟩
    have HLZ := hid (show z.v.length = 58 by unfold BodyR.v BodyR.t; simp [hzf.hm, hzf.hcm])
    have HZP := hid hzp
    have HZO := hid (hzf.ok hza hzh)
    have B7 := hid (B6.out.ext e7)
    have HYO7 := hid (HYO6.out.ext e7)
    have E7 := hid (E6.out.ext e7)
    clear hzf hza hzh hzp e7 B6 HYO6 E6 hrp
    go_wp2_with (refine wpl_storew rfl _ _ _ rfl rfl rfl (Blk.mk_alloc (vs := zeroR.v) rfl rfl) agg_body zeroR_len (xs := z.v) HLZ.out (v_one z) ?_)
    intro w8 b8 u8'
    have e8 : Ext w7 w8 := u8'.ext ((Ext.refl w7).alloc _) (Nat.le_refl _)
    have B8 := hid b8
    have B8y := hid (B7.out.ext e8)
    have HZO8 := hid (HZO.out.ext e8)
    have HYO8 := hid (HYO7.out.ext e8)
    have E8 := hid (E7.out.ext e8)
    clear b8 u8' e8 B7 HZO HYO7 E7
    obtain ⟨g8, hg8⟩ : ∃ g8, w7.heap.size = g8 := ⟨_, rfl⟩
    rw [hg8] at B8 ⊢
    clear hg8
    go_wp2_with (first | (refine wpg_loadw rfl 72 (.tmp 13) rfl rfl B8y.out agg_body HLY.out ?_) | (refine wpg_loadw rfl 72 (.tmp 14) rfl rfl B8.out agg_body HLZ.out ?_))
    refine (sameBody_c y z w8 HYO8.out HZO8.out (HYP.out.trans HZP.out.symm)).mono ?_
    rintro e w9 ⟨rfl, e9⟩
    have E9 := hid (E8.out.ext e9)
    clear e9
    go_wp2_with fail
    go_ret
    exact ⟨rfl, E9.out⟩
end

section
open Go Go.RowKit Go.ChangeShapes Go.WideShapes Go.ChangeAt

theorem u8_of {n : Int} (h : (Lit.int .u8 n).wf = true) : ∃ x : UInt8, Value.int .u8 n = u8v x := by
  have hb := bounds_u8 h
  refine ⟨UInt8.ofNat n.toNat, ?_⟩
  unfold u8v
  congr 1
  rw [UInt8.toNat_ofNat']
  omega

theorem u8s_of : ∀ (vs : List Value), (∀ (i : Nat) (v : Value), vs[i]? = some v → ∃ x : UInt8, v = u8v x) → ∃ l : List UInt8, vs = l.map u8v
  | [], _ => ⟨[], rfl⟩
  | v :: vs, h => by
    obtain ⟨x, hx⟩ := h 0 v rfl
    obtain ⟨l, hl⟩ := u8s_of vs fun i u hu => h (i + 1) u (by simpa using hu)
    exact ⟨x :: l, by rw [hx, hl]; rfl⟩

section
variable {H : Type} {enc : TypeId × Value → H} {P : Program} {w : World}
/-- an array of octets -/
theorem open_octets {r : Reach} {b0 base : Nat} {sp : Nat → Bool} {held : Bool} {t e : TypeId} {n : Nat} {v : Value} {d : DataW H} {ps : List MemPlace} (ht : P.underlying t = some (.array n e)) (he : P.underlying e = some (.int .u8)) (hce : P.cellsOf e = 1) (hct : P.cellsOf t = n)
    (hval : Value.okWide P w r b0 t v) (hd : DataW.Trod enc P w base sp held t v d ps) : ∃ l : List UInt8, l.length = n ∧ v = .agg (l.map u8v).toArray := by
  unfold Value.okWide at hval
  rw [ht] at hval
  obtain ⟨cs, rfl, hs, _⟩ := hval
  obtain ⟨fuel, hf⟩ := hd
  obtain ⟨xs, m, _, _, hlen, hxl, hel⟩ := DataW.trod_array ht hf
  have hcl : cs.toList.length = n := by rw [Array.length_toList, hs, hct]
  obtain ⟨l, hl⟩ := u8s_of cs.toList fun i u hu => by
    have hi : i < n := by
      have := (List.getElem?_eq_some_iff.1 hu).1
      omega
    have h1 := hel i hi
    rw [hce, Nat.mul_one] at h1
    have hx : xs[i]? = some xs[i] := by simp
    have h2 : (cs.toList.drop i).take 1 = [u] := by
      have h3 := List.getElem?_drop (xs := cs.toList) (i := i) (j := 0)
      rw [Nat.add_zero, hu] at h3
      cases hd : cs.toList.drop i with
      | nil => rw [hd] at h3; simp at h3
      | cons y r => rw [hd] at h3; simp at h3; simp [h3]
    have h4 : DataW.trod enc P w base sp held m e [u] = some xs[i] := by
      rw [← h2, ← hx]; exact h1
    obtain ⟨k, hk, _, hw⟩ := DataW.trod_int he h4
    have hu' : u = .int .u8 k := by simpa using hk
    rw [hu']; exact u8_of hw
  refine ⟨l, ?_, ?_⟩
  · have := congrArg List.length hl
    rw [hcl, List.length_map] at this; exact this.symm
  · rw [← hl]
end
end

section
open Go Go.RowKit Go.ChangeShapes Go.WideShapes Go.ChangeAt

section
variable {H : Type} {enc : TypeId × Value → H} {P : Program} {w : World}
/-- a slice of octets, read whole -/
theorem open_bytes {r : Reach} {b0 base : Nat} {held : Bool} {t e : TypeId} {v : Value} {d : DataW H} {ps : List MemPlace} (ht : P.underlying t = some (.slice e)) (he : P.underlying e = some (.int .u8)) (hce : P.cellsOf e = 1)
    (hval : Value.okWide P w r b0 t v) (hd : DataW.Trod enc P w base (fun _ => true) held t v d ps) :
    ∃ (a : Option Addr) (n c : Nat) (l : List UInt8) (es sp : List (DataW H)), v = .slice a n c ∧ l.length = n ∧ n ≤ c ∧ (a = none → c = 0) ∧ Cells w a (l.map u8v) ∧ ((d = .nil ∧ c = 0) ∨ (d = .slice es sp ∧ es.length + sp.length = c)) := by
  obtain ⟨a, n, c, rfl⟩ := okWide_slice ht hval
  obtain ⟨fuel, hf⟩ := hd
  rcases open_ints ht he hce hf with ⟨hcs, hx⟩ | ⟨ad, len, cap, zs, hcs, _, hle, hmax, hlen, hx, hcell, hwf⟩
  · simp [Value.cells] at hcs
    obtain ⟨rfl, rfl, rfl⟩ := hcs
    simp only [Prod.mk.injEq] at hx
    exact ⟨none, 0, 0, [], [], [], rfl, rfl, Nat.le_refl _, fun _ => rfl, .inl rfl, .inl ⟨hx.1, rfl⟩⟩
  · simp [Value.cells] at hcs
    obtain ⟨rfl, rfl, rfl⟩ := hcs
    simp only [Prod.mk.injEq] at hx
    simp only [if_true] at hlen
    obtain ⟨l, hl⟩ := u8s_of ((zs.take n).map (Value.int .u8)) fun i u hu => by
      have hm := List.mem_of_getElem? hu
      obtain ⟨z, hz, rfl⟩ := List.mem_map.1 hm
      exact u8_of (hwf z (List.mem_of_mem_take hz))
    have hll : l.length = n := by
      have := congrArg List.length hl
      simp only [List.length_map, List.length_take] at this
      omega
    refine ⟨some ad, n, c, l, lits .u8 (zs.take n), lits .u8 (zs.drop n), rfl, hll, hle, (fun h => by cases h), ?_, .inr ⟨hx.1, ?_⟩⟩
    · by_cases hn : n = 0
      · left
        have : l = [] := List.length_eq_zero_iff.1 (by omega)
        rw [this]; rfl
      · obtain ⟨b, off, rfl, hat⟩ := ints_at hcell (by omega)
        refine .inr ⟨b, off, rfl, fun i u hu => ?_⟩
        rw [← hl] at hu
        have hi : i < n := by
          have := (List.getElem?_eq_some_iff.1 hu).1
          simp at this; omega
        rw [hat i (by omega)]
        rw [List.getElem?_map, List.getElem?_take_of_lt hi] at hu
        rw [List.getD_eq_getElem?_getD]
        cases hz : zs[i]? with
        | none => rw [hz] at hu; simp at hu
        | some z => rw [hz] at hu; simpa using hu
    · simp [lits]; omega
end
end

section
open Go Go.RowKit Go.ChangeShapes Go.WideShapes Go.ChangeAt Go.Deep

theorem cells?_at {w : World} {base : Nat} {p : Addr} {k : Nat} {cs : List Value} (h : w.cells? base p k = some cs) : cs.length = k ∧ CellsAt w p cs := by
  unfold World.cells? at h
  split at h
  · refine ⟨by simpa using mapM_some_length h, fun j u hu => ?_⟩
    have hj : j < k := by
      have h1 := (List.getElem?_eq_some_iff.1 hu).1
      have h2 := mapM_some_length h
      simp at h2; omega
    have := mapM_some_get h j j (by simp [hj])
    rw [hu] at this
    exact this
  · cases h

section
variable {H : Type} {enc : TypeId × Value → H} {P : Program} {w : World}
theorem octets_of_trod {base : Nat} {sp : Nat → Bool} {held : Bool} {t e : TypeId} {n f : Nat} {cs : List Value} {x : DataW H × List MemPlace} (ht : P.underlying t = some (.array n e)) (he : P.underlying e = some (.int .u8)) (hce : P.cellsOf e = 1) (hct : P.cellsOf t = n)
    (hf : DataW.trod enc P w base sp held f t cs = some x) : ∃ l : List UInt8, l.length = n ∧ cs = l.map u8v := by
  obtain ⟨xs, m, _, _, hlen, hxl, hel⟩ := DataW.trod_array ht hf
  have hcl : cs.length = n := by rw [hlen, hct]
  obtain ⟨l, hl⟩ := u8s_of cs fun i u hu => by
    have hi : i < n := by
      have := (List.getElem?_eq_some_iff.1 hu).1
      omega
    have h1 := hel i hi
    rw [hce, Nat.mul_one] at h1
    have hx : xs[i]? = some xs[i] := by simp
    have h2 : (cs.drop i).take 1 = [u] := by
      have h3 := List.getElem?_drop (xs := cs) (i := i) (j := 0)
      rw [Nat.add_zero, hu] at h3
      cases hd : cs.drop i with
      | nil => rw [hd] at h3; simp at h3
      | cons y r => rw [hd] at h3; simp at h3; simp [h3]
    have h4 : DataW.trod enc P w base sp held m e [u] = some xs[i] := by
      rw [← h2, ← hx]; exact h1
    obtain ⟨k, hk, _, hw⟩ := DataW.trod_int he h4
    have hu' : u = .int .u8 k := by simpa using hk
    rw [hu']; exact u8_of hw
  refine ⟨l, ?_, hl⟩
  have := congrArg List.length hl
  rw [hcl, List.length_map] at this; exact this.symm

/-- a slice of rows, its cell read -/
theorem sums_of_trod {base f : Nat} {held : Bool} {t e q : TypeId} {cs : List Value} {x : DataW H × List MemPlace} (ht : P.underlying t = some (.slice e)) (he : P.underlying e = some (.array 32 q)) (hq : P.underlying q = some (.int .u8)) (cq : P.cellsOf q = 1) (ce : P.cellsOf e = 32)
    (hf : DataW.trod enc P w base (fun _ => true) held f t cs = some x) :
    ∃ (a : Option Addr) (n c : Nat) (ls : List (List UInt8)) (es sp : List (DataW H)), cs = [.slice a n c] ∧ ls.length = n ∧ All32 ls ∧ n ≤ c ∧ c ≤ maxLen ∧ (a = none → c = 0) ∧ Cells w a (rows ls) ∧ ((x.1 = .nil ∧ c = 0) ∨ (x.1 = .slice es sp ∧ es.length + sp.length = c)) := by
  rcases DataW.trod_slice ht hf with ⟨h0, h1⟩ | ⟨a, len, cap, elems, rest, n, _, rfl, rfl, hb, hl, hm, hlen, hel, hsp, hns⟩
  · exact ⟨none, 0, 0, [], [], [], h0, rfl, All32.nil, Nat.le_refl _, Nat.zero_le _, fun _ => rfl, .inl rfl, .inl ⟨by rw [h1], rfl⟩⟩
  · have each : ∀ i, i < len → ∃ l : List UInt8, l.length = 32 ∧ CellsAt w (a.add (i * 32)) (l.map u8v) := by
      intro i hi
      have h1 := hel i hi
      have hx : elems[i]? = some (elems[i]'(by omega)) := by simp
      rw [ce, hx, Option.bind_eq_some_iff] at h1
      obtain ⟨cs', hcs, hy⟩ := h1
      obtain ⟨l, hl1, rfl⟩ := octets_of_trod he hq cq ce hy
      exact ⟨l, hl1, (cells?_at hcs).2⟩
    obtain ⟨g, hg⟩ := choose_lt each
    have h32 : All32 ((List.range len).map g) := fun l hl => by
      obtain ⟨i, hi, rfl⟩ := List.mem_map.1 hl
      exact (hg i (List.mem_range.1 hi)).1
    obtain ⟨hrl, _⟩ := hsp rfl
    refine ⟨some a, len, cap, (List.range len).map g, _, _, rfl, by simp, h32, hl, hm, (fun h => by cases h), ?_, .inr ⟨rfl, by simp; omega⟩⟩
    by_cases h0 : len = 0
    · left; subst h0; rfl
    · obtain ⟨hl0, hc0⟩ := hg 0 (by omega)
      obtain ⟨b, off, spot⟩ := a
      have hspot : spot = none := by
        have := hc0 0 (u8v ((g 0)[0]'(by omega))) (by simp [hl0])
        simpa [Addr.add] using World.cell?_spot this
      subst hspot
      refine .inr ⟨b, off, rfl, fun i u hu => ?_⟩
      have hi : i < 32 * len := by
        have := (List.getElem?_eq_some_iff.1 hu).1
        rw [rows_length h32] at this; simpa using this
      obtain ⟨_, hcr⟩ := hg (i / 32) (by omega)
      have hrow : ((List.range len).map g)[i / 32]? = some (g (i / 32)) := by
        rw [List.getElem?_map, List.getElem?_range (by omega)]; rfl
      have h2 := rows_at h32 hrow
      have h3 : ((g (i / 32)).map u8v)[i % 32]? = some u := by
        rw [← h2, List.getElem?_take_of_lt (Nat.mod_lt _ (by omega)), List.getElem?_drop, Nat.div_add_mod]; exact hu
      have h4 := hcr _ _ h3
      rw [addr_add, addr_add] at h4
      rw [show off + i / 32 * 32 + i % 32 = off + i by omega] at h4
      exact h4

/-- a struct of two ints and a slice of rows -/
theorem open_proof {r : Reach} {b0 base : Nat} {held : Bool} {t e q : TypeId} {f0 f1 f2 : Field} {v : Value} {d : DataW H} {ps : List MemPlace} (ht : P.underlying t = some (.struct #[f0, f1, f2])) (h0 : P.underlying f0.type = some (.int .i64)) (h1 : P.underlying f1.type = some (.int .i64))
    (h2 : P.underlying f2.type = some (.slice e)) (he : P.underlying e = some (.array 32 q)) (hq : P.underlying q = some (.int .u8)) (cq : P.cellsOf q = 1) (ce : P.cellsOf e = 32) (c0 : P.cellsOf f0.type = 1) (c1 : P.cellsOf f1.type = 1) (c2 : P.cellsOf f2.type = 1) (ct : P.cellsOf t = 3)
    (o0 : f0.offset = 0) (o1 : f1.offset = 1) (o2 : f2.offset = 2)
    (hval : Value.okWide P w r b0 t v) (hd : DataW.Trod enc P w base (fun _ => true) held t v d ps) :
    ∃ (I Z : Int) (a : Option Addr) (n c : Nat) (ls : List (List UInt8)), v = .agg #[.int .i64 I, .int .i64 Z, .slice a n c] ∧ ls.length = n ∧ All32 ls ∧ n ≤ c ∧ c ≤ maxLen ∧ (a = none → c = 0) ∧ Cells w a (rows ls) ∧
      ∃ (D : DataW H) (es sp : List (DataW H)), d = .agg [.lit (.int .i64 I), .lit (.int .i64 Z), D] ∧ ((D = .nil ∧ c = 0) ∨ (D = .slice es sp ∧ es.length + sp.length = c)) ∧ (Lit.int .i64 I).wf = true ∧ (Lit.int .i64 Z).wf = true := by
  obtain ⟨cs, rfl, hs⟩ := okWide_struct ht hval
  obtain ⟨fuel, hf⟩ := hd
  obtain ⟨y0, y1, y2, m, hx, hl, g0, g1, g2⟩ := trod_struct3 ht hf
  rw [c0, o0] at g0
  rw [c1, o1] at g1
  rw [c2, o2] at g2
  obtain ⟨I, hI, hI2, wI⟩ := DataW.trod_int h0 g0
  obtain ⟨Z, hZ, hZ2, wZ⟩ := DataW.trod_int h1 g1
  obtain ⟨a, n, c, ls, es, sp, hsl, hln, h32, hnc, hcm, hnil, hcl, hdd⟩ := sums_of_trod h2 he hq cq ce g2
  have hcs : cs = #[.int .i64 I, .int .i64 Z, .slice a n c] := by
    have hsz : cs.size = 3 := by rw [hs, ct]
    obtain ⟨l⟩ := cs
    match l, hsz with
    | [p0, p1, p2], _ =>
      simp [Value.cells] at hI hZ hsl
      rw [hI, hZ, hsl]
  refine ⟨I, Z, a, n, c, ls, by rw [hcs], hln, h32, hnc, hcm, hnil, hcl, y2.1, es, sp, ?_, hdd, wI, wZ⟩
  simp only [Prod.mk.injEq] at hx
  rw [hx.1, hI2, hZ2]
end
end

section
open Go Go.RowKit Go.ChangeShapes Go.WideShapes Go.ChangeAt Go.Deep

theorem mem_weightsU {H : Type} {P : Program} {e : TypeId} : ∀ {ds : List (DataW H)} {d : DataW H}, d ∈ ds → ∀ n ∈ d.weights P e, n ∈ DataW.weightsAll P e ds
  | d0 :: ds, d, hd, n, hn => by
    rw [DataW.weightsAll, List.mem_append]
    rcases List.mem_cons.1 hd with rfl | hd
    · exact .inl hn
    · exact .inr (mem_weightsU hd n hn)
  | [], _, hd, _, _ => by simp at hd
theorem reach_is : reachBytes = 140737488351232 := by decide

section
variable {H : Type} {enc : TypeId × Value → H} {P : Program} {w : World}
theorem strs_of_trod {base f : Nat} {held : Bool} {t e : TypeId} {cs : List Value} {x : DataW H × List MemPlace} (ht : P.underlying t = some (.slice e)) (he : P.underlying e = some .string) (hc : P.cellsOf e = 1) (hb : P.bytesOf e = 16)
    (hf : DataW.trod enc P w base (fun _ => true) held f t cs = some x) (hw : ∀ n ∈ x.1.weights P t, n ≤ reachBytes) :
    ∃ (a : Option Addr) (n c : Nat) (ls : List ByteArray), cs = [.slice a n c] ∧ ls.length = n ∧ n ≤ c ∧ c ≤ 140737488355328 ∧ Cells w a (ls.map encStr) ∧ ∀ s ∈ ls, s.size ≤ 140737488355328 := by
  rcases open_strs ht he hc hf with ⟨rfl, rfl⟩ | ⟨a, len, m0, m, Sx, rfl, hba, hl, hm, rfl, rfl, hcell⟩
  · exact ⟨none, 0, 0, [], rfl, rfl, Nat.le_refl _, Nat.zero_le _, .inl rfl, by simp⟩
  · simp only [if_true] at hcell hw
    have hm : m ≤ 140737488355328 := by
      have := hw ((len + (m - len)) * P.bytesOf e) (by simp [DataW.weights, ht])
      rw [hb, reach_is] at this
      omega
    refine ⟨some a, len, m, (List.range len).map Sx, rfl, by simp, hl, hm, ?_, ?_⟩
    · by_cases h0 : len = 0
      · left; subst h0; rfl
      · obtain ⟨b, off, spot⟩ := a
        have hspot : spot = none := by
          have := World.cell?_spot (hcell 0 (by omega)).1
          simpa [Addr.add] using this
        subst hspot
        refine .inr ⟨b, off, rfl, fun i u hu => ?_⟩
        have hi : i < len := by
          have := (List.getElem?_eq_some_iff.1 hu).1
          simpa using this
        rw [List.getElem?_map, List.getElem?_map, List.getElem?_range hi] at hu
        have h1 := (hcell i (by omega)).1
        rw [addr_add] at h1
        rw [h1]
        exact hu
    · intro s hs
      obtain ⟨i, hi, rfl⟩ := List.mem_map.1 hs
      have hmem : (DataW.lit (.string (Sx i).data.toList) : DataW H) ∈ (List.range len).map fun i => DataW.lit (.string (Sx i).data.toList) := List.mem_map.2 ⟨i, hi, rfl⟩
      have h3 : (Sx i).data.toList.length ∈ (DataW.lit (.string (Sx i).data.toList) : DataW H).weights P e := by simp [DataW.weights]
      have h4 := hw _ (by
        simp only [DataW.weights, ht, List.mem_cons, List.mem_append]
        exact .inr (.inl (mem_weightsU hmem _ h3)))
      rw [Array.length_toList, reach_is] at h4
      have : (Sx i).size = (Sx i).data.size := rfl
      omega
end

theorem weights_part {H : Type} {P : Program} {t : TypeId} {fs : Array Field} {xs : List (DataW H × List MemPlace)} (ht : P.underlying t = some (.struct fs)) {B : Nat} (hw : ∀ n ∈ (DataW.agg (xs.map (·.1))).weights P t, n ≤ B) {i : Nat} {f : Field} {x : DataW H × List MemPlace} (hf : fs.toList[i]? = some f) (hx : xs[i]? = some x) : ∀ n ∈ x.1.weights P f.type, n ≤ B := by
  intro n hn
  refine hw n ?_
  simp only [DataW.weights, ht]
  exact DataW.weights_mem_each (ts := fs.toList.map (·.type)) (j := i) (by rw [List.getElem?_map, hf]; rfl) (by rw [List.getElem?_map, hx]; rfl) n hn
end

section
open Go Go.RowKit Go.ChangeShapes Go.WideShapes Go.ChangeAt Go.Deep

section
variable {H : Type} {enc : TypeId × Value → H} {P : Program} {w : World}
/-- a slice of IDs, its cell read -/
theorem ids_of_trod {base f : Nat} {held : Bool} {t e q : TypeId} {cs : List Value} {x : DataW H × List MemPlace} (ht : P.underlying t = some (.slice e)) (he : P.underlying e = some (.array 16 q)) (hq : P.underlying q = some (.int .u8)) (cq : P.cellsOf q = 1) (ce : P.cellsOf e = 16)
    (hf : DataW.trod enc P w base (fun _ => true) held f t cs = some x) :
    ∃ (a : Option Addr) (n c : Nat) (ls : List (List UInt8)) (es sp : List (DataW H)), cs = [.slice a n c] ∧ ls.length = n ∧ All16 ls ∧ n ≤ c ∧ c ≤ maxLen ∧ (a = none → c = 0) ∧ Cells w a (rows ls) ∧ ((x.1 = .nil ∧ c = 0) ∨ (x.1 = .slice es sp ∧ es.length + sp.length = c)) := by
  rcases DataW.trod_slice ht hf with ⟨h0, h1⟩ | ⟨a, len, cap, elems, rest, n, _, rfl, rfl, hb, hl, hm, hlen, hel, hsp, hns⟩
  · exact ⟨none, 0, 0, [], [], [], h0, rfl, (fun _ h => by cases h), Nat.le_refl _, Nat.zero_le _, fun _ => rfl, .inl rfl, .inl ⟨by rw [h1], rfl⟩⟩
  · have each : ∀ i, i < len → ∃ l : List UInt8, l.length = 16 ∧ CellsAt w (a.add (i * 16)) (l.map u8v) := by
      intro i hi
      have h1 := hel i hi
      have hx : elems[i]? = some (elems[i]'(by omega)) := by simp
      rw [ce, hx, Option.bind_eq_some_iff] at h1
      obtain ⟨cs', hcs, hy⟩ := h1
      obtain ⟨l, hl1, rfl⟩ := octets_of_trod he hq cq ce hy
      exact ⟨l, hl1, (cells?_at hcs).2⟩
    obtain ⟨g, hg⟩ := choose_lt each
    have h32 : All16 ((List.range len).map g) := fun l hl => by
      obtain ⟨i, hi, rfl⟩ := List.mem_map.1 hl
      exact (hg i (List.mem_range.1 hi)).1
    obtain ⟨hrl, _⟩ := hsp rfl
    refine ⟨some a, len, cap, (List.range len).map g, _, _, rfl, by simp, h32, hl, hm, (fun h => by cases h), ?_, .inr ⟨rfl, by simp; omega⟩⟩
    by_cases h0 : len = 0
    · left; subst h0; rfl
    · obtain ⟨hl0, hc0⟩ := hg 0 (by omega)
      obtain ⟨b, off, spot⟩ := a
      have hspot : spot = none := by
        have := hc0 0 (u8v ((g 0)[0]'(by omega))) (by simp [hl0])
        simpa [Addr.add] using World.cell?_spot this
      subst hspot
      refine .inr ⟨b, off, rfl, fun i u hu => ?_⟩
      have hi : i < 16 * len := by
        have := (List.getElem?_eq_some_iff.1 hu).1
        rw [rows_length16 h32] at this; simpa using this
      obtain ⟨_, hcr⟩ := hg (i / 16) (by omega)
      have hrow : ((List.range len).map g)[i / 16]? = some (g (i / 16)) := by
        rw [List.getElem?_map, List.getElem?_range (by omega)]; rfl
      have h3 : ((g (i / 16)).map u8v)[i % 16]? = some u := by
        rw [← rows_at16 h32 hrow (Nat.mod_lt _ (by omega)), Nat.div_add_mod]; exact hu
      have h4 := hcr _ _ h3
      rw [addr_add, addr_add] at h4
      rw [show off + i / 16 * 16 + i % 16 = off + i by omega] at h4
      exact h4

end

section
variable {H : Type} {enc : TypeId × Value → H} {w : World}
set_option maxRecDepth 100000 in
theorem body_of_trod {base f : Nat} {held : Bool} {cs : List Value} {x : DataW H × List MemPlace} (hf : DataW.trod enc Try.prog w base (fun _ => true) held f 72 cs = some x) (hw : ∀ n ∈ x.1.weights Try.prog 72, n ≤ reachBytes) :
    ∃ b : BodyR, cs = b.v ∧ b.Ok w := by
  have ht := Try.underlying72
  obtain ⟨xs, m, _, rfl, hl, hlen, hfs⟩ := DataW.trod_struct ht hf
  have ct : Try.prog.cellsOf 72 = 58 := by kernel_rfl
  have cid : Try.prog.cellsOf 68 = 16 := by kernel_rfl
  have csm : Try.prog.cellsOf 32 = 32 := by kernel_rfl
  have css : Try.prog.cellsOf 69 = 1 := by kernel_rfl
  have csi : Try.prog.cellsOf 70 = 1 := by kernel_rfl
  have c3 : Try.prog.cellsOf 3 = 1 := by kernel_rfl
  have c5 : Try.prog.cellsOf 5 = 1 := by kernel_rfl
  have c9 : Try.prog.cellsOf 9 = 1 := by kernel_rfl
  rw [ct] at hl
  match xs, hlen with
  | [y0, y1, y2, y3, y4, y5, y6, y7, y8, y9, y10, y11], _ =>
  have g0 : DataW.trod enc Try.prog w base (fun _ => true) held m 9 ((cs.drop 0).take 1) = some y0 := by rw [← c9]; exact hfs 0 _ rfl
  have g1 : DataW.trod enc Try.prog w base (fun _ => true) held m 68 ((cs.drop 1).take 16) = some y1 := by rw [← cid]; exact hfs 1 _ rfl
  have g2 : DataW.trod enc Try.prog w base (fun _ => true) held m 69 ((cs.drop 17).take 1) = some y2 := by rw [← css]; exact hfs 2 _ rfl
  have g3 : DataW.trod enc Try.prog w base (fun _ => true) held m 9 ((cs.drop 18).take 1) = some y3 := by rw [← c9]; exact hfs 3 _ rfl
  have g4 : DataW.trod enc Try.prog w base (fun _ => true) held m 32 ((cs.drop 19).take 32) = some y4 := by rw [← csm]; exact hfs 4 _ rfl
  have g5 : DataW.trod enc Try.prog w base (fun _ => true) held m 3 ((cs.drop 51).take 1) = some y5 := by rw [← c3]; exact hfs 5 _ rfl
  have g6 : DataW.trod enc Try.prog w base (fun _ => true) held m 3 ((cs.drop 52).take 1) = some y6 := by rw [← c3]; exact hfs 6 _ rfl
  have g7 : DataW.trod enc Try.prog w base (fun _ => true) held m 3 ((cs.drop 53).take 1) = some y7 := by rw [← c3]; exact hfs 7 _ rfl
  have g8 : DataW.trod enc Try.prog w base (fun _ => true) held m 3 ((cs.drop 54).take 1) = some y8 := by rw [← c3]; exact hfs 8 _ rfl
  have g9 : DataW.trod enc Try.prog w base (fun _ => true) held m 3 ((cs.drop 55).take 1) = some y9 := by rw [← c3]; exact hfs 9 _ rfl
  have g10 : DataW.trod enc Try.prog w base (fun _ => true) held m 3 ((cs.drop 56).take 1) = some y10 := by rw [← c3]; exact hfs 10 _ rfl
  have g11 : DataW.trod enc Try.prog w base (fun _ => true) held m 70 ((cs.drop 57).take 1) = some y11 := by rw [← csi]; exact hfs 11 _ rfl
  have w0 := weights_part ht hw (i := 0) rfl rfl
  have w2 := weights_part ht hw (i := 2) rfl rfl
  have w3 := weights_part ht hw (i := 3) rfl rfl
  have w11 := weights_part ht hw (i := 11) rfl rfl
  obtain ⟨s0, h0, hx0, _⟩ := DataW.trod_string Try.underlying9 g0
  obtain ⟨l1, hl1, h1⟩ := octets_of_trod Try.underlying68 Try.underlying5 c5 cid g1
  obtain ⟨a2, n2, c2, l2, h2, p1, p2, p3, p4, p5⟩ := strs_of_trod Try.underlying69 Try.underlying9 c9 (by kernel_rfl) g2 w2
  obtain ⟨s3, h3, hx3, _⟩ := DataW.trod_string Try.underlying9 g3
  obtain ⟨l4, hl4, h4⟩ := octets_of_trod Try.underlying32 Try.underlying5 c5 csm g4
  obtain ⟨z5, h5, _, _⟩ := DataW.trod_int Try.underlying3 g5
  obtain ⟨z6, h6, _, _⟩ := DataW.trod_int Try.underlying3 g6
  obtain ⟨z7, h7, _, _⟩ := DataW.trod_int Try.underlying3 g7
  obtain ⟨z8, h8, _, _⟩ := DataW.trod_int Try.underlying3 g8
  obtain ⟨z9, h9, _, _⟩ := DataW.trod_int Try.underlying3 g9
  obtain ⟨z10, h10, _, _⟩ := DataW.trod_int Try.underlying3 g10
  obtain ⟨a11, n11, c11, l11, es, sp, h11, q1, q2, q3, q4, q5, q6, q7⟩ := ids_of_trod Try.underlying70 Try.underlying68 Try.underlying5 c5 cid g11
  have hcap : c11 ≤ 140737488355328 := by
    rcases q7 with ⟨_, hc⟩ | ⟨hx, hc⟩
    · omega
    · have hbid : Try.prog.bytesOf 68 = 16 := by kernel_rfl
      have := w11 (es.length * Try.prog.bytesOf 68 + sp.length * Try.prog.bytesOf 68) (by rw [hx]; simp [DataW.weights, Try.underlying70, Nat.add_mul])
      rw [hbid, reach_is] at this
      omega
  have hs0 : s0.size ≤ 140737488355328 := by
    have := w0 s0.data.toList.length (by rw [hx0]; simp [DataW.weights])
    rw [Array.length_toList, reach_is] at this
    have e : s0.size = s0.data.size := rfl
    omega
  have hs3 : s3.size ≤ 140737488355328 := by
    have := w3 s3.data.toList.length (by rw [hx3]; simp [DataW.weights])
    rw [Array.length_toList, reach_is] at this
    have e : s3.size = s3.data.size := rfl
    omega
  have hn2 : n2 ≤ 140737488355328 := by omega
  have hn11 : n11 ≤ 140737488355328 := by omega
  refine ⟨⟨s0, l1, a2, n2, c2, l2, s3, l4, z5, z6, z7, z8, z9, z10, a11, n11, c11, l11⟩, ?_, ⟨hs0, hl1, hl4, p1, p2, hn2, p4, p5, hs3, q1, q3, hn11, q2, q6⟩⟩
  unfold BodyR.v BodyR.t
  have e : ∀ p q : Nat, cs.take p ++ (cs.drop p).take q = cs.take (p + q) := fun p q => List.take_add.symm
  have s1 : cs = cs.take 1 ++ (cs.drop 1).take 16 ++ (cs.drop 17).take 1 ++ (cs.drop 18).take 1 ++ (cs.drop 19).take 32 ++ (cs.drop 51).take 1 ++ (cs.drop 52).take 1 ++ (cs.drop 53).take 1 ++ (cs.drop 54).take 1 ++ (cs.drop 55).take 1 ++ (cs.drop 56).take 1 ++ (cs.drop 57).take 1 := by
    rw [e 1 16, e 17 1, e 18 1, e 19 32, e 51 1, e 52 1, e 53 1, e 54 1, e 55 1, e 56 1, e 57 1, List.take_of_length_le (by omega)]
  rw [List.drop_zero] at h0
  rw [s1, h0, h1, h2, h3, h4, h5, h6, h7, h8, h9, h10, h11]
  simp

set_option maxRecDepth 100000 in
theorem open_body {r : Reach} {b0 base : Nat} {held : Bool} {v : Value} {d : DataW H} {ps : List MemPlace} {ts : List TypeId} {ds : List (DataW H)} {j : Nat} (hsz : (DataW.weightsEach Try.prog ts ds).all (· ≤ reachBytes) = true)
    (hval : Value.okWide Try.prog w r b0 72 v) (hd : DataW.Trod enc Try.prog w base (fun _ => true) held 72 v d ps) (htj : ts[j]? = some 72) (hdj : ds[j]? = some d) : ∃ q : BodyR, v = .agg q.v.toArray ∧ q.Ok w := by
  have hw := fun n hn => of_decide_eq_true (List.all_eq_true.1 hsz n (DataW.weights_mem_each htj hdj n hn))
  obtain ⟨cs, rfl, hs⟩ := okWide_struct Try.underlying72 hval
  obtain ⟨fuel, hf⟩ := hd
  obtain ⟨q, hq, hok⟩ := body_of_trod hf hw
  exact ⟨q, by rw [← hq]; rfl, hok⟩
end
end
end Go.Proofs.Ytkcjdginoccgjaa
