/- Contracts and laws that the claim's row leans on (1 texts, joined): keyref1.ParseBody; conditions: the sizes. -/
import Derived.Test.YtkcjdginoccgjaaJ6
namespace Go.Proofs.Ytkcjdginoccgjaa
section
open Go Go.RowKit

section
variable {w0 : World} {g gi B : Nat} {us : ByteArray} {l0 : List UInt8} {sq : List Nat} {w : World} {r : BodyR} {l : List UInt8} {s : Bool}
/-- what holds in the loop on the roles -/
structure RLoopR (w0 : World) (g gi B n1 : Nat) (us : ByteArray) (r : BodyR) (l1 : List UInt8) (s1 : Bool) (k : Nat) (w : World) (a : Option Addr) (c : Nat) (ls : List ByteArray) (lk : List UInt8) (sk : Bool) : Prop where
  body : Blk w (w0.heap.size + 1) { r with ra := a, rn := k, rc := c, roles := ls }.v 72
  res : Blk w w0.heap.size zeroR.v 72
  rd : RdAt OT w0.heap.size w g lk sk
  took : Took (manyP textP k []) l1 s1 ls lk sk
  ext : Ext w0 w
  len : ls.length = k
  siz : ∀ s ∈ ls, s.size ≤ 140737488355328
  own : w.ownsRow B 9 1 (.slice a k c) k (ls.map encStr)
  it : w.heap[gi]? = some (.stringIter us n1)
structure RLoopH (w0 : World) (g gi B n1 : Nat) (us : ByteArray) (r : BodyR) (l1 : List UInt8) (s1 : Bool) (k : Nat) (w : World) (a : Option Addr) (c : Nat) (ls : List (List UInt8)) (lk : List UInt8) (sk : Bool) : Prop where
  body : Blk w (w0.heap.size + 1) { r with ha := a, hn := k, hc := c, holders := ls }.v 72
  res : Blk w w0.heap.size zeroR.v 72
  rd : RdAt OT w0.heap.size w g lk sk
  took : Took (manyP (takeP 16) k []) l1 s1 ls lk sk
  ext : Ext w0 w
  len : ls.length = k
  h16 : All16 ls
  own : w.ownsRow B 68 16 (.slice a k c) k (rows ls)
  it : w.heap[gi]? = some (.stringIter us n1)
end
theorem seq_excl {act : Int} (h : lactB act = true) : ¬ (2 ∈ seqOf act ∧ 9 ∈ seqOf act) := by
  rcases acts12 h with rfl | rfl | rfl | rfl | rfl | rfl | rfl | rfl | rfl | rfl | rfl | rfl <;> decide
theorem rcount_took {X : BodyP} {l l2 x : List UInt8} {s s2 : Bool} (h : Took (takeP 8) l s x l2 s2) : Took (fieldP rcountF 11 X) l s { X with count := w64 (natOf x) } l2 s2 := (h.map fun x => ({ X with count := w64 (natOf x) } : BodyP)).congr (by show _ = ((takeP 8 l).map fun p => (rcountF p.1, p.2)).map _; cases takeP 8 l <;> rfl)
theorem repoch_took {X : BodyP} {l l2 x : List UInt8} {s s2 : Bool} (h : Took (takeP 4) l s x l2 s2) : Took (fieldP rcountF 5 X) l s { X with epoch := (natOf x : Int) } l2 s2 := (h.map fun x => ({ X with epoch := (natOf x : Int) } : BodyP)).congr rfl
theorem rtook_text {X : BodyP} {n : Nat} {l l2 x : List UInt8} {s s2 : Bool} (hn : l.length = n) (h : Took (takeP n) l s x l2 s2) : Took (fieldP rcountF 0 X) l s { X with text := strOf x } l2 s2 := (took_text hn h).congr (by unfold fieldP; rw [if_pos rfl, if_pos rfl])
theorem rtook_text2 {l m l2 x : List UInt8} {n : Nat} {s t s2 : Bool} (h : Took octP l s n m t) (k : Took (takeP n) m t x l2 s2) : Took textP l s (strOf x) l2 s2 :=
  (h.bind (q := fun n l => (takeP n l).map fun q => (strOf q.1, q.2)) (k.map strOf)).congr (by unfold textP strOf; rfl)

set_option maxRecDepth 100000 in
set_option maxHeartbeats 16000000 in
theorem rparseBody_c (act : Int) (l : List UInt8) (a : Option Addr) (n c : Nat) (w : World) (hl : l.length = n) (hnc : n ≤ c) (hn : n ≤ 140737488355328) (hcl : Cells w a (l.map u8v)) :
    Calls Try.prog 41 #[.int .i64 act, .slice a n c] w fun e w' => ∃ r : BodyR, e = .returned (.tuple #[.agg r.v.toArray, .int .i64 (parseB rcountF act l).2]) ∧ r.Fit ∧ CellsHi w' w.heap.size r.ra (r.roles.map encStr) ∧ CellsHi w' w.heap.size r.ha (rows r.holders) ∧ r.p = (parseB rcountF act l).1 ∧ Ext w w' := by
  have HL := hid hl
  have HC := hid hcl
  obtain ⟨PB, hPB⟩ : ∃ PB, parseB rcountF act l = PB := ⟨_, rfl⟩
  rw [hPB]
  unfold parseB at hPB
  clear hcl
  by_cases h1 : act < 1 ∨ 12 < act
  · have hlf : lactB act = false := by
      unfold lactB
      rcases h1 with h | h
      · rw [decide_eq_false (by omega)]; rfl
      · rw [decide_eq_false (show ¬ act ≤ 12 by omega), Bool.and_false]
    rw [hlf, if_pos rfl] at hPB
    subst hPB
    clear hl hlf
    go_enter Try.func41, Try.ntmps41
    go_upto_region 2 with (fail)
    generalize hwA : World.alloc (World.alloc w _) _ = wA
    have zA : Blk wA w.heap.size zeroR.v 72 := by rw [← hwA]; exact (Blk.mk_alloc rfl rfl).alloc _
    have xA : Blk wA (w.heap.size + 1) zeroR.v 72 := by rw [← hwA]; exact Blk.mk_alloc (size_alloc _ _).symm rfl
    have eA : Ext w wA := by rw [← hwA]; exact ((Ext.refl w).alloc _).alloc _
    have ZA := hid zA
    have XA := hid xA
    have EA := hid eA
    clear hwA zA xA eA
    by_cases h2 : act < 1
    · have d1 : decide (act < 1) = true := decide_eq_true h2
      clear h1 h2
      go_wp2_with (first | (refine wpl_loadw rfl 72 (.tmp 6) rfl rfl XA.out agg_body zeroR_len ?_) | (refine wpl_storew rfl _ _ _ rfl rfl rfl ZA.out agg_body zeroR_len (xs := zeroR.v) zeroR_len (v_one zeroR) ?_))
      intro w3 b3 u3
      go_wp2_with fail
      exact ret_row2 rfl rfl b3 agg_body zeroR_len rfl ⟨zeroR, rfl, zeroR_fit, .inl rfl, .inl rfl, rfl, u3.ext EA.out (Nat.le_refl _)⟩
    · have d1 : decide (act < 1) = false := decide_eq_false h2
      have d2 : decide (12 < act) = true := decide_eq_true (h1.resolve_left h2)
      clear h1 h2
      go_wp2_with (first | (refine wpl_loadw rfl 72 (.tmp 6) rfl rfl XA.out agg_body zeroR_len ?_) | (refine wpl_storew rfl _ _ _ rfl rfl rfl ZA.out agg_body zeroR_len (xs := zeroR.v) zeroR_len (v_one zeroR) ?_))
      intro w3 b3 u3
      go_wp2_with fail
      exact ret_row2 rfl rfl b3 agg_body zeroR_len rfl ⟨zeroR, rfl, zeroR_fit, .inl rfl, .inl rfl, rfl, u3.ext EA.out (Nat.le_refl _)⟩
  have hla : lactB act = true := by unfold lactB; rw [decide_eq_true (show 1 ≤ act by omega), decide_eq_true (show act ≤ 12 by omega)]; rfl
  rw [hla, if_neg (by simp)] at hPB
  have d1 : decide (act < 1) = false := decide_eq_false (by omega)
  have d2 : decide (12 < act) = false := decide_eq_false (by omega)
  have hbe := hid (fun r w' h => bodyError_c act r w' h)
  obtain ⟨K, rfl⟩ : ∃ K : Nat, act = (K : Int) := ⟨act.toNat, by omega⟩
  have huse := hid (fun w => uses_c K w (by omega))
  have hus := uses_seq hla
  rw [show (K : Int).toNat = K from rfl] at hus
  have hnd := seq_nodup hla
  have hxc := seq_excl hla
  obtain ⟨SQ, hSQ⟩ : ∃ SQ, seqOf (K : Int) = SQ := ⟨_, rfl⟩
  rw [hSQ] at hus hnd hxc hPB
  have HXC := hid hxc
  obtain ⟨us, huu⟩ : ∃ us : ByteArray, (⟨(usesL K).toArray⟩ : ByteArray) = us := ⟨_, rfl⟩
  rw [huu] at huse
  have husl : us.data.toList = SQ.map letter := by rw [← huu, ← hus]
  have huss : us.size = SQ.length := by
    have h9 := congrArg List.length husl
    rw [Array.length_toList, List.length_map] at h9; exact h9
  have HUSL := hid husl
  have HUSS := hid huss
  have HND := hid hnd
  clear hus huu husl huss hnd hxc hSQ h1 hla
  go_enter Try.func41, Try.ntmps41
  go_upto_region 2 with (fail)
  generalize hwA : World.alloc (World.alloc w _) _ = wA
  have zA : Blk wA w.heap.size zeroR.v 72 := by rw [← hwA]; exact (Blk.mk_alloc rfl rfl).alloc _
  have xA : Blk wA (w.heap.size + 1) zeroR.v 72 := by rw [← hwA]; exact Blk.mk_alloc (size_alloc _ _).symm rfl
  have eA : Ext w wA := by rw [← hwA]; exact ((Ext.refl w).alloc _).alloc _
  have ZA := hid zA
  have XA := hid xA
  have EA := hid eA
  clear hwA zA xA eA
  by_cases q1 : 32768 < n
  · rw [hl, if_pos q1] at hPB
    subst hPB
    have d3 : decide (32768 < n) = true := decide_eq_true q1
    have d4 : decide ((32768 : Int) < (n : Int)) = true := decide_eq_true (by omega)
    clear hl q1
    go_wp2_with (first | (refine wpl_loadw rfl 72 (.tmp 6) rfl rfl XA.out agg_body zeroR_len ?_) | (refine wpl_storew rfl _ _ _ rfl rfl rfl ZA.out agg_body zeroR_len (xs := zeroR.v) zeroR_len (v_one zeroR) ?_))
    intro w3 b3 u3
    go_wp2_with fail
    exact ret_row2 rfl rfl b3 agg_body zeroR_len rfl ⟨zeroR, rfl, zeroR_fit, .inl rfl, .inl rfl, rfl, u3.ext EA.out (Nat.le_refl _)⟩
  rw [hl, if_neg q1] at hPB
  have HPB := hid hPB
  have d3 : decide (32768 < n) = false := decide_eq_false q1
  have d3' : decide ((32768 : Int) < (n : Int)) = false := decide_eq_false (by omega)
  clear hl hPB q1
  go_upto_region 7 with (fail)
  generalize hwB : World.alloc wA _ = wB
  obtain ⟨g, hg⟩ : ∃ g, wA.heap.size = g := ⟨_, rfl⟩
  have rB : Blk wB g [.slice a n c, .bool false] OT := by rw [← hwB, ← hg]; exact Blk.mk_alloc rfl rfl
  have eB : Ext wA wB := by rw [← hwB]; exact (Ext.refl wA).alloc _
  rw [hg]
  have hgw : w.heap.size + 1 < g := by rw [← hg]; exact XA.out.lt
  have rdB : RdAt OT w.heap.size wB g l false := by
    refine ⟨a, n, c, rB, HL.out, hnc, hn, (EA.out.ext eB).size, ?_⟩
    rcases HC.out with h0 | ⟨b, off, ha, h0⟩
    · exact .inl h0
    · by_cases he : l.map u8v = []
      · exact .inl he
      · obtain ⟨u, hu⟩ : ∃ u, (l.map u8v)[0]? = some u := ⟨_, List.getElem?_eq_getElem (List.length_pos_iff.2 he)⟩
        have hb : b < w.heap.size := block_lt_of_cell (h0 0 u hu)
        exact .inr ⟨b, off, ha, hb, by omega, fun j v hv => cell_same (h0 j v hv) ((EA.out.ext eB).block b hb)⟩
  have RDB := hid rdB
  have ZB := hid (ZA.out.ext eB)
  have XB := hid (XA.out.ext eB)
  have EB := hid (EA.out.ext eB)
  clear hwB rB rdB eB ZA XA EA hg HL HC
  go_wp2_with fail
  refine (huse.out wB).mono ?_
  rintro e w3 ⟨rfl, e3⟩
  have ZC := hid (ZB.out.ext e3)
  have XC := hid (XB.out.ext e3)
  have EC := hid (EB.out.ext e3)
  have RDC := hid (RDB.out.ext e3)
  have hgs : g < w3.heap.size := RDC.out.lt
  clear e3 ZB XB EB RDB huse
  go_wp2_with fail
  obtain ⟨gi, hgi⟩ : ∃ gi, w3.heap.size = gi := ⟨_, rfl⟩
  have hit0 := World.iter_heap w3 us 0
  have eI : Ext w3 (w3.iter us 0) := (Ext.refl w3).alloc _
  rw [hgi] at hit0 hgs ⊢
  have hg1 : w.heap.size + 1 < gi := by omega
  have hne : gi ≠ g := by omega
  have hB1 : w.heap.size + 1 < gi + 1 := by omega
  have hgB : g < gi + 1 := by omega
  have hgiB : gi < gi + 1 := by omega
  have I0 : RInv w g gi (gi + 1) us l [] (w3.iter us 0) zeroR l false :=
    ⟨XC.out.ext eI, ZC.out.ext eI, RDC.out.ext eI, ⟨fun h => ⟨h, rfl⟩, fun h => .inl h⟩, EC.out.ext eI, zeroR_fit, .inl rfl, .inl rfl, fun _ => ⟨rfl, rfl, rfl, rfl⟩, fun _ => ⟨rfl, rfl, rfl, rfl⟩, hit0⟩
  clear hit0 eI ZC XC EC RDC hgi
  go_loopg [] SQ.length (fun gf wx => ∃ (k : Nat) (r : BodyR) (lk : List UInt8) (sk : Bool), k ≤ SQ.length ∧ RInv w g gi (gi + 1) us l (SQ.take k) wx r lk sk ∧ SQ.length ≤ k + gf)
  case atStart => exact ⟨0, zeroR, l, false, by omega, by simpa using I0, by omega⟩
  case round =>
    obtain ⟨k, r, lk, sk, hk, hI, hfu⟩ := hrel
    clear I0
    have htl : (SQ.take k).length = k := by rw [List.length_take]; omega
    by_cases hps : k < SQ.length
    · obtain ⟨g', rfl⟩ : ∃ g', gk = g' + 1 := ⟨gk - 1, by omega⟩
      obtain ⟨i, hi⟩ : ∃ i, SQ[k]? = some i := ⟨_, List.getElem?_eq_getElem hps⟩
      have htk : SQ.take (k + 1) = SQ.take k ++ [i] := by rw [List.take_add_one, hi]; rfl
      have hi12 : i < 12 := HND.out.2 i (List.mem_of_getElem? hi)
      have hni : i ∉ SQ.take k := by
        intro hm
        have h9 := HND.out.1
        have h8 : SQ = SQ.take k ++ SQ.drop k := (List.take_append_drop k SQ).symm
        rw [h8] at h9
        refine (List.nodup_append.1 h9).2.2 i hm i ?_ rfl
        exact List.mem_of_getElem? (i := 0) (by rw [List.getElem?_drop]; exact hi)
      have HMEM := hid (List.mem_of_getElem? hi)
      have hpu : k < us.size := by rw [HUSS.out]; exact hps
      have hit := hI.it
      rw [htl] at hit
      have hnx : ∀ ty, (Instr.next (.pointer (some ⟨gi, 0, none⟩)) true ty).run Try.prog wr = _ := fun ty => Lib.run_next_any_at wr gi us k ty hit hpu
      have huk : us[k]'hpu = letter i := by
        have h9 : us.data.toList[k]? = some (letter i) := by rw [HUSL.out, List.getElem?_map, hi]; rfl
        rw [Array.getElem?_toList] at h9
        exact (Array.getElem?_eq_some_iff.1 h9).2
      have hasc : (us[k]'hpu).toNat < 128 := by
        rw [huk]
        rcases (by omega : i = 0 ∨ i = 1 ∨ i = 2 ∨ i = 3 ∨ i = 4 ∨ i = 5 ∨ i = 6 ∨ i = 7 ∨ i = 8 ∨ i = 9 ∨ i = 10 ∨ i = 11) with rfl | rfl | rfl | rfl | rfl | rfl | rfl | rfl | rfl | rfl | rfl | rfl <;> decide
      have hdec := decode_ascii us k hpu hasc
      rw [huk] at hdec
      rw [hdec] at hnx
      have hM : RMid w g gi (gi + 1) us l (SQ.take k) (wr.iterAt gi us (k + 1)) r lk sk :=
        hI.next hgw hg1 hne hgiB (fun j hj => Lib.iterAt_other wr gi j us (k + 1) hj) (Lib.iterAt_size ..) ⟨rfl, rfl, rfl⟩ (by rw [htl]; exact Lib.iterAt_heap wr gi us k (k + 1) hit)
      have HTK := hid htk
      have HNI := hid hni
      clear hI hit hdec huk hasc htk hni hi
      simp only at hnx
      generalize wr.iterAt gi us (k + 1) = wX at *
      obtain ⟨wY, hwY⟩ : ∃ wY, wX = wY := ⟨_, rfl⟩
      have hrel9 : ∀ wz r2 l2 s2, RInv w g gi (gi + 1) us l (SQ.take k ++ [i]) wz r2 l2 s2 → ∃ (k : Nat) (r : BodyR) (lk : List UInt8) (sk : Bool), k ≤ SQ.length ∧ RInv w g gi (gi + 1) us l (SQ.take k) wz r lk sk ∧ SQ.length ≤ k + g' :=
        fun wz r2 l2 s2 h => ⟨k + 1, r2, l2, s2, by omega, by rw [HTK.out]; exact h, by omega⟩
      have HREL := hid hrel9
      clear hrel9 hwY HTK
      rcases (by omega : i = 0 ∨ i = 1 ∨ i = 2 ∨ i = 3 ∨ i = 4 ∨ i = 5 ∨ i = 6 ∨ i = 7 ∨ i = 8 ∨ i = 9 ∨ i = 10 ∨ i = 11) with rfl | rfl | rfl | rfl | rfl | rfl | rfl | rfl | rfl | rfl | rfl | rfl
      · skip
        obtain ⟨ar, nr, cr, hb, hnr, hncr, hcr, hD', hclr⟩ := hM.rd
        have k0 := hb.cell' (i := 0) (v := .slice ar nr cr) rfl
        have HN := hid hnr
        clear hb hnr hclr
        go_wp2_with fail
        refine (rtake_c lk sk w.heap.size g nr wX (by omega) hM.rd).mono ?_
        rintro e w2 ⟨a2, c2, x, l2, s2, rfl, hc2, hx, hcl2, hr2, ht2, hl2, hg2⟩
        have HX := hid hx
        have HC2 := hid hcl2
        have HT2 := hid ht2
        have hx2 : x.length ≤ 140737488355328 := by rw [hx]; omega
        have HX2 := hid hx2
        clear hx hcl2 ht2 hx2 k0
        have HBB := hid (hM.body2 hgw hg2)
        have kb := HBB.out.cell' (BodyR.at0 r)
        have fb := HBB.out.frozen 0
        go_wp2_with (refine wpl_run rfl (exec_toStr rfl rfl HX.out HC2.out.cells) ?_)
        generalize hwB : World.setCell w2 _ _ = w3
        have b3 : Blk w3 (w.heap.size + 1) { r with text := strOf x }.v 72 := by rw [← hwB]; exact HBB.out.set 0 (.string (strOf x))
        have u3 : Upd w2 (w.heap.size + 1) w3 := by rw [← hwB]; exact Upd.setCell _
        clear hwB kb fb
        have hfit : BodyR.Fit { r with text := strOf x } := { hM.fit with ts := by show x.toArray.size ≤ _; rw [List.size_toArray]; exact HX2.out }
        have hfin := HREL.out _ _ _ _ (hM.store (i := 0) hgw hg1 hne hB1 hgB hg2 hr2 u3 b3 (took_field (i := 0) hM.took (rtook_text HN.out HT2.out)) hfit rfl rfl rfl rfl rfl rfl rfl rfl)
        go_roundg g'
        case measure => omega
        case rel => exact hfin
      · skip
        go_wp2_with fail
        refine (rtake_c lk sk w.heap.size g 16 wX (by omega) hM.rd).mono ?_
        rintro e w2 ⟨a2, c2, x, l2, s2, rfl, hc2, hx, hcl2, hr2, ht2, hl2, hg2⟩
        have HX := hid hx
        have HC2 := hid hcl2
        have HT2 := hid ht2
        clear hx hcl2 ht2
        obtain ⟨b, off, rfl, h2⟩ := HC2.out.cells.some_of (by rw [List.length_map, HX.out]; omega)
        have HCA := hid (CellsAt.of HC2.out.cells)
        have HXL := hid (show (x.map u8v).length = 16 by rw [List.length_map]; exact HX.out)
        have HBB := hid (hM.body2 hgw hg2)
        have HLEN := hid (show r.v.length = 58 by unfold BodyR.v BodyR.t; simp [hM.fit.hm, hM.fit.hcm])
        clear h2
        go_wp2_with (first | (refine wpl_run rfl (exec_arrayAt rfl rfl Try.underlying68 (Nat.le_refl _) _) ?_) | (refine wpl_run rfl (exec_load_at rfl rfl HCA.out agg_id HXL.out) ?_) | (refine wpl_store rfl _ _ _ rfl rfl rfl HBB.out (by rw [HXL.out]; exact agg_id) (by rw [HXL.out, HLEN.out]; decide) (one_u8 x) ?_))
        intro w3 b3 u3
        rw [BodyR.put1 _ _ hM.fit.hm HX.out] at b3
        have hfit : BodyR.Fit { r with member := x } := { hM.fit with hm := HX.out }
        have hfin := HREL.out _ _ _ _ (hM.store (i := 1) hgw hg1 hne hB1 hgB hg2 hr2 u3 b3 (took_field (i := 1) hM.took ((HT2.out.map fun x => ({ r.p with member := x } : BodyP)).congr rfl)) hfit rfl rfl rfl rfl rfl rfl rfl rfl)
        go_wp2_with fail
        go_roundg g'
        case measure => omega
        case rel => exact hfin
      · skip
        have hNR := hM.nr HNI.out
        have hNH := hM.nh (fun h => HXC.out ⟨HMEM.out, List.mem_of_mem_take h⟩)
        go_wp2_with fail
        refine (rone_c lk sk w.heap.size g wX hM.rd).mono ?_
        rintro e w20 ⟨n1, rfl, hn1, l1, s1, hr1, ht1, hl1, hg1⟩
        have HT1 := hid ht1
        have HF := hid hM.fit
        have hb1 := hM.body2 hgw hg1
        have L0 : RLoopR w g gi (gi + 1) ((SQ.take k).length + 1) us r l1 s1 0 w20 none 0 [] l1 s1 := ⟨by rw [hNR.eq]; exact hb1, hM.res.grown hg1 (by simp; omega), hr1, ⟨fun h => ⟨h, rfl⟩, fun h => .inl h⟩, hM.ext.grownAt hg1 (by omega), rfl, (fun _ h => by cases h), ⟨rfl, .inl ⟨rfl, rfl⟩⟩, by rw [hg1.block gi (Array.getElem?_eq_some_iff.1 hM.it).1 (by simpa using hne)]; exact hM.it⟩
        clear hr1 ht1 hb1
        go_wp2_with fail
        go_loopw [54] (fun i wr => ∃ (k1 : Nat) (a : Option Addr) (c : Nat) (ls : List ByteArray) (lk : List UInt8) (sk : Bool), k1 ≤ n1 ∧ i = .int .i64 (k1 : Int) ∧ RLoopR w g gi (gi + 1) ((SQ.take k).length + 1) us r l1 s1 k1 wr a c ls lk sk) (fun i _ => n1 - (intOf i).toNat)
        case atStart => exact ⟨0, none, 0, [], l1, s1, by omega, rfl, L0⟩
        case round =>
          obtain ⟨k1, a1, c1, ls, lk1, sk1, hk1, rfl, hL⟩ := hrel
          clear L0
          by_cases hlt : k1 < n1
          · have t1 : decide ((k1 : Int) < (n1 : Int)) = true := decide_eq_true (by omega)
            have t2 : decide (k1 < n1) = true := decide_eq_true hlt
            obtain ⟨C, hC⟩ : ∃ C : World → Prop, C = fun w' => Blk w' (w.heap.size + 1) ({ r with ra := a1, rn := k1, rc := c1, roles := ls } : BodyR).v 72 := ⟨_, rfl⟩
            have hC0 : ∀ w', C w' ↔ Blk w' (w.heap.size + 1) ({ r with ra := a1, rn := k1, rc := c1, roles := ls } : BodyR).v 72 := fun w' => by rw [hC]
            clear hC
            have HCC := hid hC0
            clear hC0
            have hCx : ∀ w w', C w → Ext w w' → C w' := fun w w' h1 h2 => (HCC.out w').2 (((HCC.out w).1 h1).ext h2)
            have hCA : C wr := (HCC.out _).2 hL.body
            have hc17 : ({ r with ra := a1, rn := k1, rc := c1, roles := ls } : BodyR).v[17]? = some (.slice a1 k1 c1) := by
              unfold BodyR.v; exact at_split (n := 16) (i := 0) (by rw [List.length_map]; exact HF.out.hm)
            have C17 := hid hc17
            clear hc17
            go_upto_region 18 with (fail)
            refine wp_region_w (S := C) (W := [10]) (by kernel_rfl) (hCx _ _ hCA (Ext.refl _).drew) (fun hS0 => ?_)
            refine w_pure 0 (v := ?tv1) rfl (by kernel_rfl) (by kernel_rfl) (by kernel_rfl) (fun _ _ _ h => h) (.inl ⟨rfl, ?ty1⟩) ?tr1
            case ty1 => (intro _ _; go_simp; try with_reducible rfl)
            case tr1 =>
            simp only [Act.put, List.setIfInBounds_toArray, List.set_cons_succ, List.set_cons_zero]
            refine w_take 1 (v := ?tv2) rfl (by kernel_rfl) (by kernel_rfl) (by kernel_rfl) (by kernel_rfl) (by kernel_rfl) (fun _ _ _ h => h) (.inl ⟨rfl, ?ty2⟩) hS0 ?tr2
            case ty2 => (intro wq hwq; have hcq := (fun w1 h => ((HCC.out w1).1 h).cell' C17.out) wq hwq; go_simp; try with_reducible rfl)
            case tr2 =>
            simp only [Act.put, List.setIfInBounds_toArray, List.set_cons_succ, List.set_cons_zero]
            refine w_pure 2 (v := ?tv3) rfl (by kernel_rfl) (by kernel_rfl) (by kernel_rfl) (fun _ _ _ h => h) (.inl ⟨rfl, ?ty3⟩) ?tr3
            case ty3 => (intro _ _; go_simp; try with_reducible rfl)
            case tr3 =>
            simp only [Act.put, List.setIfInBounds_toArray, List.set_cons_succ, List.set_cons_zero]
            refine w_pure 3 (v := ?tv4) rfl (by kernel_rfl) (by kernel_rfl) (by kernel_rfl) (fun _ _ _ h => h) (.inl ⟨rfl, ?ty4⟩) ?tr4
            case ty4 => (intro _ _; go_simp; try with_reducible rfl)
            case tr4 =>
            simp only [Act.put, List.setIfInBounds_toArray, List.set_cons_succ, List.set_cons_zero]
            refine w_one (i := 4) (by kernel_rfl) rfl (by kernel_rfl) hS0 ?_
            intro Q' hQ
            go_wp2_with fail
            refine (rone_c lk1 sk1 w.heap.size g wr.drew (hL.rd.ext (Ext.refl wr).drew)).mono ?_
            rintro e wt ⟨m3, rfl, hm3, l3, s3, hr3, ht3, hl3, hg3⟩
            have hg3' : wr.grownBy wt (some g) := grown_trans (grown_ext (gby_self wr _) (Ext.refl wr).drew) hg3
            have hBt : Blk wt (w.heap.size + 1) ({ r with ra := a1, rn := k1, rc := c1, roles := ls } : BodyR).v 72 := hL.body.grown hg3' (by simp; omega)
            have hS9 := (HCC.out wt).2 hBt
            have HT3 := hid ht3
            go_wp2_with fail
            refine hQ _ _ hS9 ?_
            clear hQ Q' hS0 hBt hg3 ht3
            have hS0 := hS9
            clear hS9
            try dsimp only
            try simp only [Act.put, List.setIfInBounds_toArray, List.set_cons_succ, List.set_cons_zero]
            refine w_one (i := 5) (by kernel_rfl) rfl (by kernel_rfl) hS0 ?_
            intro Q' hQ
            go_wp2_with fail
            refine (rtake_c l3 s3 w.heap.size g m3 wt (by omega) hr3).mono ?_
            rintro e wv ⟨a4, c4, x, l4, s4, rfl, hc4, hx, hcl4, hr4, ht4, hl4, hg4⟩
            have hg5 : wr.grownBy wv (some g) := grown_trans hg3' hg4
            have hBv : Blk wv (w.heap.size + 1) ({ r with ra := a1, rn := k1, rc := c1, roles := ls } : BodyR).v 72 := hL.body.grown hg5 (by simp; omega)
            have hS9 := (HCC.out wv).2 hBv
            have HX := hid hx
            have HC4 := hid hcl4
            have HT4 := hid ht4
            have hxs : (strOf x).size < 256 := by show x.toArray.size < 256; rw [List.size_toArray, hx]; exact hm3
            have OT := hid (own_turn hL.own fun i hi hw => hg5.block i hw (by simp; omega))
            have hsT := hg5.size
            go_wp2_with fail
            refine hQ _ _ hS9 ?_
            clear hQ Q' hS0 hr3 hg3' hg4 hx hcl4 ht4
            have hS0 := hS9
            clear hS9
            try dsimp only
            try simp only [Act.put, List.setIfInBounds_toArray, List.set_cons_succ, List.set_cons_zero]
            refine w_one (i := 6) (by kernel_rfl) rfl (by kernel_rfl) hS0 ?_
            intro Q' hQ
            go_wp2_with (refine wpl_run rfl (exec_toStr rfl rfl HX.out HC4.out.cells) ?_)
            refine hQ _ _ hS0 ?_
            clear hQ Q'
            obtain ⟨xs, hxs2⟩ : ∃ xs, strOf x = xs := ⟨_, rfl⟩
            have HXS := hid hxs2
            rw [hxs2] at hxs ⊢
            clear hxs2
            try dsimp only
            try simp only [Act.put, List.setIfInBounds_toArray, List.set_cons_succ, List.set_cons_zero]
            refine w_one (i := 7) (by kernel_rfl) rfl (by kernel_rfl) hS0 ?_
            intro Q' hQ
            go_wp2_with fail
            refine hQ _ _ (hCx _ _ hS0 ((Ext.refl wv).alloc _)) ?_
            clear hQ Q'
            generalize hwB : World.alloc wv _ = wB
            have nB : Blk wB wv.heap.size [.string xs] 9 := by rw [← hwB]; exact Blk.mk_alloc rfl rfl
            have eB : Ext wv wB := by rw [← hwB]; exact (Ext.refl wv).alloc _
            have hS9 := hCx _ _ hS0 eB
            clear hS0
            have hS0 := hS9
            have NB := hid nB
            have OB := hid (ownsRow_ext OT.out eB)
            have RB := hid (hr4.ext eB)
            have HBB := hid (hBv.ext eB)
            have HBR := hid ((hL.res.grown hg5 (by simp; omega)).ext eB)
            have HBX := hid ((hL.ext.grownAt hg5 (by omega)).ext eB)
            have hgil := (Array.getElem?_eq_some_iff.1 hL.it).1
            have HBI : Hid (wB.heap[gi]? = some (.stringIter us ((SQ.take k).length + 1))) := hid (by rw [eB.block gi (by omega), hg5.block gi hgil (by simpa using hne)]; exact hL.it)
            have hB3 : gi + 1 ≤ wB.heap.size := by have := eB.size; omega
            have HLK := hid hL.took
            have HLN := hid hL.len
            have HLS := hid hL.siz
            clear hS9 hwB nB eB OT hBv hr4 hg5 hL hgil
            try dsimp only
            try simp only [Act.put, List.setIfInBounds_toArray, List.set_cons_succ, List.set_cons_zero]
            refine w_one (i := 8) (by kernel_rfl) rfl (by kernel_rfl) hS0 ?_
            intro Q' hQ
            go_wp2_with (at_builtin; refine wpl_append_str rfl _ _ rfl (gi + 1) rfl rfl OB.out NB.out (by omega) hB3 ?_)
            intro v6 w6 own6 g6
            obtain ⟨a6, c6, rfl⟩ := own_sl own6
            have hrow : ∀ q, (Value.slice a1 k1 c1).ownBlock = some q → gi + 1 ≤ q := own_block_ge OB.out
            have hB6 : Blk w6 (w.heap.size + 1) ({ r with ra := a1, rn := k1, rc := c1, roles := ls } : BodyR).v 72 := HBB.out.grown g6 (fun e => by have := hrow _ e.symm; omega)
            have hS9 := (HCC.out w6).2 hB6
            have HR6 := hid (HBR.out.grown g6 (fun e => by have := hrow _ e.symm; omega))
            have HD6 := hid (RB.out.grown0 g6 (fun q hq => by have := hrow _ hq; exact ⟨by omega, by omega⟩))
            have HE6 := hid (HBX.out.grown g6 (fun q hq => by have := hrow _ hq; omega))
            have HI6 : Hid (w6.heap[gi]? = some (.stringIter us ((SQ.take k).length + 1))) := hid (by rw [g6.block gi (by omega) (fun e => by have := hrow _ e.symm; omega)]; exact HBI.out)
            have HO6 := hid own6
            have HB6 := hid hB6
            clear own6 g6 hrow HBB HBR RB HBX HBI OB NB hB6
            go_wp2_with fail
            refine hQ _ _ hS9 ?_
            clear hQ Q' hS0
            have hS0 := hS9
            clear hS9
            try dsimp only
            try simp only [Act.put, List.setIfInBounds_toArray, List.set_cons_succ, List.set_cons_zero]
            refine w_pure 9 (v := ?tv5) rfl (by kernel_rfl) (by kernel_rfl) (by kernel_rfl) (fun _ _ _ h => h) (.inl ⟨rfl, ?ty5⟩) ?tr5
            case ty5 => (intro _ _; go_simp; try with_reducible rfl)
            case tr5 =>
            simp only [Act.put, List.setIfInBounds_toArray, List.set_cons_succ, List.set_cons_zero]
            refine w_late (i := 10) (by kernel_rfl) rfl (by kernel_rfl) ?_
            intro Q' hQ
            have kb := HB6.out.cell' C17.out
            have fb := HB6.out.frozen 17
            go_wp2_with fail
            generalize hwC : World.setCell w6 _ _ = wC
            have bC : Blk wC (w.heap.size + 1) ({ r with ra := a6, rn := k1 + 1, rc := c6, roles := ls ++ [xs] } : BodyR).v 72 := by
              rw [← hwC]
              have h9 := HB6.out.set 17 (.slice a6 (k1 + 1) c6)
              rw [BodyR.set17 { r with ra := a1, rn := k1, rc := c1, roles := ls } a6 (k1 + 1) c6 (ls ++ [xs]) HF.out.hm] at h9
              exact h9
            have uC : Upd w6 (w.heap.size + 1) wC := by rw [← hwC]; exact Upd.setCell _
            clear hwC kb fb
            refine hQ _ _ trivial ?_
            try dsimp only
            try simp only [Act.put, List.setIfInBounds_toArray, List.set_cons_succ, List.set_cons_zero]
            refine w_done (by kernel_rfl) ?_ _
            have hrelR : RLoopR w g gi (gi + 1) ((SQ.take k).length + 1) us r l1 s1 (k1 + 1) wC a6 c6 (ls ++ [xs]) l4 s4 :=
              ⟨bC, HR6.out.upd uC (by omega), HD6.out.upd uC (by omega) (by omega), took_many HLK.out (by rw [← HXS.out]; exact rtook_text2 HT3.out HT4.out), uC.ext HE6.out (by omega), by rw [List.length_append, HLN.out]; rfl,
              fun s hs => by
                rcases List.mem_append.1 hs with h | h
                · exact HLS.out s h
                · rw [List.mem_singleton.1 h]; omega,
              by rw [List.map_append]; exact own_turn HO6.out fun i hi _ => uC.block i (by omega), by rw [uC.block gi (by omega)]; exact HI6.out⟩
            have HRR := hid hrelR
            clear hrelR uC bC HR6 HD6 HE6 HI6 HO6 HB6
            go_wp2_with fail
            go_roundw
            case rel => exact ⟨k1 + 1, a6, c6, ls ++ [xs], l4, s4, by omega, by go_num, HRR.out⟩
            case measure => simp [intOf]; omega
          · have t1 : decide ((k1 : Int) < (n1 : Int)) = false := decide_eq_false (by omega)
            have t2 : decide (k1 < n1) = false := decide_eq_false hlt
            have hkn : k1 = n1 := by omega
            subst hkn
            have hfin := HREL.out wr { r with ra := a1, rn := k1, rc := c1, roles := ls } lk1 sk1
              ⟨hL.body, hL.res, hL.rd, took_rows (i := 2) (b := true) (fun X ys => { X with roles := ys }) hNR.eqp (fun _ _ => rfl) hM.took HT1.out hL.took, hL.ext,
                { HF.out with rl := hL.len, rnc := (CellsHi.of_own (by decide) hL.own).2.2, rm := Nat.le_of_lt hn1, rs := hL.siz }, (CellsHi.of_own (by decide) hL.own).1, (.inl (by rw [hNH.l]; rfl)), fun h => absurd (by simp) h, fun h => by
                  have h9 := hM.nh (fun hm => h (by simp [hm]))
                  exact ⟨h9.a, h9.n, h9.c, h9.l⟩, by rw [hL.it, List.length_append]; rfl⟩
            clear hL hlt hk1
            go_wp2_with fail
            go_roundg g'
            case measure => omega
            case rel => exact hfin
      · skip
        go_wp2_with fail
        refine (rone_c lk sk w.heap.size g wX hM.rd).mono ?_
        rintro e w2 ⟨x, rfl, hx, l2, s2, hr2, ht2, hl2, hg2⟩
        have HT2 := hid ht2
        clear ht2
        go_wp2_with fail
        refine (rtake_c l2 s2 w.heap.size g x w2 (by omega) hr2).mono ?_
        rintro e w4 ⟨a4, c4, y, l4, s4, rfl, hc4, hy, hcl4, hr4, ht4, hl4, hg4⟩
        have HY := hid hy
        have HC4 := hid hcl4
        have HT4 := hid ht4
        have hg5 := grown_trans hg2 hg4
        have hy2 : y.length ≤ 140737488355328 := by rw [hy]; omega
        have HY2 := hid hy2
        clear hy hcl4 ht4 hg2 hg4 hr2 hy2
        have HBB := hid (hM.body2 hgw hg5)
        have kb := HBB.out.cell' (BodyR.at18f hM.fit)
        have fb := HBB.out.frozen 18
        go_wp2_with (refine wpl_run rfl (exec_toStr rfl rfl HY.out HC4.out.cells) ?_)
        generalize hwB : World.setCell w4 _ _ = w3
        have b3 : Blk w3 (w.heap.size + 1) { r with label := strOf y }.v 72 := by rw [← hwB, ← BodyR.set18 r _ hM.fit.hm]; exact HBB.out.set 18 (.string (strOf y))
        have u3 : Upd w4 (w.heap.size + 1) w3 := by rw [← hwB]; exact Upd.setCell _
        clear hwB kb fb
        have hfit : BodyR.Fit { r with label := strOf y } := { hM.fit with ls := by show y.toArray.size ≤ _; rw [List.size_toArray]; exact HY2.out }
        have hfin := HREL.out _ _ _ _ (hM.store (i := 3) hgw hg1 hne hB1 hgB hg5 hr4 u3 b3 (took_field (i := 3) hM.took (((rtook_text2 HT2.out HT4.out).map fun x => ({ r.p with label := x } : BodyP)).congr rfl)) hfit rfl rfl rfl rfl rfl rfl rfl rfl)
        go_roundg g'
        case measure => omega
        case rel => exact hfin
      · skip
        go_wp2_with fail
        refine (rtake_c lk sk w.heap.size g 32 wX (by omega) hM.rd).mono ?_
        rintro e w2 ⟨a2, c2, x, l2, s2, rfl, hc2, hx, hcl2, hr2, ht2, hl2, hg2⟩
        have HX := hid hx
        have HC2 := hid hcl2
        have HT2 := hid ht2
        clear hx hcl2 ht2
        obtain ⟨b, off, rfl, h2⟩ := HC2.out.cells.some_of (by rw [List.length_map, HX.out]; omega)
        have HCA := hid (CellsAt.of HC2.out.cells)
        have HXL := hid (show (x.map u8v).length = 32 by rw [List.length_map]; exact HX.out)
        have HBB := hid (hM.body2 hgw hg2)
        have HLEN := hid (show r.v.length = 58 by unfold BodyR.v BodyR.t; simp [hM.fit.hm, hM.fit.hcm])
        clear h2
        go_wp2_with (first | (refine wpl_run rfl (exec_arrayAt rfl rfl Try.underlying32 (Nat.le_refl _) _) ?_) | (refine wpl_run rfl (exec_load_at rfl rfl HCA.out agg_apisum HXL.out) ?_) | (refine wpl_store rfl _ _ _ rfl rfl rfl HBB.out (by rw [HXL.out]; exact agg_apisum) (by rw [HXL.out, HLEN.out]; decide) (one_u8 x) ?_))
        intro w3 b3 u3
        rw [BodyR.put19 _ _ hM.fit.hm hM.fit.hcm HX.out] at b3
        have hfit : BodyR.Fit { r with commit := x } := { hM.fit with hcm := HX.out }
        have hfin := HREL.out _ _ _ _ (hM.store (i := 4) hgw hg1 hne hB1 hgB hg2 hr2 u3 b3 (took_field (i := 4) hM.took ((HT2.out.map fun x => ({ r.p with commit := x } : BodyP)).congr rfl)) hfit rfl rfl rfl rfl rfl rfl rfl rfl)
        go_wp2_with fail
        go_roundg g'
        case measure => omega
        case rel => exact hfin
      · skip
        go_wp2_with fail
        refine (rtake_c lk sk w.heap.size g 4 wX (by omega) hM.rd).mono ?_
        rintro e w2 ⟨a2, c2, x, l2, s2, rfl, hc2, hx, hcl2, hr2, ht2, hl2, hg2⟩
        have HX := hid hx
        have HC2 := hid hcl2
        have HT2 := hid ht2
        clear hx hcl2 ht2
        have hnm := rnumber_c x a2 4 c2 w2 HX.out (by omega) HC2.out.cells
        obtain ⟨N, hN⟩ : ∃ N, w64 (natOf x) = N := ⟨_, rfl⟩
        rw [hN] at hnm
        have HN := hid hN
        have HNM := hid hnm
        clear hN hnm
        go_wp2_with fail
        refine HNM.out.mono ?_
        rintro e w2 ⟨rfl, rfl⟩
        have HBB := hid (hM.body2 hgw hg2)
        have kb := HBB.out.cell' (BodyR.at51f hM.fit.hm hM.fit.hcm)
        have fb := HBB.out.frozen 51
        go_wp2_with fail
        generalize hwB : World.setCell w2 _ _ = w3
        have b3 : Blk w3 (w.heap.size + 1) { r with epoch := N }.v 72 := by rw [← hwB, ← BodyR.set51 r _ hM.fit.hm hM.fit.hcm]; exact HBB.out.set 51 (.int .i64 N)
        have u3 : Upd w2 (w.heap.size + 1) w3 := by rw [← hwB]; exact Upd.setCell _
        clear hwB kb fb
        have hfit : BodyR.Fit { r with epoch := N } := { hM.fit with  }
        have hfin := HREL.out _ _ _ _ (hM.store (i := 5) hgw hg1 hne hB1 hgB hg2 hr2 u3 b3 (took_field (i := 5) hM.took (by rw [← HN.out, w64_small (by rw [num4 HX.out]; have := (word4 x 0).toNat_lt; omega)]; exact repoch_took HT2.out)) hfit rfl rfl rfl rfl rfl rfl rfl rfl)
        go_roundg g'
        case measure => omega
        case rel => exact hfin
      · skip
        go_wp2_with fail
        refine (rone_c lk sk w.heap.size g wX hM.rd).mono ?_
        rintro e w2 ⟨x, rfl, hx, l2, s2, hr2, ht2, hl2, hg2⟩
        have HT2 := hid ht2
        clear ht2
        have HBB := hid (hM.body2 hgw hg2)
        have kb := HBB.out.cell' (BodyR.at52f hM.fit.hm hM.fit.hcm)
        have fb := HBB.out.frozen 52
        go_wp2_with fail
        generalize hwB : World.setCell w2 _ _ = w3
        have b3 : Blk w3 (w.heap.size + 1) { r with purpose := (x : Int) }.v 72 := by rw [← hwB, ← BodyR.set52 r _ hM.fit.hm hM.fit.hcm]; exact HBB.out.set 52 (.int .i64 (x : Int))
        have u3 : Upd w2 (w.heap.size + 1) w3 := by rw [← hwB]; exact Upd.setCell _
        clear hwB kb fb
        have hfit : BodyR.Fit { r with purpose := (x : Int) } := { hM.fit with  }
        have hfin := HREL.out _ _ _ _ (hM.store (i := 6) hgw hg1 hne hB1 hgB hg2 hr2 u3 b3 (took_field (i := 6) hM.took ((HT2.out.map fun (x : Nat) => ({ r.p with purpose := (x : Int) } : BodyP)).congr rfl)) hfit rfl rfl rfl rfl rfl rfl rfl rfl)
        go_roundg g'
        case measure => omega
        case rel => exact hfin
      · skip
        go_wp2_with fail
        refine (rone_c lk sk w.heap.size g wX hM.rd).mono ?_
        rintro e w2 ⟨x, rfl, hx, l2, s2, hr2, ht2, hl2, hg2⟩
        have HT2 := hid ht2
        clear ht2
        have HBB := hid (hM.body2 hgw hg2)
        have kb := HBB.out.cell' (BodyR.at53f hM.fit.hm hM.fit.hcm)
        have fb := HBB.out.frozen 53
        go_wp2_with fail
        generalize hwB : World.setCell w2 _ _ = w3
        have b3 : Blk w3 (w.heap.size + 1) { r with reason := (x : Int) }.v 72 := by rw [← hwB, ← BodyR.set53 r _ hM.fit.hm hM.fit.hcm]; exact HBB.out.set 53 (.int .i64 (x : Int))
        have u3 : Upd w2 (w.heap.size + 1) w3 := by rw [← hwB]; exact Upd.setCell _
        clear hwB kb fb
        have hfit : BodyR.Fit { r with reason := (x : Int) } := { hM.fit with  }
        have hfin := HREL.out _ _ _ _ (hM.store (i := 7) hgw hg1 hne hB1 hgB hg2 hr2 u3 b3 (took_field (i := 7) hM.took ((HT2.out.map fun (x : Nat) => ({ r.p with reason := (x : Int) } : BodyP)).congr rfl)) hfit rfl rfl rfl rfl rfl rfl rfl rfl)
        go_roundg g'
        case measure => omega
        case rel => exact hfin
      · skip
        go_wp2_with fail
        refine (rone_c lk sk w.heap.size g wX hM.rd).mono ?_
        rintro e w2 ⟨x, rfl, hx, l2, s2, hr2, ht2, hl2, hg2⟩
        have HT2 := hid ht2
        clear ht2
        have HBB := hid (hM.body2 hgw hg2)
        have kb := HBB.out.cell' (BodyR.at54f hM.fit.hm hM.fit.hcm)
        have fb := HBB.out.frozen 54
        go_wp2_with fail
        generalize hwB : World.setCell w2 _ _ = w3
        have b3 : Blk w3 (w.heap.size + 1) { r with need := (x : Int) }.v 72 := by rw [← hwB, ← BodyR.set54 r _ hM.fit.hm hM.fit.hcm]; exact HBB.out.set 54 (.int .i64 (x : Int))
        have u3 : Upd w2 (w.heap.size + 1) w3 := by rw [← hwB]; exact Upd.setCell _
        clear hwB kb fb
        have hfit : BodyR.Fit { r with need := (x : Int) } := { hM.fit with  }
        have hfin := HREL.out _ _ _ _ (hM.store (i := 8) hgw hg1 hne hB1 hgB hg2 hr2 u3 b3 (took_field (i := 8) hM.took ((HT2.out.map fun (x : Nat) => ({ r.p with need := (x : Int) } : BodyP)).congr rfl)) hfit rfl rfl rfl rfl rfl rfl rfl rfl)
        go_roundg g'
        case measure => omega
        case rel => exact hfin
      · skip
        have hNR := hM.nh HNI.out
        have hNH := hM.nr (fun h => HXC.out ⟨List.mem_of_mem_take h, HMEM.out⟩)
        go_wp2_with fail
        refine (rone_c lk sk w.heap.size g wX hM.rd).mono ?_
        rintro e w20 ⟨n1, rfl, hn1, l1, s1, hr1, ht1, hl1, hg1⟩
        have HT1 := hid ht1
        have HF := hid hM.fit
        have hb1 := hM.body2 hgw hg1
        have L0 : RLoopH w g gi (gi + 1) ((SQ.take k).length + 1) us r l1 s1 0 w20 none 0 [] l1 s1 := ⟨by rw [hNR.eq]; exact hb1, hM.res.grown hg1 (by simp; omega), hr1, ⟨fun h => ⟨h, rfl⟩, fun h => .inl h⟩, hM.ext.grownAt hg1 (by omega), rfl, (fun _ h => by cases h), ⟨rfl, .inl ⟨rfl, rfl⟩⟩, by rw [hg1.block gi (Array.getElem?_eq_some_iff.1 hM.it).1 (by simpa using hne)]; exact hM.it⟩
        clear hr1 ht1 hb1
        go_wp2_with fail
        go_loopw [112] (fun i wr => ∃ (k1 : Nat) (a : Option Addr) (c : Nat) (ls : List (List UInt8)) (lk : List UInt8) (sk : Bool), k1 ≤ n1 ∧ i = .int .i64 (k1 : Int) ∧ RLoopH w g gi (gi + 1) ((SQ.take k).length + 1) us r l1 s1 k1 wr a c ls lk sk) (fun i _ => n1 - (intOf i).toNat)
        case atStart => exact ⟨0, none, 0, [], l1, s1, by omega, rfl, L0⟩
        case round =>
          obtain ⟨k1, a1, c1, ls, lk1, sk1, hk1, rfl, hL⟩ := hrel
          clear L0
          by_cases hlt : k1 < n1
          · have t1 : decide ((k1 : Int) < (n1 : Int)) = true := decide_eq_true (by omega)
            have t2 : decide (k1 < n1) = true := decide_eq_true hlt
            obtain ⟨C, hC⟩ : ∃ C : World → Prop, C = fun w' => Blk w' (w.heap.size + 1) ({ r with ha := a1, hn := k1, hc := c1, holders := ls } : BodyR).v 72 := ⟨_, rfl⟩
            have hC0 : ∀ w', C w' ↔ Blk w' (w.heap.size + 1) ({ r with ha := a1, hn := k1, hc := c1, holders := ls } : BodyR).v 72 := fun w' => by rw [hC]
            clear hC
            have HCC := hid hC0
            clear hC0
            have hCx : ∀ w w', C w → Ext w w' → C w' := fun w w' h1 h2 => (HCC.out w').2 (((HCC.out w).1 h1).ext h2)
            have hCA : C wr := (HCC.out _).2 hL.body
            have hc57 : ({ r with ha := a1, hn := k1, hc := c1, holders := ls } : BodyR).v[57]? = some (.slice a1 k1 c1) := BodyR.at57g (b := ({ r with ha := a1, hn := k1, hc := c1, holders := ls } : BodyR)) HF.out.hm HF.out.hcm
            have C57 := hid hc57
            clear hc57
            go_upto_region 37 with (fail)
            refine wp_region_w (S := C) (W := [9]) (by kernel_rfl) (hCx _ _ hCA (Ext.refl _).drew) (fun hS0 => ?_)
            refine w_pure 0 (v := ?tv6) rfl (by kernel_rfl) (by kernel_rfl) (by kernel_rfl) (fun _ _ _ h => h) (.inl ⟨rfl, ?ty6⟩) ?tr6
            case ty6 => (intro _ _; go_simp; try with_reducible rfl)
            case tr6 =>
            simp only [Act.put, List.setIfInBounds_toArray, List.set_cons_succ, List.set_cons_zero]
            refine w_take 1 (v := ?tv7) rfl (by kernel_rfl) (by kernel_rfl) (by kernel_rfl) (by kernel_rfl) (by kernel_rfl) (fun _ _ _ h => h) (.inl ⟨rfl, ?ty7⟩) hS0 ?tr7
            case ty7 => (intro wq hwq; have hcq := (fun w1 h => ((HCC.out w1).1 h).cell' C57.out) wq hwq; go_simp; try with_reducible rfl)
            case tr7 =>
            simp only [Act.put, List.setIfInBounds_toArray, List.set_cons_succ, List.set_cons_zero]
            refine w_pure 2 (v := ?tv8) rfl (by kernel_rfl) (by kernel_rfl) (by kernel_rfl) (fun _ _ _ h => h) (.inl ⟨rfl, ?ty8⟩) ?tr8
            case ty8 => (intro _ _; go_simp; try with_reducible rfl)
            case tr8 =>
            simp only [Act.put, List.setIfInBounds_toArray, List.set_cons_succ, List.set_cons_zero]
            refine w_one (i := 3) (by kernel_rfl) rfl (by kernel_rfl) hS0 ?_
            intro Q' hQ
            go_wp2_with fail
            refine (rtake_c lk1 sk1 w.heap.size g 16 wr.drew (by omega) (hL.rd.ext (Ext.refl wr).drew)).mono ?_
            rintro e wv ⟨a4, c4, x, l4, s4, rfl, hc4, hx, hcl4, hr4, ht4, hl4, hg4⟩
            have hg5 : wr.grownBy wv (some g) := grown_trans (grown_ext (gby_self wr _) (Ext.refl wr).drew) hg4
            have hBv : Blk wv (w.heap.size + 1) ({ r with ha := a1, hn := k1, hc := c1, holders := ls } : BodyR).v 72 := hL.body.grown hg5 (by simp; omega)
            have hS9 := (HCC.out wv).2 hBv
            obtain ⟨b9, off9, rfl, h29⟩ := hcl4.cells.some_of (by rw [List.length_map, hx]; omega)
            have HCA := hid (CellsAt.of hcl4.cells)
            have HX := hid hx
            have HXL := hid (show (x.map u8v).length = 16 by rw [List.length_map]; exact hx)
            have HT4 := hid ht4
            have OT := hid (own_turn hL.own fun i hi hw => hg5.block i hw (by simp; omega))
            have hsT := hg5.size
            go_wp2_with fail
            refine hQ _ _ hS9 ?_
            clear hQ Q' hS0 hg4 hx hcl4 ht4 h29
            have hS0 := hS9
            clear hS9
            try dsimp only
            try simp only [Act.put, List.setIfInBounds_toArray, List.set_cons_succ, List.set_cons_zero]
            refine w_one (i := 4) (by kernel_rfl) rfl (by kernel_rfl) hS0 ?_
            intro Q' hQ
            go_wp2_with (refine wpl_run rfl (exec_arrayAt rfl rfl Try.underlying68 (Nat.le_refl _) _) ?_)
            refine hQ _ _ hS0 ?_
            clear hQ Q'
            try dsimp only
            try simp only [Act.put, List.setIfInBounds_toArray, List.set_cons_succ, List.set_cons_zero]
            refine w_one (i := 5) (by kernel_rfl) rfl (by kernel_rfl) hS0 ?_
            intro Q' hQ
            go_wp2_with (refine wpl_run rfl (exec_load_at rfl rfl HCA.out agg_id HXL.out) ?_)
            refine hQ _ _ hS0 ?_
            clear hQ Q'
            try dsimp only
            try simp only [Act.put, List.setIfInBounds_toArray, List.set_cons_succ, List.set_cons_zero]
            refine w_one (i := 6) (by kernel_rfl) rfl (by kernel_rfl) hS0 ?_
            intro Q' hQ
            go_wp2_with (refine wpl_buildId rfl rfl rfl HX.out ?_)
            refine hQ _ _ (hCx _ _ hS0 ((Ext.refl wv).alloc _)) ?_
            clear hQ Q'
            generalize hwB : World.alloc wv _ = wB
            have nB : Blk wB wv.heap.size (x.map u8v) 68 := by rw [← hwB]; exact Blk.mk_alloc rfl rfl
            have eB : Ext wv wB := by rw [← hwB]; exact (Ext.refl wv).alloc _
            have hS9 := hCx _ _ hS0 eB
            clear hS0
            have hS0 := hS9
            have NB := hid nB
            have OB := hid (ownsRow_ext OT.out eB)
            have RB := hid (hr4.ext eB)
            have HBB := hid (hBv.ext eB)
            have HBR := hid ((hL.res.grown hg5 (by simp; omega)).ext eB)
            have HBX := hid ((hL.ext.grownAt hg5 (by omega)).ext eB)
            have hgil := (Array.getElem?_eq_some_iff.1 hL.it).1
            have HBI : Hid (wB.heap[gi]? = some (.stringIter us ((SQ.take k).length + 1))) := hid (by rw [eB.block gi (by omega), hg5.block gi hgil (by simpa using hne)]; exact hL.it)
            have hB3 : gi + 1 ≤ wB.heap.size := by have := eB.size; omega
            have HLK := hid hL.took
            have HLN := hid hL.len
            have HLS := hid hL.h16
            clear hS9 hwB nB eB OT hBv hr4 hg5 hL hgil
            try dsimp only
            try simp only [Act.put, List.setIfInBounds_toArray, List.set_cons_succ, List.set_cons_zero]
            refine w_one (i := 7) (by kernel_rfl) rfl (by kernel_rfl) hS0 ?_
            intro Q' hQ
            go_wp2_with (at_builtin; refine wpl_append_id rfl _ _ rfl (gi + 1) rfl rfl OB.out HX.out NB.out (by omega) hB3 ?_)
            intro v6 w6 own6 g6
            obtain ⟨a6, c6, rfl⟩ := own_sl own6
            have hrow : ∀ q, (Value.slice a1 k1 c1).ownBlock = some q → gi + 1 ≤ q := own_block_ge OB.out
            have hB6 : Blk w6 (w.heap.size + 1) ({ r with ha := a1, hn := k1, hc := c1, holders := ls } : BodyR).v 72 := HBB.out.grown g6 (fun e => by have := hrow _ e.symm; omega)
            have hS9 := (HCC.out w6).2 hB6
            have HR6 := hid (HBR.out.grown g6 (fun e => by have := hrow _ e.symm; omega))
            have HD6 := hid (RB.out.grown0 g6 (fun q hq => by have := hrow _ hq; exact ⟨by omega, by omega⟩))
            have HE6 := hid (HBX.out.grown g6 (fun q hq => by have := hrow _ hq; omega))
            have HI6 : Hid (w6.heap[gi]? = some (.stringIter us ((SQ.take k).length + 1))) := hid (by rw [g6.block gi (by omega) (fun e => by have := hrow _ e.symm; omega)]; exact HBI.out)
            have HO6 := hid own6
            have HB6 := hid hB6
            clear own6 g6 hrow HBB HBR RB HBX HBI OB NB hB6
            go_wp2_with fail
            refine hQ _ _ hS9 ?_
            clear hQ Q' hS0
            have hS0 := hS9
            clear hS9
            try dsimp only
            try simp only [Act.put, List.setIfInBounds_toArray, List.set_cons_succ, List.set_cons_zero]
            refine w_pure 8 (v := ?tv9) rfl (by kernel_rfl) (by kernel_rfl) (by kernel_rfl) (fun _ _ _ h => h) (.inl ⟨rfl, ?ty9⟩) ?tr9
            case ty9 => (intro _ _; go_simp; try with_reducible rfl)
            case tr9 =>
            simp only [Act.put, List.setIfInBounds_toArray, List.set_cons_succ, List.set_cons_zero]
            refine w_late (i := 9) (by kernel_rfl) rfl (by kernel_rfl) ?_
            intro Q' hQ
            have kb := HB6.out.cell' C57.out
            have fb := HB6.out.frozen 57
            go_wp2_with fail
            generalize hwC : World.setCell w6 _ _ = wC
            have bC : Blk wC (w.heap.size + 1) ({ r with ha := a6, hn := k1 + 1, hc := c6, holders := ls ++ [x] } : BodyR).v 72 := by
              rw [← hwC]
              have h9 := HB6.out.set 57 (.slice a6 (k1 + 1) c6)
              rw [BodyR.set57 { r with ha := a1, hn := k1, hc := c1, holders := ls } a6 (k1 + 1) c6 (ls ++ [x]) HF.out.hm HF.out.hcm] at h9
              exact h9
            have uC : Upd w6 (w.heap.size + 1) wC := by rw [← hwC]; exact Upd.setCell _
            clear hwC kb fb
            refine hQ _ _ trivial ?_
            try dsimp only
            try simp only [Act.put, List.setIfInBounds_toArray, List.set_cons_succ, List.set_cons_zero]
            refine w_done (by kernel_rfl) ?_ _
            have hrelR : RLoopH w g gi (gi + 1) ((SQ.take k).length + 1) us r l1 s1 (k1 + 1) wC a6 c6 (ls ++ [x]) l4 s4 :=
              ⟨bC, HR6.out.upd uC (by omega), HD6.out.upd uC (by omega) (by omega), took_many HLK.out HT4.out, uC.ext HE6.out (by omega), by rw [List.length_append, HLN.out]; rfl,
              fun s hs => by
                rcases List.mem_append.1 hs with h | h
                · exact HLS.out s h
                · rw [List.mem_singleton.1 h]; exact HX.out,
              own_turn HO6.out fun i hi _ => uC.block i (by omega), by rw [uC.block gi (by omega)]; exact HI6.out⟩
            have HRR := hid hrelR
            clear hrelR uC bC HR6 HD6 HE6 HI6 HO6 HB6
            go_wp2_with fail
            go_roundw
            case rel => exact ⟨k1 + 1, a6, c6, ls ++ [x], l4, s4, by omega, by go_num, HRR.out⟩
            case measure => simp [intOf]; omega
          · have t1 : decide ((k1 : Int) < (n1 : Int)) = false := decide_eq_false (by omega)
            have t2 : decide (k1 < n1) = false := decide_eq_false hlt
            have hkn : k1 = n1 := by omega
            subst hkn
            have hfin := HREL.out wr { r with ha := a1, hn := k1, hc := c1, holders := ls } lk1 sk1
              ⟨hL.body, hL.res, hL.rd, took_rows (i := 9) (b := true) (fun X ys => { X with holders := ys }) hNR.eqp (fun _ _ => rfl) hM.took HT1.out hL.took, hL.ext,
                { HF.out with hl := hL.len, hnc := (CellsHi.of_own (by decide) hL.own).2.2, hcmax := Nat.le_of_lt hn1, h16 := hL.h16 }, (.inl (by rw [hNH.l]; rfl)), (CellsHi.of_own (by decide) hL.own).1, fun h => by
                  have h9 := hM.nr (fun hm => h (by simp [hm]))
                  exact ⟨h9.a, h9.n, h9.c, h9.l⟩, fun h => absurd (by simp) h, by rw [hL.it, List.length_append]; rfl⟩
            clear hL hlt hk1
            go_wp2_with fail
            go_roundg g'
            case measure => omega
            case rel => exact hfin
      · skip
        go_wp2_with fail
        refine (rone_c lk sk w.heap.size g wX hM.rd).mono ?_
        rintro e w2 ⟨x, rfl, hx, l2, s2, hr2, ht2, hl2, hg2⟩
        have HT2 := hid ht2
        clear ht2
        have HBB := hid (hM.body2 hgw hg2)
        have kb := HBB.out.cell' (BodyR.at55f hM.fit.hm hM.fit.hcm)
        have fb := HBB.out.frozen 55
        go_wp2_with fail
        generalize hwB : World.setCell w2 _ _ = w3
        have b3 : Blk w3 (w.heap.size + 1) { r with version := (x : Int) }.v 72 := by rw [← hwB, ← BodyR.set55 r _ hM.fit.hm hM.fit.hcm]; exact HBB.out.set 55 (.int .i64 (x : Int))
        have u3 : Upd w2 (w.heap.size + 1) w3 := by rw [← hwB]; exact Upd.setCell _
        clear hwB kb fb
        have hfit : BodyR.Fit { r with version := (x : Int) } := { hM.fit with  }
        have hfin := HREL.out _ _ _ _ (hM.store (i := 10) hgw hg1 hne hB1 hgB hg2 hr2 u3 b3 (took_field (i := 10) hM.took ((HT2.out.map fun (x : Nat) => ({ r.p with version := (x : Int) } : BodyP)).congr rfl)) hfit rfl rfl rfl rfl rfl rfl rfl rfl)
        go_roundg g'
        case measure => omega
        case rel => exact hfin
      · skip
        go_wp2_with fail
        refine (rtake_c lk sk w.heap.size g 8 wX (by omega) hM.rd).mono ?_
        rintro e w2 ⟨a2, c2, x, l2, s2, rfl, hc2, hx, hcl2, hr2, ht2, hl2, hg2⟩
        have HX := hid hx
        have HC2 := hid hcl2
        have HT2 := hid ht2
        clear hx hcl2 ht2
        have hnm := rnumber_c x a2 8 c2 w2 HX.out (by omega) HC2.out.cells
        obtain ⟨N, hN⟩ : ∃ N, w64 (natOf x) = N := ⟨_, rfl⟩
        rw [hN] at hnm
        have HN := hid hN
        have HNM := hid hnm
        clear hN hnm
        go_wp2_with fail
        refine HNM.out.mono ?_
        rintro e w2 ⟨rfl, rfl⟩
        have HBB := hid (hM.body2 hgw hg2)
        have kb := HBB.out.cell' (BodyR.at56f hM.fit.hm hM.fit.hcm)
        have fb := HBB.out.frozen 56
        go_wp2_with fail
        generalize hwB : World.setCell w2 _ _ = w3
        have b3 : Blk w3 (w.heap.size + 1) { r with count := N }.v 72 := by rw [← hwB, ← BodyR.set56 r _ hM.fit.hm hM.fit.hcm]; exact HBB.out.set 56 (.int .i64 N)
        have u3 : Upd w2 (w.heap.size + 1) w3 := by rw [← hwB]; exact Upd.setCell _
        clear hwB kb fb
        have hfit : BodyR.Fit { r with count := N } := { hM.fit with  }
        have hfin := HREL.out _ _ _ _ (hM.store (i := 11) hgw hg1 hne hB1 hgB hg2 hr2 u3 b3 (took_field (i := 11) hM.took (by rw [← HN.out]; exact rcount_took HT2.out)) hfit rfl rfl rfl rfl rfl rfl rfl rfl)
        go_roundg g'
        case measure => omega
        case rel => exact hfin
    · have hpu : ¬ k < us.size := by rw [HUSS.out]; exact hps
      have hit := hI.it
      rw [htl] at hit
      have hnx : ∀ ty, (Instr.next (.pointer (some ⟨gi, 0, none⟩)) true ty).run Try.prog wr = _ := fun ty => Lib.run_next_end_at wr gi us k ty hit hpu
      have hfull : SQ.take k = SQ := List.take_of_length_le (by omega)
      rw [hfull] at hI
      have HI := hid hI
      obtain ⟨ar, nr, cr, hb2, hn2, -, hn2b, -, -⟩ := hI.rd
      have k0 := hb2.cell' (i := 0) (v := .slice ar nr cr) rfl
      have k1 := hb2.cell' (i := 1) (v := .bool sk) rfl
      have TK := hid hI.took
      have ZE := hid hI.res
      have EE := hid hI.ext
      have HLEN := hid (show r.v.length = 58 by unfold BodyR.v BodyR.t; simp [hI.fit.hm, hI.fit.hcm])
      clear hit hfull hI htl hb2
      cases sk with
      | true =>
        have hno : runP rcountF SQ zeroP l = none := (TK.out.2 rfl).resolve_left (by simp)
        have hpb := HPB.out
        rw [hno] at hpb
        simp only at hpb
        subst hpb
        clear HPB TK hno
        go_wp2_with (refine wpl_storew rfl _ _ _ rfl rfl rfl ZE.out agg_body zeroR_len (xs := zeroR.v) zeroR_len (v_one zeroR) ?_)
        intro w6 b6 u6
        go_wp2_with fail
        exact ret_row2 rfl rfl b6 agg_body zeroR_len rfl ⟨zeroR, rfl, zeroR_fit, .inl rfl, .inl rfl, rfl, u6.ext EE.out (Nat.le_refl _)⟩
      | false =>
      have hsome := (TK.out.1 rfl).2
      have hpb := HPB.out
      rw [hsome] at hpb
      simp only at hpb
      rw [hn2] at hpb
      clear HPB TK hsome
      by_cases q2 : 0 < nr
      · rw [if_pos q2] at hpb
        subst hpb
        have d5 : decide (0 < nr) = true := decide_eq_true q2
        have d6 : decide ((0 : Int) < (nr : Int)) = true := decide_eq_true (by omega)
        clear q2
        go_wp2_with (refine wpl_storew rfl _ _ _ rfl rfl rfl ZE.out agg_body zeroR_len (xs := zeroR.v) zeroR_len (v_one zeroR) ?_)
        intro w6 b6 u6
        go_wp2_with fail
        exact ret_row2 rfl rfl b6 agg_body zeroR_len rfl ⟨zeroR, rfl, zeroR_fit, .inl rfl, .inl rfl, rfl, u6.ext EE.out (Nat.le_refl _)⟩
      rw [if_neg q2] at hpb
      have d5 : decide (0 < nr) = false := decide_eq_false q2
      have d6 : decide ((0 : Int) < (nr : Int)) = false := decide_eq_false (by omega)
      have hbf := hbe.out r
      rw [bodyE_p HI.out.fit.rl HI.out.fit.hl] at hbf
      have HBF := hid hbf
      generalize bodyEP (K : Int) r.p = E at hpb HBF
      have HPB := hid hpb
      have BE := hid HI.out.body
      clear hbf hpb q2 hbe
      go_wp2_with (refine wpl_loadw rfl 72 (.tmp 6) rfl rfl BE.out agg_body HLEN.out ?_)
      refine (HBF.out wr (HI.out.fit.ok HI.out.rhi HI.out.hhi)).mono ?_
      rintro e w6 ⟨rfl, e6⟩
      have ZF := hid (ZE.out.ext e6)
      have EF := hid (EE.out.ext e6)
      have BF := hid (BE.out.ext e6)
      have RAF := hid (HI.out.rhi.ext e6)
      have RHF := hid (HI.out.hhi.ext e6)
      clear e6 ZE EE BE HBF k0 k1
      by_cases q3 : E = 0
      · subst q3
        have hpb := HPB.out
        rw [if_pos rfl] at hpb
        subst hpb
        clear HPB
        go_wp2_with (first | (refine wpl_loadw rfl 72 (.tmp 6) rfl rfl BF.out agg_body HLEN.out ?_) | (refine wpl_storew rfl _ _ _ rfl rfl rfl ZF.out agg_body zeroR_len (xs := r.v) HLEN.out (v_one r) ?_))
        intro w7 b7 u7
        go_wp2_with fail
        exact ret_row2 rfl rfl b7 agg_body HLEN.out rfl ⟨r, rfl, HI.out.fit, (RAF.out.upd u7 (by omega)).lower (by omega), (RHF.out.upd u7 (by omega)).lower (by omega), rfl, u7.ext EF.out (Nat.le_refl _)⟩
      · have hpb := HPB.out
        rw [if_neg q3] at hpb
        subst hpb
        have d7 : (E != 0) = true := by simpa using q3
        clear HPB
        go_wp2_with (refine wpl_storew rfl _ _ _ rfl rfl rfl ZF.out agg_body zeroR_len (xs := zeroR.v) zeroR_len (v_one zeroR) ?_)
        intro w7 b7 u7
        go_wp2_with fail
        exact ret_row2 rfl rfl b7 agg_body zeroR_len rfl ⟨zeroR, rfl, zeroR_fit, .inl rfl, .inl rfl, rfl, u7.ext EF.out (Nat.le_refl _)⟩
end
end Go.Proofs.Ytkcjdginoccgjaa
