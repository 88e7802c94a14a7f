/- Contracts and laws that the claim's row leans on (13 texts, joined): A head is built; no condition. Two heads that are one are equal; what is printed is read; no condition. AsksAreDecided answers true; conditions: the memory of the arguments. slices.Grow (of nil) and Concat at rules; conditions: the lengths. slices.Reverse at rules; conditions: the block is known whole. The order of the rules means little to a decision, in plain Lean; no condition. OrderMeansLittle answers true; conditions: the memory of the arguments. Readings of arguments are opened; no condition. Readings of slices of octets are opened; no condition. Readings of slices of rows of 32 octets, and of a struct of two ints and such a slice, are opened; no condition. Readings of rules and asks are opened; no condition. Readings of asks, of lists of rules, and of both as arguments, are opened; no condition. Readings of policies and approvals are opened; no condition. -/
import Derived.Test.YtelhnimdfepmdaaJ4
import Derived.Great.FillDense
import Derived.ProofKit
import Derived.OpenShut
import Derived.ChangeSlices
import Derived.WideShapes
import Derived.SizedLaws
import Derived.Deep.Strs
namespace Go.Proofs.Ytelhnimdfepmdaa
section
open Go Go.RowKit

theorem set_part (p m q : List Value) (v : Array Value) (hm : m.length = v.size) :
    v.zipIdx.foldl (fun cs (x : Value × Nat) => cs.setIfInBounds (p.length + x.2) x.1) (p ++ m ++ q).toArray = (p ++ v.toList ++ q).toArray := by
  rw [← Array.foldl_toList, Array.toList_zipIdx]
  obtain ⟨h1, h2⟩ := Great.foldl_set p.length v.toList 0 (p ++ m ++ q).toArray
  apply Array.ext_getElem?
  intro k
  rw [h2 k]
  simp only [Nat.add_zero, Array.length_toList, List.size_toArray, List.length_append, List.getElem?_toArray, Nat.zero_add]
  have hv : v.toList.length = v.size := Array.length_toList
  by_cases a1 : k < p.length
  · rw [if_neg (by omega), List.append_assoc, List.append_assoc, List.getElem?_append_left a1, List.getElem?_append_left a1]
  · by_cases a2 : k < p.length + v.size
    · rw [if_pos ⟨by omega, a2, by omega⟩, List.append_assoc, List.getElem?_append_right (by omega), List.getElem?_append_left (by rw [hv]; omega)]
    · rw [if_neg (by omega), List.getElem?_append_right (by rw [List.length_append]; omega), List.getElem?_append_right (by rw [List.length_append, hv]; omega)]
      congr 1
      rw [List.length_append, List.length_append, hv, hm]
theorem fill_part {place : Nat → Option (Nat × Nat)} {i off size : Nat} {v : Value} {rest : List (Nat × Value)} (p m q : List Value) (hp : place i = some (off, size)) (ho : off = p.length) (hv : v.cells.size = size) (hm : m.length = size) :
    Instr.fill place (p ++ m ++ q).toArray ((i, v) :: rest) = Instr.fill place (p ++ v.cells.toList ++ q).toArray rest := by
  rw [Instr.fill]
  simp only [hp]
  rw [if_neg (by simp [hv, ho, hm])]
  subst ho
  rw [← set_part p m q v.cells (by rw [hm, hv])]

theorem info_head : (Try.prog.info? 70).map (fun i => (i.zero, i.size, i.bytes)) = some (some (.agg (headV 0 0 zero32 zero32).toArray), 66, 80) := by kernel_rfl
theorem fields_head : (Try.prog.underlying 70).bind (fun d => match d with | .struct fields => fields.toList.mapM (fun f => (Try.prog.info? f.type).map fun i => (f.offset, i.size)) | _ => none) = some [(0, 1), (1, 1), (2, 32), (34, 32)] := by kernel_rfl
theorem built_head (C T : Int) (x y : List UInt8) (hx : x.length = 32) (hy : y.length = 32) : Try.prog.built 70 [(0, .int .i64 C), (1, .int .i64 T), (2, .agg (x.map u8v).toArray), (3, .agg (y.map u8v).toArray)] = some (headV C T x y).toArray := by
  obtain ⟨i0, hi, hz, hsz, hb1⟩ := info_parts info_head
  have hf := fields_head
  rw [Try.underlying70] at hf
  simp only [Option.bind_some] at hf
  unfold Program.built
  rw [hi, Try.underlying70]
  simp only [hz, hf]
  have h0 : (Value.agg (headV 0 0 zero32 zero32).toArray).cells = ([] ++ [Value.int .i64 0] ++ (Value.int .i64 0 :: (zero32.map u8v ++ zero32.map u8v))).toArray := rfl
  rw [h0, fill_part [] [Value.int .i64 0] _ rfl rfl rfl rfl]
  have h1 : ([] ++ (Value.int .i64 C).cells.toList ++ (Value.int .i64 0 :: (zero32.map u8v ++ zero32.map u8v))) = [Value.int .i64 C] ++ [Value.int .i64 0] ++ (zero32.map u8v ++ zero32.map u8v) := rfl
  rw [h1, fill_part [Value.int .i64 C] [Value.int .i64 0] _ rfl rfl rfl rfl]
  have h2 : ([Value.int .i64 C] ++ (Value.int .i64 T).cells.toList ++ (zero32.map u8v ++ zero32.map u8v)) = [Value.int .i64 C, Value.int .i64 T] ++ zero32.map u8v ++ zero32.map u8v := rfl
  rw [h2, fill_part [Value.int .i64 C, Value.int .i64 T] (zero32.map u8v) _ rfl rfl (by simp [Value.cells, hx]) (by rfl)]
  have h3 : ([Value.int .i64 C, Value.int .i64 T] ++ (Value.agg (x.map u8v).toArray).cells.toList ++ zero32.map u8v) = ([Value.int .i64 C, Value.int .i64 T] ++ x.map u8v) ++ zero32.map u8v ++ [] := by simp [Value.cells]
  rw [h3, fill_part ([Value.int .i64 C, Value.int .i64 T] ++ x.map u8v) (zero32.map u8v) [] rfl (by simp [hx]) (by simp [Value.cells, hy]) (by rfl)]
  rw [Instr.fill]
  simp [Value.cells, headV]
theorem exec_head {o : Oper} {a : Act} {p0 p1 p2 p3 : Operand} {C T : Int} {x y : List UInt8} (ho : o.op = .build 70 #[(0, p0), (1, p1), (2, p2), (3, p3)]) (h0 : a.eval p0 = .int .i64 C) (h1 : a.eval p1 = .int .i64 T) (h2 : a.eval p2 = .agg (x.map u8v).toArray) (h3 : a.eval p3 = .agg (y.map u8v).toArray) (hx : x.length = 32) (hy : y.length = 32) (w : World) :
    (execOp a.eval o).run Try.prog w = .ok (.value (.agg (headV C T x y).toArray)) w := by
  have h := run_build (P := Try.prog) w 70 #[(0, .int .i64 C), (1, .int .i64 T), (2, .agg (x.map u8v).toArray), (3, .agg (y.map u8v).toArray)] _ (built_head C T x y hx hy)
  have he : (#[(0, p0), (1, p1), (2, p2), (3, p3)].map fun (r : Nat × Operand) => (r.1, a.eval r.2)) = #[(0, .int .i64 C), (1, .int .i64 T), (2, .agg (x.map u8v).toArray), (3, .agg (y.map u8v).toArray)] := by simp [h0, h1, h2, h3]
  unfold execOp
  simp only [ho, Sem.run_bind]
  have h2 : (Instr.build 70 (#[(0, p0), (1, p1), (2, p2), (3, p3)].map fun (r : Nat × Operand) => (r.1, a.eval r.2))).run Try.prog w = .ok (.agg (headV C T x y).toArray) w := by rw [he]; exact h
  rw [h2]
  rfl

section
variable {P : Program} {o : Oper} {a : Act}
theorem exec_cut {t e : TypeId} {x y z : Operand} {p : Option Addr} {n c k h : Nat} (ho : o.op = .slice t x (some y) (some z) none) (hx : a.eval x = .slice p n c) (hy : a.eval y = .int .i64 (k : Int)) (hz : a.eval z = .int .i64 (h : Int)) (hu : P.underlying t = some (.slice e)) (hs : (P.info? e).map (·.size) = some 1) (hk : k ≤ h) (hc : h ≤ c)
    {q : Option Addr} (hq : shift p c k = q) (w : World) : (execOp a.eval o).run P w = .ok (.value (.slice q (h - k) (c - k))) w := by
  subst hq
  have hr : (Instr.sliceAt t (.slice p n c) (some (.int .i64 (k : Int))) (some (.int .i64 (h : Int))) none).run P w = .ok (.slice (shift p c k) (h - k) (c - k)) w := by
    cases hq : P.info? e with
    | none => simp [hq] at hs
    | some i =>
      have hi : i.size = 1 := by simpa [hq] using hs
      have h1 : (0 : Int) ≤ k ∧ (k : Int) ≤ h ∧ (h : Int) ≤ c := by omega
      simp [Instr.sliceAt, Instr.slice, Instr.sliceBounds, Instr.sliceBound, asIntOf, run_underlying hu, sizeOf, typeInfo, hq, hi, h1.2.1, h1.2.2, hk, hc, shift]
  unfold execOp
  simp only [ho, hx, hy, hz, Option.map_some, Option.map_none, Sem.run_bind, hr, Result.andThen_ok, Sem.run_pure]
theorem exec_arrayOf {T e : TypeId} {x : Operand} {p : Option Addr} {n c m : Nat} (ho : o.op = .sliceToArrayPointer T x) (hx : a.eval x = .slice p m c) (hu : P.underlying T = some (.array n e)) (hl : n ≤ m) (w : World) : (execOp a.eval o).run P w = .ok (.value (.pointer p)) w := by
  unfold execOp
  simp only [ho, hx, Sem.run_bind, run_arrayAt hu hl, Result.andThen_ok, Sem.run_pure]
end

/-- what ParseHead says of a text -/
def parseHE (l : List UInt8) (n : Nat) : Int := if n < 84 then 1 else if l.take 4 = [75, 87, 72, 49] ∧ n = 84 then headE (long8 l 4 : Nat) (long8 l 12 : Nat) else 2
def parseHV (l : List UInt8) (n : Nat) : List Value := if parseHE l n = 0 then headV (long8 l 4 : Nat) (long8 l 12 : Nat) ((l.drop 20).take 32) ((l.drop 52).take 32) else headV 0 0 zero32 zero32

theorem zero_head : Try.zeroCells70 = (headV 0 0 zero32 zero32).toArray := by kernel_rfl
theorem zero_head_length : Try.zeroCells70.toList.length = 66 := by kernel_rfl
theorem zero_head_one : ∀ v ∈ Try.zeroCells70.toList, v.oneCell' = true := by rw [zero_head]; decide

set_option maxRecDepth 100000 in
set_option maxHeartbeats 2000000 in
theorem parseHead_c (l : List UInt8) (n c : Nat) (a : Option Addr) (w : World) (hl : l.length = n) (hnc : n ≤ c) (hn : n ≤ 140737488355328) (hcl : Cells w a (l.map u8v)) :
    Calls Try.prog 38 #[.slice a n c] w fun e w' => e = .returned (.tuple #[.agg (parseHV l n).toArray, .int .i64 (parseHE l n)]) ∧ Ext w w' := by
  have HL := hid hl
  have HC := hid hcl
  obtain ⟨E, hE⟩ : ∃ E, parseHE l n = E := ⟨_, rfl⟩
  obtain ⟨V, hV⟩ : ∃ V, parseHV l n = V := ⟨_, rfl⟩
  have HE := hid hE
  have HV := hid hV
  rw [hE, hV]
  clear hE hV hl hcl
  have HZL := hid (headV_length 0 0 (r1 := zero32) (r2 := zero32) zero32_length zero32_length)
  have hz1 : ∀ v ∈ headV 0 0 zero32 zero32, v.oneCell' = true := by decide
  by_cases h84 : n < 84
  · have hE1 : E = 1 := by rw [← HE.out]; unfold parseHE; rw [if_pos h84]
    have hV1 : V = headV 0 0 zero32 zero32 := by rw [← HV.out]; unfold parseHV; rw [if_neg (by rw [HE.out, hE1]; decide)]
    have d1 : decide ((n : Int) < 84) = true := decide_eq_true (by omega)
    have d2 : decide (n < 84) = true := decide_eq_true h84
    rw [hE1, hV1]
    clear hE1 hV1
    go_enter Try.func38, Try.ntmps38
    have hz : (Ending.returned (.tuple #[.agg (headV 0 0 zero32 zero32).toArray, .int .i64 1])) = .returned (.tuple #[.agg Try.zeroCells70, .int .i64 1]) := by rw [zero_head]
    have HZ := hid hz
    have hzl := zero_head_length
    have hzo := zero_head_one
    clear hz
    go_wp2_with (first | (refine wpl_storew rfl _ (.tmp 2) _ rfl rfl rfl (Blk.mk_alloc (vs := Try.zeroCells70.toList) rfl rfl) agg_head hzl hzl hzo ?_))
    intro w4 b4 u4
    go_wp2
    exact ret_row2 rfl rfl b4 agg_head hzl rfl ⟨by rw [HZ.out]; rfl, u4.ext ((Ext.refl w).alloc _) (Nat.le_refl _)⟩
  · have hlt4 : (l.take 4).length = 4 := by rw [List.length_take, HL.out]; omega
    have hstr := fun w' (h : Cells w' a (l.map u8v)) => run_string_of w' a (l.take 4) 4 c (by rw [List.map_take]; exact h.take _) hlt4.symm
    have hstl : (strOf (l.take 4)).toList = l.take 4 := by unfold strOf; rw [ByteArray.toList_mk]
    have d1 : decide ((n : Int) < 84) = false := decide_eq_false (by omega)
    have d2 : decide (n < 84) = false := decide_eq_false h84
    have hc4 : 4 ≤ c := by omega
    by_cases hbad : l.take 4 = [75, 87, 72, 49] ∧ n = 84
    · obtain ⟨hmg, rfl⟩ := hbad
      have hr4 : roomE 84 4 8 = 0 := by unfold roomE; rw [if_neg (by omega), if_neg (by omega)]
      have hr12 : roomE 84 12 8 = 0 := by unfold roomE; rw [if_neg (by omega), if_neg (by omega)]
      have hlo : ∀ (p : Nat), roomE 84 (p : Int) 8 = 0 → ∃ cnt one : Int, longOf l 84 (p : Int) = .tuple #[.int .i64 cnt, .int .i64 one] ∧ ((one = 0 ∧ cnt = (long8 l p : Nat)) ∨ (one = 4 ∧ 4611686018427387904 < long8 l p)) := by
        intro p hp
        unfold longOf
        rw [if_pos hp, Int.toNat_natCast]
        by_cases h : long8 l p ≤ 4611686018427387904
        · rw [if_pos h]; exact ⟨_, _, rfl, .inl ⟨rfl, rfl⟩⟩
        · rw [if_neg h]; exact ⟨_, _, rfl, .inr ⟨rfl, by omega⟩⟩
      obtain ⟨cnt, one, ho1, hc1⟩ := hlo 4 hr4
      obtain ⟨tim, two, ho2, hc2⟩ := hlo 12 hr12
      have hg1 := hid (fun w' h => long_c l a 84 c 4 w' HL.out hn hnc h)
      have hg2 := hid (fun w' h => long_c l a 84 c 12 w' HL.out hn hnc h)
      have ho1' : longOf l 84 4 = .tuple #[.int .i64 cnt, .int .i64 one] := ho1
      have ho2' : longOf l 84 12 = .tuple #[.int .i64 tim, .int .i64 two] := ho2
      rw [ho1'] at hg1
      rw [ho2'] at hg2
      obtain ⟨r1, hr1⟩ : ∃ r1, (l.drop 20).take 32 = r1 := ⟨_, rfl⟩
      obtain ⟨r2, hr2⟩ : ∃ r2, (l.drop 52).take 32 = r2 := ⟨_, rfl⟩
      have hr1l : r1.length = 32 := by rw [← hr1, List.length_take, List.length_drop, HL.out]; omega
      have hr2l : r2.length = 32 := by rw [← hr2, List.length_take, List.length_drop, HL.out]; omega
      have hpr := hid (fun w' => printHead_c cnt tim r1 r2 w' hr1l hr2l)
      unfold headPost at hpr
      have HHL := hid (headV_length cnt tim hr1l hr2l)
      have hho : ∀ v ∈ headV cnt tim r1 r2, v.oneCell' = true := by
        intro v hv
        unfold headV at hv
        simp only [List.mem_cons, List.mem_append] at hv
        rcases hv with rfl | rfl | h | h
        · rfl
        · rfl
        · exact one_u8 r1 v h
        · exact one_u8 r2 v h
      -- what comes of it
      have hfin : E = (if one = 0 ∧ two = 0 then headE cnt tim else 4) := by
        rw [← HE.out]
        unfold parseHE
        rw [if_neg h84, if_pos ⟨hmg, rfl⟩]
        rcases hc1 with ⟨rfl, rfl⟩ | ⟨rfl, h1⟩
        · rcases hc2 with ⟨rfl, rfl⟩ | ⟨rfl, h2⟩
          · rw [if_pos ⟨rfl, rfl⟩]
          · rw [if_neg (by decide)]; unfold headE; rw [if_pos (by omega)]
        · rw [if_neg (by intro h; have := h.1; omega)]; unfold headE; rw [if_pos (by omega)]
      have hfv : V = if E = 0 then headV cnt tim r1 r2 else headV 0 0 zero32 zero32 := by
        rw [← HV.out]
        unfold parseHV
        rw [HE.out]
        by_cases h0 : E = 0
        · rw [if_pos h0, if_pos h0]
          rw [hfin] at h0
          have hb : one = 0 ∧ two = 0 := by
            by_cases hb : one = 0 ∧ two = 0
            · exact hb
            · rw [if_neg hb] at h0; exact absurd h0 (by decide)
          rcases hc1 with ⟨_, rfl⟩ | ⟨rfl, _⟩
          · rcases hc2 with ⟨_, rfl⟩ | ⟨rfl, _⟩
            · rw [hr1, hr2]
            · exact absurd hb.2 (by decide)
          · exact absurd hb.1 (by decide)
        · rw [if_neg h0, if_neg h0]
      have HF := hid hfin
      have HFV := hid hfv
      have hE2 := headE_cases cnt tim
      have h12 : (one = 0 ∨ one = 4) ∧ (two = 0 ∨ two = 4) := ⟨by rcases hc1 with h | h; exact .inl h.1; exact .inr h.1, by rcases hc2 with h | h; exact .inl h.1; exact .inr h.1⟩
      obtain ⟨b, off, rfl, hcell⟩ := HC.out.some_of (by rw [List.length_map, HL.out]; omega)
      have hsh1 : shift (some ⟨b, off, none⟩) c 20 = some ⟨b, off + 20, none⟩ := by unfold shift; rw [if_neg (by omega), Option.map_some, addr_add]
      have hsh2 : shift (some ⟨b, off, none⟩) c 52 = some ⟨b, off + 52, none⟩ := by unfold shift; rw [if_neg (by omega), Option.map_some, addr_add]
      have hca1 : CellsAt w ⟨b, off + 20, none⟩ (r1.map u8v) := by
        have h := HC.out.shift c 20 32 (by omega)
        rw [← List.map_drop, ← List.map_take, hr1, hsh1] at h
        exact CellsAt.of h
      have hca2 : CellsAt w ⟨b, off + 52, none⟩ (r2.map u8v) := by
        have h := HC.out.shift c 52 32 (by omega)
        rw [← List.map_drop, ← List.map_take, hr2, hsh2] at h
        exact CellsAt.of h
      have HSH1 := hid hsh1
      have HSH2 := hid hsh2
      have HCA1 := hid hca1
      have HCA2 := hid hca2
      have HP1 := hid (show (r1.map u8v).length = 32 by rw [List.length_map, hr1l])
      have HP2 := hid (show (r2.map u8v).length = 32 by rw [List.length_map, hr2l])
      have HR1 := hid hr1l
      have HR2 := hid hr2l
      have hm2 : (strOf (l.take 4)).toList = [75, 87, 72, 49] := hstl.trans hmg
      have hzl := zero_head_length
      have hzo := zero_head_one
      clear hr4 hr12 hlo ho1 ho2 ho1' ho2' hc1 hc2 hr1 hr2 hr1l hr2l hfin hfv hmg hstl hlt4 hcell hsh1 hsh2 hca1 hca2 HZL hz1
      go_enter Try.func38, Try.ntmps38
      go_upto_region 1 with (fail)
      generalize hwA : World.alloc w _ = wA
      have zA : Blk wA w.heap.size Try.zeroCells70.toList 70 := by rw [← hwA]; exact Blk.mk_alloc rfl rfl
      have eA : Ext w wA := by rw [← hwA]; exact (Ext.refl w).alloc _
      have hs2 := hstr wA (HC.out.ext eA)
      have ZA := hid zA
      have EA := hid eA
      clear hwA zA eA hstr
      go_wp2_with fail
      refine (hg1.out wA (HC.out.ext EA.out)).mono ?_
      rintro e wB ⟨rfl, eB⟩
      have ZB := hid (ZA.out.ext eB)
      have EB := hid (EA.out.ext eB)
      clear eB ZA EA hg1 hs2
      go_wp2_with fail
      refine (hg2.out wB (HC.out.ext EB.out)).mono ?_
      rintro e wC ⟨rfl, eC⟩
      have ZC := hid (ZB.out.ext eC)
      have EC := hid (EB.out.ext eC)
      clear eC ZB EB hg2
      go_wp2_with fail
      obtain ⟨C, hC⟩ : ∃ C : World → Prop, C = Cls w wC [w.heap.size] [] := ⟨_, rfl⟩
      have hC0 : ∀ w', C w' ↔ Cls w wC [w.heap.size] [] w' := fun w' => by rw [hC]
      clear hC
      have HCC := hid hC0
      clear hC0
      have hCx : ∀ w w', C w → Ext w w' → C w' := fun w w' h1 h2 => (HCC.out w').2 (((HCC.out w).1 h1).ext h2)
      have hCA : C wC := (HCC.out _).2 (Cls.no_room EC.out (Kept.one ZC.out.lt))
      have hp1 : ∀ w1, C w1 → CellsAt w1 ⟨b, off + 20, none⟩ (r1.map u8v) := fun w1 h1 => HCA1.out.ext ((HCC.out w1).1 h1).base
      have hp2 : ∀ w1, C w1 → CellsAt w1 ⟨b, off + 52, none⟩ (r2.map u8v) := fun w1 h1 => HCA2.out.ext ((HCC.out w1).1 h1).base
      have hb52 : 52 ≤ c := by omega
      have hb84 : 84 ≤ c := by omega
      refine wp_region_w (S := C) (W := [12]) (by kernel_rfl) (hCx _ _ hCA (Ext.refl _).drew) (fun hS0 => ?_)
      refine w_pure 0 (v := ?tv1) rfl (by kernel_rfl) (by kernel_rfl) (by kernel_rfl) (fun _ _ _ h => h) (.inl ⟨rfl, ?ty1⟩) ?tr1
      case ty1 => (intro _ _; go_simp; try with_reducible rfl)
      case tr1 =>
      simp only [Act.put, List.setIfInBounds_toArray, List.set_cons_succ, List.set_cons_zero]
      refine w_pure 1 (v := ?tv2) rfl (by kernel_rfl) (by kernel_rfl) (by kernel_rfl) (fun _ _ _ h => h) (.inl ⟨rfl, ?ty2⟩) ?tr2
      case ty2 => (intro _ _; go_simp; try with_reducible rfl)
      case tr2 =>
      simp only [Act.put, List.setIfInBounds_toArray, List.set_cons_succ, List.set_cons_zero]
      refine w_pure 2 (v := ?tv3) rfl (by kernel_rfl) (by kernel_rfl) (by kernel_rfl) (fun _ _ _ h => h) (.inl ⟨rfl, ?ty3⟩) ?tr3
      case ty3 => (intro _ _; go_simp; try with_reducible rfl)
      case tr3 =>
      simp only [Act.put, List.setIfInBounds_toArray, List.set_cons_succ, List.set_cons_zero]
      refine w_pure 3 (v := _) rfl (by kernel_rfl) (by kernel_rfl) (by kernel_rfl) (fun _ _ _ h => h) (yieldsI_run rfl (fun w1 _ => exec_cut (k := 20) (h := 52) rfl rfl rfl rfl Try.underlying73 size_u8 (by omega) hb52 HSH1.out w1)) ?_
      simp only [Act.put, List.setIfInBounds_toArray, List.set_cons_succ, List.set_cons_zero]
      refine w_pure 4 (v := _) rfl (by kernel_rfl) (by kernel_rfl) (by kernel_rfl) (fun _ _ _ h => h) (yieldsI_run rfl (fun w1 _ => exec_arrayOf (n := 32) rfl rfl Try.underlying40 (by omega) w1)) ?_
      simp only [Act.put, List.setIfInBounds_toArray, List.set_cons_succ, List.set_cons_zero]
      refine w_take 5 (v := _) rfl (by kernel_rfl) (by kernel_rfl) (by kernel_rfl) (by kernel_rfl) (by kernel_rfl) (fun _ _ _ h => h) (yieldsI_run rfl (fun w1 h => exec_load_at rfl rfl (hp1 w1 h) agg_apisum HP1.out)) hS0 ?_
      simp only [Act.put, List.setIfInBounds_toArray, List.set_cons_succ, List.set_cons_zero]
      refine w_pure 6 (v := ?tv4) rfl (by kernel_rfl) (by kernel_rfl) (by kernel_rfl) (fun _ _ _ h => h) (.inl ⟨rfl, ?ty4⟩) ?tr4
      case ty4 => (intro _ _; go_simp; try with_reducible rfl)
      case tr4 =>
      simp only [Act.put, List.setIfInBounds_toArray, List.set_cons_succ, List.set_cons_zero]
      refine w_pure 7 (v := _) rfl (by kernel_rfl) (by kernel_rfl) (by kernel_rfl) (fun _ _ _ h => h) (yieldsI_run rfl (fun w1 _ => exec_cut (k := 52) (h := 84) rfl rfl rfl rfl Try.underlying73 size_u8 (by omega) hb84 HSH2.out w1)) ?_
      simp only [Act.put, List.setIfInBounds_toArray, List.set_cons_succ, List.set_cons_zero]
      refine w_pure 8 (v := _) rfl (by kernel_rfl) (by kernel_rfl) (by kernel_rfl) (fun _ _ _ h => h) (yieldsI_run rfl (fun w1 _ => exec_arrayOf (n := 32) rfl rfl Try.underlying40 (by omega) w1)) ?_
      simp only [Act.put, List.setIfInBounds_toArray, List.set_cons_succ, List.set_cons_zero]
      refine w_take 9 (v := _) rfl (by kernel_rfl) (by kernel_rfl) (by kernel_rfl) (by kernel_rfl) (by kernel_rfl) (fun _ _ _ h => h) (yieldsI_run rfl (fun w1 h => exec_load_at rfl rfl (hp2 w1 h) agg_apisum HP2.out)) hS0 ?_
      simp only [Act.put, List.setIfInBounds_toArray, List.set_cons_succ, List.set_cons_zero]
      refine w_pure 10 (v := _) rfl (by kernel_rfl) (by kernel_rfl) (by kernel_rfl) (fun _ _ _ h => h) (yieldsI_run rfl (fun w1 _ => exec_head rfl rfl rfl rfl rfl HR1.out HR2.out w1)) ?_
      simp only [Act.put, List.setIfInBounds_toArray, List.set_cons_succ, List.set_cons_zero]
      generalize wC.drew = wD at *
      refine w_one (i := 11) (by kernel_rfl) rfl (by kernel_rfl) hS0 ?_
      intro Q' hQ
      go_wp2_with fail
      have hH : C (wD.alloc (.cells Try.zeroCells70 70)) := hCx _ _ hS0 ((Ext.refl wD).alloc _)
      have BH := hid (show Blk (wD.alloc (.cells Try.zeroCells70 70)) wD.heap.size Try.zeroCells70.toList 70 from Blk.mk_alloc rfl rfl)
      have hgH : wC.heap.size ≤ wD.heap.size := ((HCC.out wD).1 hS0).kept.1
      refine hQ _ _ hH ?_
      clear hQ Q' hS0
      generalize wD.alloc (.cells Try.zeroCells70 70) = wH at *
      generalize wD.heap.size = gh at *
      try dsimp only
      try simp only [Act.put, List.setIfInBounds_toArray, List.set_cons_succ, List.set_cons_zero]
      have ZH := hid (((HCC.out wH).1 hH).blk ZC.out (by simp))
      have EH := hid ((HCC.out wH).1 hH).base
      have hgz : w.heap.size < gh := by have := ZC.out.lt; omega
      clear hH HCC hCx hCA hp1 hp2 ZC EC
      refine w_late (i := 12) (by kernel_rfl) rfl (by kernel_rfl) ?_
      intro Q' hQ
      go_wp2_with (refine wpl_storew rfl _ _ _ rfl rfl rfl BH.out agg_head hzl HHL.out hho ?_)
      intro wI bI uI
      go_wp2_with fail
      refine hQ _ _ trivial ?_
      clear hQ Q'
      have BI := hid bI
      have ZI := hid (ZH.out.upd uI (by omega))
      have EI := hid (uI.ext EH.out (by omega))
      clear bI uI BH ZH EH
      try dsimp only
      try simp only [Act.put, List.setIfInBounds_toArray, List.set_cons_succ, List.set_cons_zero]
      refine w_done (by kernel_rfl) ?_ _
      go_wp2_with (first | (refine wpl_loadw rfl 70 (.tmp 8) rfl rfl BI.out agg_head HHL.out ?_))
      refine (hpr.out wI).mono ?_
      rintro e wJ ⟨v, rfl, -, eJ⟩
      have BJ := hid (BI.out.ext eJ)
      have ZJ := hid (ZI.out.ext eJ)
      have EJ := hid (EI.out.ext eJ)
      clear eJ BI ZI EI hpr
      obtain ⟨e2, he2⟩ : ∃ e2, headE cnt tim = e2 := ⟨_, rfl⟩
      rw [he2] at hE2
      have HE2 := hid he2
      rw [he2]
      clear he2 hm2
      rcases h12 with ⟨rfl | rfl, hb2⟩
      · rcases hb2 with rfl | rfl
        · rcases hE2 with rfl | rfl
          · have hE0 : E = 0 := by rw [HF.out, if_pos ⟨rfl, rfl⟩, HE2.out]
            have hV0 : V = headV cnt tim r1 r2 := by rw [HFV.out, if_pos hE0]
            have hz : (Ending.returned (.tuple #[.agg V.toArray, .int .i64 E])) = .returned (.tuple #[.agg (headV cnt tim r1 r2).toArray, .int .i64 0]) := by rw [hV0, hE0]
            have HZ := hid hz
            clear hz hE0 hV0
            go_wp2_with (first | (refine wpl_loadw rfl 70 (.tmp 8) rfl rfl BJ.out agg_head HHL.out ?_) | (refine wpl_storew rfl _ (.tmp 2) _ rfl rfl rfl ZJ.out agg_head hzl HHL.out hho ?_))
            intro w4 b4 u4
            go_wp2
            exact ret_row2 rfl rfl b4 agg_head HHL.out rfl ⟨by rw [HZ.out]; rfl, u4.ext EJ.out (Nat.le_refl _)⟩
          · have hE4 : E = 4 := by rw [HF.out]; simp [HE2.out]
            have hV4 : V = headV 0 0 zero32 zero32 := by rw [HFV.out, hE4]; rfl
            have hz : (Ending.returned (.tuple #[.agg V.toArray, .int .i64 E])) = .returned (.tuple #[.agg Try.zeroCells70, .int .i64 4]) := by rw [hV4, hE4, zero_head]
            have HZ := hid hz
            clear hz hE4 hV4
            go_wp2_with (first | (refine wpl_storew rfl _ (.tmp 2) _ rfl rfl rfl ZJ.out agg_head hzl hzl hzo ?_))
            intro w4 b4 u4
            go_wp2
            exact ret_row2 rfl rfl b4 agg_head hzl rfl ⟨by rw [HZ.out]; rfl, u4.ext EJ.out (Nat.le_refl _)⟩
        · have hE4 : E = 4 := by rw [HF.out]; simp
          have hV4 : V = headV 0 0 zero32 zero32 := by rw [HFV.out, hE4]; rfl
          have hz : (Ending.returned (.tuple #[.agg V.toArray, .int .i64 E])) = .returned (.tuple #[.agg Try.zeroCells70, .int .i64 4]) := by rw [hV4, hE4, zero_head]
          have HZ := hid hz
          clear hz hE4 hV4
          go_wp2_with (first | (refine wpl_storew rfl _ (.tmp 2) _ rfl rfl rfl ZJ.out agg_head hzl hzl hzo ?_))
          intro w4 b4 u4
          go_wp2
          exact ret_row2 rfl rfl b4 agg_head hzl rfl ⟨by rw [HZ.out]; rfl, u4.ext EJ.out (Nat.le_refl _)⟩
      · have hE4 : E = 4 := by rw [HF.out]; simp
        have hV4 : V = headV 0 0 zero32 zero32 := by rw [HFV.out, hE4]; rfl
        have hz : (Ending.returned (.tuple #[.agg V.toArray, .int .i64 E])) = .returned (.tuple #[.agg Try.zeroCells70, .int .i64 4]) := by rw [hV4, hE4, zero_head]
        have HZ := hid hz
        clear hz hE4 hV4
        go_wp2_with (first | (refine wpl_storew rfl _ (.tmp 2) _ rfl rfl rfl ZJ.out agg_head hzl hzl hzo ?_))
        intro w4 b4 u4
        go_wp2
        exact ret_row2 rfl rfl b4 agg_head hzl rfl ⟨by rw [HZ.out]; rfl, u4.ext EJ.out (Nat.le_refl _)⟩
    · have hE1 : E = 2 := by rw [← HE.out]; unfold parseHE; rw [if_neg h84, if_neg hbad]
      have hV1 : V = headV 0 0 zero32 zero32 := by rw [← HV.out]; unfold parseHV; rw [if_neg (by rw [HE.out, hE1]; decide)]
      rw [hE1, hV1]
      have hz : (Ending.returned (.tuple #[.agg (headV 0 0 zero32 zero32).toArray, .int .i64 2])) = .returned (.tuple #[.agg Try.zeroCells70, .int .i64 2]) := by rw [zero_head]
      have HZ := hid hz
      have hzl := zero_head_length
      have hzo := zero_head_one
      clear hz hE1 hV1 HZL hz1
      have hs1 := fun h => hstr (w.alloc (.cells Try.zeroCells70 70)) h
      have hs2 := hs1 (HC.out.ext ((Ext.refl w).alloc _))
      clear hs1 hstr
      by_cases hmg : l.take 4 = [75, 87, 72, 49]
      · have hgt : 84 < n := by
          have : n ≠ 84 := fun h => hbad ⟨hmg, h⟩
          omega
        have hm2 : (strOf (l.take 4)).toList = [75, 87, 72, 49] := hstl.trans hmg
        have d3 : decide (84 < n) = true := decide_eq_true hgt
        have d4 : decide (84 < (n : Int)) = true := decide_eq_true (by omega)
        clear hmg hbad hstl hlt4
        go_enter Try.func38, Try.ntmps38
        go_wp2_with (first | (refine wpl_storew rfl _ (.tmp 2) _ rfl rfl rfl (Blk.mk_alloc (vs := Try.zeroCells70.toList) rfl rfl) agg_head hzl hzl hzo ?_))
        intro w4 b4 u4
        go_wp2
        exact ret_row2 rfl rfl b4 agg_head hzl rfl ⟨by rw [HZ.out]; rfl, u4.ext ((Ext.refl w).alloc _) (Nat.le_refl _)⟩
      · have hm2 : ¬ (strOf (l.take 4)).toList = [75, 87, 72, 49] := by rw [hstl]; exact hmg
        have hm3 : ((strOf (l.take 4)).toList == [75, 87, 72, 49]) = false := by simpa using hm2
        clear hmg hbad hstl hlt4
        go_enter Try.func38, Try.ntmps38
        go_wp2_with (first | (refine wpl_storew rfl _ (.tmp 2) _ rfl rfl rfl (Blk.mk_alloc (vs := Try.zeroCells70.toList) rfl rfl) agg_head hzl hzl hzo ?_))
        intro w4 b4 u4
        go_wp2
        exact ret_row2 rfl rfl b4 agg_head hzl rfl ⟨by rw [HZ.out]; rfl, u4.ext ((Ext.refl w).alloc _) (Nat.le_refl _)⟩
end

section
open Go Go.RowKit

theorem guard_head : Try.prog.eqGuardType Try.prog.depth 70 = false := by kernel_rfl
theorem stood_head : Try.prog.stoodInHeld 70 = false := by kernel_rfl
theorem run_eqFields_cons {P : Program} {d : Nat} {xs ys : Array Value} {f : Field} {fs : List Field} {a b : Value} {w : World} (hn : f.name ≠ "_") (h1 : (part f.type xs f.offset).run P w = .ok a w) (h2 : (part f.type ys f.offset).run P w = .ok b w) (h3 : (Op.equalIn d f.type a b).run P w = .ok true w) :
    (Op.eqFields d xs ys (f :: fs)).run P w = (Op.eqFields d xs ys fs).run P w := by
  simp [Op.eqFields, hn, h1, h2, h3]
theorem run_part_int {P : Program} {t : TypeId} {k : IntKind} {xs : Array Value} {off : Nat} {v : Value} {w : World} (ht : P.underlying t = some (.int k)) (hv : xs[off]? = some v) : (part t xs off).run P w = .ok v w := by
  simp [part, isAgg, run_underlying ht, hv]
theorem run_part_arr {P : Program} {t e : TypeId} {n m : Nat} {xs : Array Value} {off : Nat} {w : World} (ht : P.underlying t = some (.array n e)) (hs : P.cellsOf t = m) : (part t xs off).run P w = .ok (.agg (xs.extract off (off + m))) w := by
  obtain ⟨i, hi⟩ := info_of_underlying ht
  simp [part, isAgg, run_underlying ht, run_sizeOf w hi, hs]
theorem size_sum32 : Try.prog.cellsOf 40 = 32 := by kernel_rfl
theorem head_part1 (C T : Int) {x y : List UInt8} (hx : x.length = 32) : (headV C T x y).toArray.extract 2 (2 + 32) = (x.map u8v).toArray := by
  rw [← headV_r1 C T (r2 := y) hx]
  simp [List.extract]
theorem head_part2 (C T : Int) {x y : List UInt8} (hx : x.length = 32) (hy : y.length = 32) : (headV C T x y).toArray.extract 34 (34 + 32) = (y.map u8v).toArray := by
  rw [← headV_r2 C T hx hy]
  simp [List.extract]
theorem fieldsAt_head : (Try.prog.fieldsOf 70).toList.map (fun f => (f.name, f.type, f.offset)) = [("Count", 3, 0), ("Time", 3, 1), ("Last", 40, 2), ("Root", 40, 34)] := by kernel_rfl
theorem eqHead_self (C T : Int) (x y : List UInt8) (hx : x.length = 32) (hy : y.length = 32) (w : World) :
    (Op.equalIn 10000 70 (.agg (headV C T x y).toArray) (.agg (headV C T x y).toArray)).run Try.prog w = .ok true w := by
  have hu : Try.prog.underlying 70 = some (.struct (Try.prog.fieldsOf 70)) := by unfold Program.fieldsOf; rw [Try.underlying70]
  rw [show (10000 : Nat) = 9999 + 1 from rfl, run_equalIn_struct w 9999 _ _ _ hu stood_head]
  have h := fieldsAt_head
  generalize (Try.prog.fieldsOf 70).toList = fs at h
  obtain ⟨f1, fs1, rfl, k1, h⟩ := List.map_eq_cons_iff.1 h
  obtain ⟨f2, fs2, rfl, k2, h⟩ := List.map_eq_cons_iff.1 h
  obtain ⟨f3, fs3, rfl, k3, h⟩ := List.map_eq_cons_iff.1 h
  obtain ⟨f4, fs4, rfl, k4, h⟩ := List.map_eq_cons_iff.1 h
  obtain rfl := List.map_eq_nil_iff.1 h
  simp only [Prod.mk.injEq] at k1 k2 k3 k4
  obtain ⟨a1, a2, a3⟩ := k1
  obtain ⟨b1, b2, b3⟩ := k2
  obtain ⟨c1, c2, c3⟩ := k3
  obtain ⟨d1, d2, d3⟩ := k4
  have p1 : (part f1.type (headV C T x y).toArray f1.offset).run Try.prog w = .ok (.int .i64 C) w := by rw [a2, a3]; exact run_part_int Try.underlying3 rfl
  have p2 : (part f2.type (headV C T x y).toArray f2.offset).run Try.prog w = .ok (.int .i64 T) w := by rw [b2, b3]; exact run_part_int Try.underlying3 rfl
  have p3 : (part f3.type (headV C T x y).toArray f3.offset).run Try.prog w = .ok (.agg (x.map u8v).toArray) w := by rw [c2, c3, run_part_arr Try.underlying40 size_sum32, head_part1 C T hx]
  have p4 : (part f4.type (headV C T x y).toArray f4.offset).run Try.prog w = .ok (.agg (y.map u8v).toArray) w := by rw [d2, d3, run_part_arr Try.underlying40 size_sum32, head_part2 C T hx hy]
  have e1 : ∀ z : Int, (Op.equalIn 9999 3 (.int .i64 z) (.int .i64 z)).run Try.prog w = .ok true w := fun z => by
    rw [run_equalIn_int w 9998 _ _ _ _ _ Try.underlying3]; simp
  have e2 : ∀ l : List UInt8, l.length = 32 → (Op.equalIn 9999 40 (.agg (l.map u8v).toArray) (.agg (l.map u8v).toArray)).run Try.prog w = .ok true w := fun l hl => by
    have := run_equalIn_bytes w 9997 40 5 32 Try.underlying40 Try.underlying5 (fun w => by kernel_rfl) l l hl hl
    exact this.trans (by simp)
  rw [run_eqFields_cons (by rw [a1]; decide) p1 p1 (by rw [a2]; exact e1 C), run_eqFields_cons (by rw [b1]; decide) p2 p2 (by rw [b2]; exact e1 T), run_eqFields_cons (by rw [c1]; decide) p3 p3 (by rw [c2]; exact e2 x hx), run_eqFields_cons (by rw [d1]; decide) p4 p4 (by rw [d2]; exact e2 y hy)]
  simp [Op.eqFields]
theorem head_eql (C T : Int) (x y : List UInt8) (hx : x.length = 32) (hy : y.length = 32) (w : World) :
    (binOp .eql 70 (.agg (headV C T x y).toArray) (.agg (headV C T x y).toArray)).run Try.prog w = .ok (.bool true) w := by
  rw [run_eql_struct, eqHead_self C T x y hx hy w]; rfl
theorem head_neq (C T : Int) (x y : List UInt8) (hx : x.length = 32) (hy : y.length = 32) (w : World) :
    (binOp .neq 70 (.agg (headV C T x y).toArray) (.agg (headV C T x y).toArray)).run Try.prog w = .ok (.bool false) w := by
  rw [run_neq_struct, eqHead_self C T x y hx hy w]; rfl

theorem long8_apph (l m r : List UInt8) (q : Nat) (h : l.length = q) (hm : m.length = 8) : long8 (l ++ (m ++ r)) q = long8 (l ++ m) q := by
  subst h
  unfold long8 word4
  have hg : ∀ i, i < l.length + 8 → (l ++ (m ++ r))[i]? = (l ++ m)[i]? := fun i hi => by
    rw [← List.append_assoc, List.getElem?_append_left (by rw [List.length_append]; omega)]
  rw [hg _ (by omega), hg _ (by omega), hg _ (by omega), hg _ (by omega), hg _ (by omega), hg _ (by omega), hg _ (by omega), hg _ (by omega)]

/-- what is printed is read -/
theorem parse_headO (C T : Int) (x y : List UInt8) (hx : x.length = 32) (hy : y.length = 32) (hE : headE C T = 0) :
    parseHE (headO C T x y) 84 = 0 ∧ parseHV (headO C T x y) 84 = headV C T x y := by
  have hb : 0 ≤ C ∧ C ≤ 65536 ∧ 0 ≤ T ∧ T ≤ 1099511627776 := by
    unfold headE at hE
    split at hE
    · exact absurd hE (by decide)
    · omega
  obtain ⟨c1, c2, t1, t2⟩ := hb
  obtain ⟨c, rfl⟩ := Int.eq_ofNat_of_zero_le c1
  obtain ⟨t, rfl⟩ := Int.eq_ofNat_of_zero_le t1
  have hc : (UInt64.ofNat c).toNat = c := by simp; omega
  have ht : (UInt64.ofNat t).toNat = t := by simp; omega
  have e0 : headO (c : Int) (t : Int) x y = ([75, 87, 72, 49] ++ longL (UInt64.ofNat c)) ++ longL (UInt64.ofNat t) ++ x ++ y := rfl
  have l1 : long8 (headO (c : Int) (t : Int) x y) 4 = c := by
    have h := long8_longL [75, 87, 72, 49] (UInt64.ofNat c) 4 rfl
    rw [hc] at h
    have e1 : headO (c : Int) (t : Int) x y = [75, 87, 72, 49] ++ (longL (UInt64.ofNat c) ++ (longL (UInt64.ofNat t) ++ x ++ y)) := by rw [e0]; simp only [List.append_assoc]
    rw [e1, long8_apph _ _ _ 4 rfl (longL_length _)]
    exact h
  have l2 : long8 (headO (c : Int) (t : Int) x y) 12 = t := by
    have h := long8_longL ([75, 87, 72, 49] ++ longL (UInt64.ofNat c)) (UInt64.ofNat t) 12 (by simp [longL_length])
    rw [ht] at h
    have e1 : headO (c : Int) (t : Int) x y = ([75, 87, 72, 49] ++ longL (UInt64.ofNat c)) ++ (longL (UInt64.ofNat t) ++ (x ++ y)) := by rw [e0]; simp only [List.append_assoc]
    rw [e1, long8_apph _ _ _ 12 (by simp [longL_length]) (longL_length _)]
    exact h
  have g1 : ((headO (c : Int) (t : Int) x y).drop 20).take 32 = x := by
    rw [e0, List.append_assoc, List.drop_left' (by simp [longL_length]), List.take_left' hx]
  have g2 : ((headO (c : Int) (t : Int) x y).drop 52).take 32 = y := by
    rw [e0, List.drop_left' (by simp [longL_length, hx]), List.take_of_length_le (by omega)]
  have g0 : (headO (c : Int) (t : Int) x y).take 4 = [75, 87, 72, 49] := rfl
  have hp : parseHE (headO (c : Int) (t : Int) x y) 84 = 0 := by
    unfold parseHE
    rw [if_neg (by decide), if_pos ⟨g0, rfl⟩, l1, l2]; exact hE
  refine ⟨hp, ?_⟩
  unfold parseHV
  rw [if_pos hp, l1, l2, g1, g2]

/-- what is read prints as it was -/
theorem print_parsed (l : List UInt8) (hl : l.length = 84) (h : parseHE l 84 = 0) :
    headO (long8 l 4 : Nat) (long8 l 12 : Nat) ((l.drop 20).take 32) ((l.drop 52).take 32) = l ∧ headE (long8 l 4 : Nat) (long8 l 12 : Nat) = 0 := by
  unfold parseHE at h
  rw [if_neg (by decide)] at h
  split at h
  case isFalse => exact absurd h (by decide)
  case isTrue hm =>
    refine ⟨?_, h⟩
    unfold headO
    rw [Int.toNat_natCast, Int.toNat_natCast, longL_long8 l 4 (by omega), longL_long8 l 12 (by omega), ← hm.1]
    have e : ∀ p q : Nat, l.take p ++ (l.drop p).take q = l.take (p + q) := fun p q => List.take_add.symm
    rw [e 4 8, e 12 8, e 20 32, e 52 32, List.take_of_length_le (by omega)]
theorem parse_not84 {l : List UInt8} {n : Nat} (hl : l.length = n) (h : parseHE l n = 0) : n = 84 := by
  unfold parseHE at h
  split at h
  · exact absurd h (by decide)
  · split at h
    · next h2 => exact h2.2
    · exact absurd h (by decide)
end

section
open Go Go.RowKit Go.Maps Go.MapKept Go.WideShapes

theorem agg_pol : AggT Try.prog 38 1 := ⟨⟨_, Try.underlying38, rfl⟩, by kernel_rfl⟩
theorem guard_dec : Try.prog.eqGuardType Try.prog.depth 44 = false := by kernel_rfl
theorem stood_dec : Try.prog.stoodInHeld 44 = false := by kernel_rfl
theorem run_part_bool {P : Program} {t : TypeId} {xs : Array Value} {off : Nat} {v : Value} {w : World} (ht : P.underlying t = some .bool) (hv : xs[off]? = some v) : (part t xs off).run P w = .ok v w := by
  simp [part, isAgg, run_underlying ht, hv]
theorem run_part_str {P : Program} {t : TypeId} {xs : Array Value} {off : Nat} {v : Value} {w : World} (ht : P.underlying t = some .string) (hv : xs[off]? = some v) : (part t xs off).run P w = .ok v w := by
  simp [part, isAgg, run_underlying ht, hv]
theorem fieldsAt_dec : (Try.prog.fieldsOf 44).toList.map (fun f => (f.name, f.type, f.offset)) = [("Allowed", 4, 0), ("Rule", 3, 1), ("Need", 3, 2), ("Of", 9, 3)] := by kernel_rfl
theorem eqDec_self (d : DecR) (w : World) : (Op.equalIn 10000 44 (.agg d.v.toArray) (.agg d.v.toArray)).run Try.prog w = .ok true w := by
  have hu : Try.prog.underlying 44 = some (.struct (Try.prog.fieldsOf 44)) := by unfold Program.fieldsOf; rw [Try.underlying44]
  rw [show (10000 : Nat) = 9999 + 1 from rfl, run_equalIn_struct w 9999 _ _ _ hu stood_dec]
  have h := fieldsAt_dec
  generalize (Try.prog.fieldsOf 44).toList = fs at h
  obtain ⟨f1, fs1, rfl, k1, h⟩ := List.map_eq_cons_iff.1 h
  obtain ⟨f2, fs2, rfl, k2, h⟩ := List.map_eq_cons_iff.1 h
  obtain ⟨f3, fs3, rfl, k3, h⟩ := List.map_eq_cons_iff.1 h
  obtain ⟨f4, fs4, rfl, k4, h⟩ := List.map_eq_cons_iff.1 h
  obtain rfl := List.map_eq_nil_iff.1 h
  simp only [Prod.mk.injEq] at k1 k2 k3 k4
  obtain ⟨a1, a2, a3⟩ := k1
  obtain ⟨b1, b2, b3⟩ := k2
  obtain ⟨c1, c2, c3⟩ := k3
  obtain ⟨d1, d2, d3⟩ := k4
  have p1 : (part f1.type d.v.toArray f1.offset).run Try.prog w = .ok (.bool d.al) w := by rw [a2, a3]; exact run_part_bool Try.underlying4 rfl
  have p2 : (part f2.type d.v.toArray f2.offset).run Try.prog w = .ok (.int .i64 d.ru) w := by rw [b2, b3]; exact run_part_int Try.underlying3 rfl
  have p3 : (part f3.type d.v.toArray f3.offset).run Try.prog w = .ok (.int .i64 d.nd) w := by rw [c2, c3]; exact run_part_int Try.underlying3 rfl
  have p4 : (part f4.type d.v.toArray f4.offset).run Try.prog w = .ok (.string d.ow) w := by rw [d2, d3]; exact run_part_str Try.underlying9 rfl
  have e0 : (Op.equalIn 9999 4 (.bool d.al) (.bool d.al)).run Try.prog w = .ok true w := by rw [run_equalIn_bool' w 9998 _ _ _ Try.underlying4]; simp
  have e1 : ∀ z : Int, (Op.equalIn 9999 3 (.int .i64 z) (.int .i64 z)).run Try.prog w = .ok true w := fun z => by
    rw [run_equalIn_int w 9998 _ _ _ _ _ Try.underlying3]; simp
  have e3 : (Op.equalIn 9999 9 (.string d.ow) (.string d.ow)).run Try.prog w = .ok true w := by rw [run_equalIn_string w 9998 _ _ _ Try.underlying9]; simp
  rw [run_eqFields_cons (by rw [a1]; decide) p1 p1 (by rw [a2]; exact e0), run_eqFields_cons (by rw [b1]; decide) p2 p2 (by rw [b2]; exact e1 _), run_eqFields_cons (by rw [c1]; decide) p3 p3 (by rw [c2]; exact e1 _), run_eqFields_cons (by rw [d1]; decide) p4 p4 (by rw [d2]; exact e3)]
  simp [Op.eqFields]
theorem dec_eql (d : DecR) (w : World) : (binOp .eql 44 (.agg d.v.toArray) (.agg d.v.toArray)).run Try.prog w = .ok (.bool true) w := by
  rw [run_eql_struct, eqDec_self d w]; rfl
theorem dec_neq (d : DecR) (w : World) : (binOp .neq 44 (.agg d.v.toArray) (.agg d.v.toArray)).run Try.prog w = .ok (.bool false) w := by
  rw [run_neq_struct, eqDec_self d w]; rfl

set_option maxRecDepth 100000 in
set_option maxHeartbeats 4000000 in
theorem asksAreDecided_c (pa : Option Addr) (pn pc : Nat) (rs : List RuleR) (a : AskR) (la : Option Addr) (n c : Nat) (ls : List ApprR) (w : World) (hp : PolOk w pa pn pc rs) (ha : a.Ok w) (hl : ApprsOk w la n c ls) :
    Calls Try.prog 6 #[.agg #[.slice pa pn pc], .agg a.v.toArray, .slice la n c] w fun e w' => e = .returned (.bool true) ∧ Ext w w' := by
  have hde := hid (fun w' h1 h2 => pDecide_c pa pn pc rs a w' h1 h2)
  have hcp := hid (fun w' h => checkPolicy_c pa pn pc rs w' h)
  have hra := hid (fun w' h => rcheckAsk_c a w' h)
  have hrd := hid (fun (h0 : polE rs pn = 0) (h1 : askE a = 0) w' k1 k2 => rdecide_c pa pn pc rs a w' k1 k2 (firstE_all (show firstE rs = 0 by unfold polE at h0; split at h0; exact absurd h0 (by decide); exact h0)) h1)
  have hen := hid (fun (d : DecR) w' h => enough_c d ls la n c w' h)
  have hre := hid (fun (d : DecR) w' h => renough_c d ls la n c w' h)
  have hnm := hid (fun (s : ByteArray) w' (h : s.size ≤ 140737488355328) => risName_c s w' (by omega))
  have HPO := hid hp
  have HAO := hid ha
  have HLO := hid hl
  have HLEN := hid (AskR.len ha)
  have hn63 : n ≤ 140737488355328 := by have := hl.hnc; have := hl.hm; omega
  clear hp ha hl
  go_enter Try.func6, Try.ntmps6
  go_upto_region 1 with (fail)
  generalize hwA : World.alloc (World.alloc w _) _ = wA
  have bA : Blk wA w.heap.size [.slice pa pn pc] 38 := by rw [← hwA]; exact (Blk.mk_alloc rfl rfl).alloc _
  have gA : Blk wA (w.heap.size + 1) a.v 42 := by rw [← hwA]; exact Blk.mk_alloc (by simp) rfl
  have eA : Ext w wA := by rw [← hwA]; exact ((Ext.refl w).alloc _).alloc _
  have BA := hid bA
  have GA := hid gA
  have EA := hid eA
  have PA := hid (HPO.out.ext eA)
  have QA := hid (HAO.out.ext eA)
  have LA := hid (HLO.out.ext eA)
  clear hwA bA gA eA HPO HAO HLO
  go_wp2_with fail
  refine (landed_c wA).mono ?_
  rintro e wB ⟨rfl, eB⟩
  have BB := hid (BA.out.ext eB)
  have GB := hid (GA.out.ext eB)
  have EB := hid (EA.out.ext eB)
  have PB := hid (PA.out.ext eB)
  have QB := hid (QA.out.ext eB)
  have LB := hid (LA.out.ext eB)
  clear eB BA GA EA PA QA LA
  have c0 := BB.out.cell' (i := 0) rfl
  go_wp2_with (refine wpl_loadw rfl 42 (.tmp 4) rfl rfl GB.out agg_ask HLEN.out ?_)
  refine (hde.out wB PB.out QB.out).mono ?_
  rintro e wC ⟨rfl, eC⟩
  have BC := hid (BB.out.ext eC)
  have GC := hid (GB.out.ext eC)
  have EC := hid (EB.out.ext eC)
  have PC := hid (PB.out.ext eC)
  have QC := hid (QB.out.ext eC)
  have LC := hid (LB.out.ext eC)
  clear eC BB GB EB PB QB LB
  clear c0 hde
  obtain ⟨D, hD⟩ : ∃ D, pDecD rs pn a = D := ⟨_, rfl⟩
  obtain ⟨F, hF⟩ : ∃ F, pDecE rs pn a = F := ⟨_, rfl⟩
  rw [hD, hF]
  have HD := hid hD
  have HF := hid hF
  clear hD hF
  have hDl := hid (DecR.len D)
  have hDo := decV_one D
  go_wp2_with (refine wpl_storew rfl _ (.tmp 7) _ rfl rfl rfl (Blk.mk_alloc (vs := zeroDec.v) rfl rfl) agg_dec rfl hDl.out hDo ?_)
  intro wD bD uD
  have eD : Ext wC wD := uD.ext ((Ext.refl wC).alloc _) (Nat.le_refl _)
  have ND := hid bD
  clear uD bD
  have BD := hid (BC.out.ext eD)
  have GD := hid (GC.out.ext eD)
  have ED := hid (EC.out.ext eD)
  have PD := hid (PC.out.ext eD)
  have QD := hid (QC.out.ext eD)
  have LD := hid (LC.out.ext eD)
  clear eD BC GC EC PC QC LC
  generalize wC.heap.size = gd at *
  have c0 := BD.out.cell' (i := 0) rfl
  go_wp2_with fail
  refine (hcp.out wD PD.out).mono ?_
  rintro e wE ⟨rfl, eE⟩
  have BE := hid (BD.out.ext eE)
  have GE := hid (GD.out.ext eE)
  have EE := hid (ED.out.ext eE)
  have PE := hid (PD.out.ext eE)
  have QE := hid (QD.out.ext eE)
  have LE := hid (LD.out.ext eE)
  have NE := hid (ND.out.ext eE)
  clear eE BD GD ED PD QD LD ND
  clear c0 hcp
  have HZQ := hid (fun w' => show (binOp .eql 44 (.agg zeroDec.v.toArray) (.agg #[Value.bool false, .int .i64 0, .int .i64 0, .string ⟨#[]⟩])).run Try.prog w' = .ok (.bool true) w' from dec_eql zeroDec w')
  by_cases h0 : polE rs pn = 0
  case neg =>
    have q1 : (polE rs pn == 0) = false := by simp [h0]
    have q2 : decide (polE rs pn = 0) = false := decide_eq_false h0
    have q3 : (polE rs pn != 0) = true := by simp [h0]
    have hDz : D = zeroDec := by rw [← HD.out]; unfold pDecD; rw [if_neg h0]
    have hFz : F = polE rs pn := by rw [← HF.out]; unfold pDecE; rw [if_neg h0]
    subst hDz
    subst hFz
    generalize polE rs pn = er at *
    clear HD HF hra hrd hen hre
    go_wp2_with (first | (refine wpg_loadw rfl 44 (.tmp 7) rfl rfl NE.out agg_dec (DecR.len zeroDec) ?_) | (refine wpg_cmp rfl .eql _ _ _ _ rfl rfl rfl guard_dec HZQ.out ?_))
    go_ret
    exact ⟨rfl, EE.out⟩
  have hra0 := hra.out wE QE.out
  have HRA := hid hra0
  clear hra0 hra
  rw [h0]
  go_wp2_with (refine wpl_loadw rfl 42 (.tmp 4) rfl rfl GE.out agg_ask HLEN.out ?_)
  refine HRA.out.mono ?_
  rintro e wF ⟨rfl, eF⟩
  have BF := hid (BE.out.ext eF)
  have GF := hid (GE.out.ext eF)
  have EF := hid (EE.out.ext eF)
  have PF := hid (PE.out.ext eF)
  have QF := hid (QE.out.ext eF)
  have LF := hid (LE.out.ext eF)
  have NF := hid (NE.out.ext eF)
  clear eF BE GE EE PE QE LE NE
  clear HRA
  by_cases h1 : askE a = 0
  case neg =>
    have q1 : (askE a == 0) = false := by simp [h1]
    have q2 : decide (askE a = 0) = false := decide_eq_false h1
    have q3 : (askE a != 0) = true := by simp [h1]
    have hDz : D = zeroDec := by rw [← HD.out]; unfold pDecD; rw [if_pos h0, if_neg h1]
    have hFz : F = askE a := by rw [← HF.out]; unfold pDecE; rw [if_pos h0]
    subst hDz
    subst hFz
    generalize askE a = er at *
    clear HD HF hrd hen hre h0
    go_wp2_with (first | (refine wpg_loadw rfl 44 (.tmp 7) rfl rfl NF.out agg_dec (DecR.len zeroDec) ?_) | (refine wpg_cmp rfl .eql _ _ _ _ rfl rfl rfl guard_dec HZQ.out ?_))
    go_ret
    exact ⟨rfl, EF.out⟩
  have hDz : decideD a rs = D := by rw [← HD.out]; unfold pDecD; rw [if_pos h0, if_pos h1]
  have hFz : F = 0 := by rw [← HF.out]; unfold pDecE; rw [if_pos h0]; exact h1
  have hrd2 := hid (hrd.out h0 h1)
  rw [hDz] at hrd2
  subst hFz
  rw [h1]
  have HND := hid (dec_neq D)
  clear HD HF hrd h0 h1 hDz HZQ
  go_wp2_with fail
  obtain ⟨C, hC⟩ : ∃ C : World → Prop, C = fun w' => Ext wF w' := ⟨_, rfl⟩
  have hC0 : ∀ w', C w' ↔ Ext wF w' := fun w' => by rw [hC]
  clear hC
  have HCC := hid hC0
  clear hC0
  have hCx : ∀ w w', C w → Ext w w' → C w' := fun w w' h1 h2 => (HCC.out w').2 (((HCC.out w).1 h1).ext h2)
  have hCA : C wF := (HCC.out _).2 (Ext.refl wF)
  have hrd3 := hid (fun w1 (h : C w1) => hrd2.out w1 (PF.out.ext ((HCC.out w1).1 h)) (QF.out.ext ((HCC.out w1).1 h)))
  have e0 : ∀ w1, C w1 → w1.cell? ⟨w.heap.size, 0, none⟩ = some (.slice pa pn pc) := fun w1 h1 => (BF.out.ext ((HCC.out w1).1 h1)).cell' (i := 0) rfl
  refine wp_region_held_drew (S := C) (by kernel_rfl) (hCx _ _ hCA (Ext.refl _).drew) (fun hS0 => ?_)
  refine held_take 0 (v := ?tv1) rfl (by kernel_rfl) (by kernel_rfl) (by kernel_rfl) (fun _ _ _ h => h) (.inl ⟨rfl, ?ty1⟩) hS0 ?tr1
  case ty1 => (intro _ _; go_simp; try with_reducible rfl)
  case tr1 =>
  simp only [Act.put, List.setIfInBounds_toArray, List.set_cons_succ, List.set_cons_zero]
  refine held_take 1 (v := ?tv2) rfl (by kernel_rfl) (by kernel_rfl) (by kernel_rfl) (fun _ _ _ h => h) (.inl ⟨rfl, ?ty2⟩) hS0 ?tr2
  case ty2 => (intro _ _; go_simp; try with_reducible rfl)
  case tr2 =>
  simp only [Act.put, List.setIfInBounds_toArray, List.set_cons_succ, List.set_cons_zero]
  refine held_take 2 (v := ?tv3) rfl (by kernel_rfl) (by kernel_rfl) (by kernel_rfl) (fun _ _ _ h => h) (.inl ⟨rfl, ?ty3⟩) hS0 ?tr3
  case ty3 => (intro _ _; go_simp; try with_reducible rfl)
  case tr3 =>
  simp only [Act.put, List.setIfInBounds_toArray, List.set_cons_succ, List.set_cons_zero]
  refine held_take 3 (v := _) rfl (by kernel_rfl) (by kernel_rfl) (by kernel_rfl) (fun _ _ _ h => h) (yieldsI_loadw rfl 44 _ rfl rfl (fun w1 h => NF.out.ext ((HCC.out w1).1 h)) agg_dec hDl.out) hS0 ?_
  simp only [Act.put, List.setIfInBounds_toArray, List.set_cons_succ, List.set_cons_zero]
  refine held_take 4 (v := _) rfl (by kernel_rfl) (by kernel_rfl) (by kernel_rfl) (fun _ _ _ h => h) (yieldsI_loadw rfl 38 _ rfl rfl (fun w1 h => BF.out.ext ((HCC.out w1).1 h)) agg_pol rfl) hS0 ?_
  simp only [Act.put, List.setIfInBounds_toArray, List.set_cons_succ, List.set_cons_zero]
  refine held_take 5 (v := _) rfl (by kernel_rfl) (by kernel_rfl) (by kernel_rfl) (fun _ _ _ h => h) (yieldsI_loadw rfl 42 _ rfl rfl (fun w1 h => GF.out.ext ((HCC.out w1).1 h)) agg_ask HLEN.out) hS0 ?_
  simp only [Act.put, List.setIfInBounds_toArray, List.set_cons_succ, List.set_cons_zero]
  generalize wF.drew = wX at *
  refine held_one (i := 6) (by kernel_rfl) rfl ?_
  intro Q' hQ
  go_wp2_with fail
  refine (hrd3.out wX hS0).mono ?_
  rintro e wY ⟨rfl, eq9⟩
  have hS9 := hCx _ _ hS0 eq9
  go_wp2_with fail
  refine hQ _ _ hS9 ?_
  clear hQ Q' hS0 eq9
  have hS0 := hS9
  clear hS9
  try dsimp only
  try simp only [Act.put, List.setIfInBounds_toArray, List.set_cons_succ, List.set_cons_zero]
  refine held_take 7 (v := _) rfl (by kernel_rfl) (by kernel_rfl) (by kernel_rfl) (fun _ _ _ h => h) (yieldsI_run rfl (fun w1 _ => exec_cmpA rfl rfl rfl guard_dec HND.out w1)) hS0 ?_
  simp only [Act.put, List.setIfInBounds_toArray, List.set_cons_succ, List.set_cons_zero]
  refine held_take 8 (v := ?tv4) rfl (by kernel_rfl) (by kernel_rfl) (by kernel_rfl) (fun _ _ _ h => h) (.inl ⟨rfl, ?ty4⟩) hS0 ?tr4
  case ty4 => (intro _ _; go_simp; try with_reducible rfl)
  case tr4 =>
  simp only [Act.put, List.setIfInBounds_toArray, List.set_cons_succ, List.set_cons_zero]
  refine wpAnyH_done (by kernel_rfl) ?_ _
  have eY := (HCC.out wY).1 hS0
  clear hS0 hCx hCA HCC hrd3 hrd2 e0
  have BY := hid (BF.out.ext eY)
  have GY := hid (GF.out.ext eY)
  have EY := hid (EF.out.ext eY)
  have PY := hid (PF.out.ext eY)
  have QY := hid (QF.out.ext eY)
  have LY := hid (LF.out.ext eY)
  have NY := hid (NF.out.ext eY)
  clear eY BF GF EF PF QF LF NF
  obtain ⟨OB, hOB⟩ : ∃ OB, OB = (if apprsE ls = 0 then enoughB D ls else false) := ⟨_, rfl⟩
  obtain ⟨AE, hAE⟩ : ∃ AE, apprsE ls = AE := ⟨_, rfl⟩
  have hen2 : ∀ w', ApprsOk w' la n c ls → Calls Try.prog 24 #[.agg D.v.toArray, .slice la n c] w' fun e w'' => e = .returned (.tuple #[.bool OB, .int .i64 AE]) ∧ Ext w' w'' := fun w' h => by
    have h2 := hen.out D w' h
    have hv : enoughV D ls = .tuple #[.bool OB, .int .i64 AE] := by
      unfold enoughV
      rw [hOB, hAE]
      by_cases h : AE = 0
      · rw [if_pos h, if_pos h, h]
      · rw [if_neg h, if_neg h]
    rwa [hv] at h2
  have HEN := hid hen2
  have HAE := hid hAE
  have HOB := hid hOB
  have hre2 := hid (hre.out D)
  clear hen2 hAE hOB hen hre
  go_wp2_with (refine wpl_loadw rfl 44 (.tmp 7) rfl rfl NY.out agg_dec hDl.out ?_)
  refine (HEN.out wY LY.out).mono ?_
  rintro e wZ ⟨rfl, eZ⟩
  have BZ := hid (BY.out.ext eZ)
  have GZ := hid (GY.out.ext eZ)
  have EZ := hid (EY.out.ext eZ)
  have PZ := hid (PY.out.ext eZ)
  have QZ := hid (QY.out.ext eZ)
  have LZ := hid (LY.out.ext eZ)
  have NZ := hid (NY.out.ext eZ)
  clear eZ BY GY EY PY QY LY NY
  clear HEN HND
  go_wp2
  go_loopw [56] (fun i wr => ∃ k : Nat, k ≤ n ∧ i = .int .i64 (k : Int) ∧ apprsE (ls.drop k) = AE ∧ Ext wZ wr) (fun i _ => n - (intOf i).toNat)
  case atStart => exact ⟨0, by omega, rfl, by rw [List.drop_zero]; exact HAE.out, Ext.refl _⟩
  case round =>
    obtain ⟨k, hk, rfl, hape, e1⟩ := hrel
    have E1 := hid e1
    have HAPE := hid hape
    clear e1 hape
    by_cases hlt : k < n
    · obtain ⟨x, hxk⟩ : ∃ x, ls[k]? = some x := ⟨ls[k]'(by rw [LZ.out.hl]; exact hlt), by simp⟩
      obtain ⟨A, rfl, hca⟩ := (LZ.out.ext E1.out).at hxk
      have HCA := hid hca
      have HOK := hid ((LZ.out.ok x (List.mem_of_getElem? hxk)).ext E1.out)
      have HXL := hid (ApprR.len HOK.out)
      have HXK := hid hxk
      clear hca hxk
      have hxo := ApprR.one x
      go_wp2_with (first | (refine wpl_run rfl (exec_index (i := k) rfl rfl rfl Try.underlying53 size_appr hlt _) ?_) | (refine wpl_run rfl (exec_load_at rfl rfl HCA.out agg_appr HXL.out) ?_) | (refine wpl_storew rfl _ (.tmp 12) _ rfl rfl rfl (Blk.mk_alloc (vs := zeroAppr) rfl rfl) agg_appr rfl HXL.out hxo ?_))
      intro wI bI uI
      have eI : Ext wr wI := uI.ext ((Ext.refl wr).alloc _) (Nat.le_refl _)
      have BI := hid bI
      have EI := hid (E1.out.ext eI)
      have HOI := hid (HOK.out.ext eI)
      clear bI uI eI HOK HCA E1
      generalize wr.heap.size = gr at *
      have c16 := BI.out.cell' (ApprR.at16 HOI.out)
      have hsn63 : x.sn ≤ 140737488355328 := by have := HOI.out.snc; have := HOI.out.sm; omega
      go_wp2
      go_loopw [63] (fun i wr2 => ∃ j : Nat, j ≤ x.sn ∧ i = .int .i64 (j : Int) ∧ scanAt x.roles j = scanAt x.roles 0 ∧ Ext wI wr2) (fun i _ => x.sn - (intOf i).toNat)
      case atStart => exact ⟨0, by omega, rfl, rfl, Ext.refl _⟩
      case round =>
        obtain ⟨j, hj, rfl, hscan, e3⟩ := hrel
        have HSC := hid hscan
        have E3 := hid e3
        clear hscan e3
        by_cases hjt : j < x.sn
        · obtain ⟨s, hsj⟩ : ∃ s, x.roles[j]? = some s := ⟨x.roles[j]'(by rw [HOI.out.sl]; exact hjt), by simp⟩
          have HOR := hid (HOI.out.ext E3.out)
          obtain ⟨A2, hA2, hcs⟩ := strs_at HOR.out.scell hsj
          rw [Nat.mul_one] at hcs
          have hsz := HOI.out.ss s (List.mem_of_getElem? hsj)
          have hnm2 := hid (hnm.out s)
          rw [hA2] at c16
          rw [hA2]
          have HSJ := hid hsj
          clear hsj
          go_wp2_with fail
          refine (hnm2.out _ hsz).mono ?_
          rintro e w4 ⟨rfl, e4⟩
          have E4 := hid (E3.out.ext e4)
          have HO4 := hid (HOR.out.ext e4)
          have c16' := (BI.out.ext E4.out).cell' (ApprR.at16 HOI.out)
          rw [hA2] at c16'
          clear e4 c16 hcs
          cases hb : isNameL s.data.toList with
          | false =>
            have hbb : badS s = true := by unfold badS; rw [hb]; rfl
            have h6 := scanAt_bad HSJ.out hbb
            have hs0 : scanAt x.roles 0 = 6 := HSC.out.symm.trans h6
            have hA6 : AE = 6 := by rw [← HAPE.out, apprsE_bad HXK.out (by rw [hs0]; decide), hs0]
            have hO6 : OB = false := by rw [HOB.out, HAE.out, hA6]; rfl
            subst hO6
            subst hA6
            clear h6 hs0 hbb hb
            go_wp2
            go_ret
            exact ⟨by first | rfl | simp, EZ.out.ext (EI.out.ext E4.out)⟩
          | true =>
          have hbb : badS s = false := by unfold badS; rw [hb]; rfl
          clear hb
          cases j with
          | zero =>
            have HST := hid ((scanAt_zero HSJ.out hbb).symm.trans HSC.out)
            clear hbb
            go_wp2
            go_roundw
            case rel => exact ⟨1, by omega, by go_num, HST.out, E4.out⟩
            case measure => simp [intOf]; omega
          | succ j =>
            obtain ⟨p, hpj⟩ : ∃ p, x.roles[j]? = some p := ⟨x.roles[j]'(by rw [HOI.out.sl]; omega), by simp⟩
            obtain ⟨A3, hA3, hcp⟩ := strs_at HO4.out.scell hpj
            rw [Nat.mul_one] at hcp
            rw [hA2] at hA3
            injection hA3 with hA3
            subst hA3
            obtain ⟨hs1, hs2⟩ := scanAt_step hpj HSJ.out hbb
            have hlq : Op.bytesLess p.toList s.toList = lessS p s := rfl
            have hwj : IntKind.i64.wrap ((((j + 1 : Nat) : Int)) - 1) = (j : Int) := by rw [IntWalk.i64_in _ (by omega)]; omega
            have hwj2 : IntKind.i64.wrap (j : Int) = (j : Int) := IntWalk.i64_in _ (by omega)
            clear hbb hpj
            cases hq : lessS p s with
            | true =>
              have HST := hid ((hs1 hq).symm.trans HSC.out)
              rw [hq] at hlq
              clear hs1 hs2 hq
              go_wp2
              go_roundw
              case rel => exact ⟨j + 2, by omega, by go_num, HST.out, E4.out⟩
              case measure => simp [intOf]; omega
            | false =>
              have hs0 : scanAt x.roles 0 = 9 := HSC.out.symm.trans (hs2 hq)
              have hA9 : AE = 9 := by rw [← HAPE.out, apprsE_bad HXK.out (by rw [hs0]; decide), hs0]
              have hO9 : OB = false := by rw [HOB.out, HAE.out, hA9]; rfl
              rw [hq] at hlq
              subst hO9
              subst hA9
              clear hs1 hs2 hq hs0
              go_wp2
              go_ret
              exact ⟨by first | rfl | simp, EZ.out.ext (EI.out.ext E4.out)⟩
        · obtain rfl : j = x.sn := by omega
          have hz : scanAt x.roles 0 = 0 := HSC.out.symm.trans (scanAt_end (by rw [HOI.out.sl]; exact Nat.le_refl _))
          have HAP2 := hid ((apprsE_ok HXK.out hz).symm.trans HAPE.out)
          have E5 := hid (EI.out.ext E3.out)
          clear hz HAPE HSC
          go_wp2
          go_roundw
          case rel => exact ⟨k + 1, by omega, by go_num, HAP2.out, E5.out⟩
          case measure => simp [intOf]; omega
    · obtain rfl : k = n := by omega
      have hA0 : AE = 0 := by
        rw [← HAPE.out, List.drop_of_length_le (by rw [LZ.out.hl]; exact Nat.le_refl _)]; rfl
      have hO0 : OB = enoughB D ls := by rw [HOB.out, HAE.out, if_pos hA0]
      subst hA0
      subst hO0
      have LW := hid (LZ.out.ext E1.out)
      have NW := hid (NZ.out.ext E1.out)
      have EW := hid (EZ.out.ext E1.out)
      clear HAPE HOB HAE
      generalize enoughB D ls = OB at *
      go_wp2_with (refine wpg_loadw rfl 44 (.tmp 7) rfl rfl NW.out agg_dec hDl.out ?_)
      refine (hre2.out _ LW.out).mono ?_
      rintro e wJ ⟨rfl, eJ⟩
      have EJ := hid (EW.out.ext eJ)
      clear eJ
      go_wp2_with fail
      go_ret
      exact ⟨by first | rfl | simp, EJ.out⟩
end

section
open Go Go.RowKit

theorem info_rule : (Try.prog.info? 50).map (fun i => (i.zero, i.size, i.bytes)) = some (some (.agg zeroRule.toArray), 8, 120) := by kernel_rfl

set_option maxRecDepth 100000 in
set_option maxHeartbeats 1000000 in
theorem growR_c (n : Nat) (w : World) (hn : n ≤ 1000) :
    Calls Try.prog 60 #[.slice none 0 0, .int .i64 n] w fun e w' => ∃ v, e = .returned v ∧ w'.ownsRow w.heap.size 50 8 v 0 [] ∧ Ext w w' := by
  by_cases h0 : n = 0
  · subst h0
    go_enter Try.func60, Try.ntmps60
    go_wp2
    go_ret
    exact ⟨_, rfl, World.ownsRow_nil _ _ _ _, Ext.refl _⟩
  · have h1 : ¬ ((n : Int) < 0) := by omega
    have h3 : IntKind.i64.wrap (n : Int) = (n : Int) := IntWalk.i64_in _ (by omega)
    have h4 : decide ((0 : Int) < (n : Int)) = true := decide_eq_true (by omega)
    obtain ⟨i0, hi, hz, hs, hb⟩ := info_parts info_rule
    obtain ⟨G, hG⟩ : ∃ G, G = grownCap w n 0 50 := ⟨_, rfl⟩
    have hGn : n ≤ G := by rw [hG]; exact grownCap_ge w _ _ _
    have hG63 : G ≤ maxLen := by rw [hG]; exact grownCap_le_maxLen w n 0 50 (by unfold maxLen; omega)
    have hrz : ∀ ty, (Builtin.append_ #[36, 3] ty #[.slice none 0 0, .int .i64 (n : Int)]).run Try.prog w =
        .ok (.slice (some ⟨w.heap.size, 0, none⟩) n G) (w.drew.alloc (.cells (#[] ++ Builtin.zeroCells (Value.agg zeroRule.toArray).cells n ++ Builtin.zeroCells (Value.agg zeroRule.toArray).cells (G - n)) 50)) := fun ty => by
      have h := Lib.run_append_grow_zeros w 36 3 ty 50 i0 (.agg zeroRule.toArray) .i64 .i64 Try.underlying36 Try.underlying3 hi hz none 0 0 [] (by rw [hs]; exact run_firstCells_none w.drew 8 0 0 0) n (by omega) (by omega) (by omega) (by omega) (by rw [hb]; omega)
        (by exact growslice_fits (by omega) (by rw [hb]; omega))
      rw [Nat.zero_add, ← hG] at h
      exact h
    have hsz : (#[] ++ Builtin.zeroCells (Value.agg zeroRule.toArray).cells n ++ Builtin.zeroCells (Value.agg zeroRule.toArray).cells (G - n)).size = G * 8 := by
      have h1 : (Value.agg zeroRule.toArray).cells.size = 8 := rfl
      simp [Builtin.zeroCells, h1]
      omega
    have hown : ∀ cs : Array Value, cs.size = G * 8 → (w.drew.alloc (.cells cs 50)).ownsRow w.heap.size 50 8 (.slice (some ⟨w.heap.size, 0, none⟩) 0 G) 0 [] := fun cs hc => World.ownsRow_made w.drew cs G (Nat.le_refl _) hG63 hc
    generalize hcs : (#[] ++ Builtin.zeroCells (Value.agg zeroRule.toArray).cells n ++ Builtin.zeroCells (Value.agg zeroRule.toArray).cells (G - n)) = cs at *
    clear hG hcs
    unfold maxLen at hG63
    go_enter Try.func60, Try.ntmps60
    go_wp2_with (at_builtin; refine Lib.wpList_append_run _ rfl _ _ _ _ rfl _ _ rfl rfl _ _ (hrz _) ?_)
    all_goals (go_ret; exact ⟨_, rfl, hown cs hsz, (Ext.refl w).drew.alloc _⟩)

/-- a list of slices of rules: address, capacity, rules -/
abbrev RItem := Option Addr × Nat × List RuleR
def catR (its : List RItem) : List RuleR := (its.map (·.2.2)).flatten
def itemR (it : RItem) : Value := .slice it.1 it.2.2.length it.2.1
theorem catR_succ {its : List RItem} {k : Nat} {it : RItem} (h : its[k]? = some it) : catR (its.take (k + 1)) = catR (its.take k) ++ it.2.2 := by
  unfold catR
  rw [List.take_add_one, h]; simp
theorem catR_le (its : List RItem) (k : Nat) : (catR (its.take k)).length ≤ (catR its).length := by
  have h2 : catR its = catR (its.take k) ++ catR (its.drop k) := by
    unfold catR
    rw [← List.flatten_append, ← List.map_append, List.take_append_drop]
  rw [h2, List.length_append]
  omega
theorem rulesV_append (xs ys : List RuleR) : rulesV (xs ++ ys) = rulesV xs ++ rulesV ys := by unfold rulesV; rw [List.flatMap_append]
theorem rulesV_one (rs : List RuleR) : ∀ v ∈ rulesV rs, v.oneCell' = true := by
  intro v hv
  unfold rulesV at hv
  obtain ⟨r, _, h⟩ := List.mem_flatMap.1 hv
  exact ruleV_one r v h

set_option maxRecDepth 100000 in
set_option maxHeartbeats 1000000 in
theorem concatR_c (its : List RItem) (g nn cap : Nat) (w : World) (hnn : its.length = nn) (hnn2 : nn ≤ 140737488355328) (hcap : nn ≤ cap) (hg : ∀ (i : Nat) it, its[i]? = some it → w.cell? ⟨g, i, none⟩ = some (itemR it))
    (hc : ∀ it ∈ its, Cells w it.1 (rulesV it.2.2)) (hn0 : ∀ it ∈ its, it.1 = none → it.2.1 = 0) (hlen : (catR its).length ≤ 1000) :
    Calls Try.prog 19 #[.slice (some ⟨g, 0, none⟩) nn cap] w fun e w' => ∃ v, e = .returned v ∧ w'.ownsRow w.heap.size 50 8 v (catR its).length (rulesV (catR its)) ∧ Ext w w' := by
  have HNN := hid hnn
  have HG := hid hg
  have HC := hid hc
  have HN0 := hid hn0
  have HL := hid hlen
  obtain ⟨i0, hi, hz, hs, hb1⟩ := info_parts info_rule
  clear hg hc hn0 hlen hnn
  go_enter Try.func19, Try.ntmps19
  go_wp2
  go_loopw [3, 11] (fun s i wr => ∃ k : Nat, k ≤ nn ∧ s = .int .i64 ((catR (its.take k)).length : Nat) ∧ i = .int .i64 k ∧ wr = w)
    (fun _ i _ => nn - (intOf i).toNat)
  case atStart => exact ⟨0, by omega, by simp [catR], rfl, rfl⟩
  case round =>
    obtain ⟨k, hk, rfl, rfl, hwr⟩ := hrel
    subst wr
    by_cases hlt : k < nn
    · obtain ⟨it, hit⟩ : ∃ it, its[k]? = some it := ⟨its[k]'(by rw [HNN.out]; exact hlt), by simp⟩
      have c1 := HG.out k it hit
      unfold itemR at c1
      have hcs := catR_succ hit
      have hcl := catR_le its (k + 1)
      rw [hcs] at hcl
      have hcl2 := HL.out
      rw [List.length_append] at hcl
      obtain ⟨m, hm⟩ : ∃ m, (catR (its.take k)).length = m := ⟨_, rfl⟩
      obtain ⟨q, hq⟩ : ∃ q, it.2.2.length = q := ⟨_, rfl⟩
      have hsum : (catR (its.take (k + 1))).length = m + q := by rw [hcs, List.length_append, hm, hq]
      rw [hm, hq] at hcl
      rw [hq] at c1
      rw [hm]
      have h3 : IntKind.i64.wrap ((m : Int) + (q : Int)) = (m : Int) + (q : Int) := IntWalk.i64_in _ (by omega)
      have h4 : decide ((m : Int) + (q : Int) < 0) = false := decide_eq_false (by omega)
      have HS := hid hsum
      clear hsum hcs hcl hcl2 hm hq hit
      go_wp2
      go_roundw
      case rel => exact ⟨k + 1, by omega, by rw [HS.out]; go_num, by go_num, by simp⟩
      case measure => simp [intOf]; omega
    · have hkn : k = nn := by omega
      subst k
      have htk : its.take nn = its := List.take_of_length_le (by rw [HNN.out]; omega)
      rw [htk]
      have hl := HL.out
      obtain ⟨N, hN⟩ : ∃ N, (catR its).length = N := ⟨_, rfl⟩
      have HNL := hid hN
      rw [hN] at hl ⊢
      clear htk hN
      go_wp2_with fail
      refine (growR_c N _ hl).mono ?_
      rintro e w1 ⟨v, rfl, own, e1⟩
      go_wp2
      go_loopw [6, 27] (fun v i wr => ∃ k : Nat, k ≤ nn ∧ i = .int .i64 k ∧ wr.ownsRow w.heap.size 50 8 v (catR (its.take k)).length (rulesV (catR (its.take k))) ∧ Ext w wr)
        (fun _ i _ => nn - (intOf i).toNat)
      case atStart => exact ⟨0, by omega, rfl, by simpa [catR, rulesV] using own, e1⟩
      case round =>
        obtain ⟨k, hk, rfl, own2, e2⟩ := hrel
        by_cases hlt : k < nn
        · obtain ⟨it, hit⟩ : ∃ it, its[k]? = some it := ⟨its[k]'(by rw [HNN.out]; exact hlt), by simp⟩
          have c1 := HG.out k it hit
          have hb := block_lt_of_cell c1
          rw [← e2.cell (p := ⟨g, k, none⟩) hb] at c1
          have hcs := catR_succ hit
          have hcl := catR_le its (k + 1)
          rw [hcs, HNL.out, List.length_append] at hcl
          have hci := (HC.out it (List.mem_of_getElem? hit)).ext e2
          have hn0 := HN0.out it (List.mem_of_getElem? hit)
          unfold itemR at c1
          obtain ⟨x, c, li⟩ := it
          obtain ⟨q, hq⟩ : ∃ q, li.length = q := ⟨_, rfl⟩
          obtain ⟨m, hm⟩ : ∃ m, (catR (its.take k)).length = m := ⟨_, rfl⟩
          simp only at c1 hcs hcl hci hn0
          rw [hq] at c1
          rw [hm, hq] at hcl
          rw [hm] at own2
          have HCS := hid hcs
          have HQ := hid hq
          have HM := hid hm
          clear hcs hq hm hit hb
          cases x with
          | none =>
            have hli : li = [] := by
              rcases hci with h | ⟨_, _, h, _⟩
              · have h2 := congrArg List.length h
                rw [rulesV_length] at h2
                have h3 : 8 * li.length = 0 := h2
                exact List.length_eq_zero_iff.1 (by omega)
              · cases h
            have hc0 : c = 0 := hn0 rfl
            have hq0 : q = 0 := by rw [← HQ.out, hli]; rfl
            subst hc0
            subst hq0
            have hcs2 := HCS.out
            rw [hli, List.append_nil] at hcs2
            have HCS2 := hid hcs2
            clear hcs2 hli HCS
            go_wp2_with (at_builtin; refine wpList_append_own_none rfl _ _ 36 rfl w.heap.size 50 i0 8 Try.underlying36 hi _ _ _ rfl own2 rfl ?_)
            go_wp2
            go_roundw
            case rel => exact ⟨k + 1, by omega, by go_num, by rw [HCS2.out, HM.out]; exact own2, e2⟩
            case measure => simp [intOf]; omega
          | some ad =>
            go_wp2_with (at_builtin; refine wpList_append_own _ rfl _ _ 36 rfl w.heap.size 50 i0 (.agg zeroRule.toArray) 8 120 Try.underlying36 hi hz hs hb1 rfl (by decide) _ _ _ rfl own2 ad q c (rulesV li) rfl ?qc1 (news_cells hci) (rulesV_one _) ?qc4 ?qc5 e2.size ?_)
            case qc1 => rw [rulesV_length, HQ.out, Nat.mul_comm]
            case qc4 => unfold maxLen; omega
            case qc5 => omega
            intro v2 w2 own3 gr _
            have e3 : Ext w w2 := e2.grown gr (fun g' h => (own2.lt g' h).1)
            rw [← rulesV_append] at own3
            have hlen3 : (catR (its.take (k + 1))).length = m + q := by rw [HCS.out, List.length_append, HM.out, HQ.out]
            have HL3 := hid hlen3
            clear own2 gr e2 c1 hci hlen3
            go_wp2
            go_roundw
            case rel => exact ⟨k + 1, by omega, by go_num, by rw [HL3.out, HCS.out]; exact own3, e3⟩
            case measure => simp [intOf]; omega
        · have hkn : k = nn := by omega
          subst k
          rw [List.take_of_length_le (by rw [HNN.out]; omega), HNL.out] at own2
          go_wp2
          go_ret
          exact ⟨_, rfl, by rw [HNL.out]; exact own2, e2⟩
end

section
open Go Go.RowKit

theorem Upd.drew {w w' : World} {g : Nat} (h : Upd w g w') : Upd w g w'.drew := ⟨h.os, h.tape, h.output, h.size, h.block⟩
theorem splice_rule {ds : List RuleR} {rest : List Value} {k : Nat} (r : RuleR) (hk : k < ds.length) : splice (rulesV ds ++ rest) (k * 8) r.v = rulesV (ds.set k r) ++ rest := by
  obtain ⟨a, x, b, rfl, rfl⟩ : ∃ a x b, ds = a ++ x :: b ∧ a.length = k := ⟨ds.take k, ds[k], ds.drop (k + 1), by simp, by simp; omega⟩
  have e1 : rulesV (a ++ x :: b) ++ rest = rulesV a ++ (x.v ++ (rulesV b ++ rest)) := by
    rw [rulesV_append, show x :: b = [x] ++ b from rfl, rulesV_append]
    simp [rulesV]
  have e2 : (a ++ x :: b).set a.length r = a ++ r :: b := by simp
  have e3 : rulesV (a ++ r :: b) ++ rest = rulesV a ++ (r.v ++ (rulesV b ++ rest)) := by
    rw [rulesV_append, show r :: b = [r] ++ b from rfl, rulesV_append]
    simp [rulesV]
  rw [e1, e2, e3]
  unfold splice
  have l1 : (rulesV a).length = a.length * 8 := by rw [rulesV_length, Nat.mul_comm]
  rw [List.take_append_of_le_length (by omega), List.take_of_length_le (by omega), RuleR.len, ← l1, List.drop_append, List.drop_of_length_le (by omega), List.nil_append, show (rulesV a).length + 8 - (rulesV a).length = 8 by omega,
    List.drop_append, List.drop_of_length_le (by rw [RuleR.len]; omega), List.nil_append, RuleR.len, show 8 - 8 = 0 from rfl, List.drop_zero, List.append_assoc]
theorem blk_rule {w : World} {g : Nat} {ds : List RuleR} {rest : List Value} {T : TypeId} (hb : Blk w g (rulesV ds ++ rest) T) {k : Nat} {r : RuleR} (h : ds[k]? = some r) : CellsAt w ((⟨g, 0, none⟩ : Addr).add (k * 8)) r.v := by
  have hk := (List.getElem?_eq_some_iff.1 h).1
  intro j u hu
  have hj : j < 8 := by
    have := (List.getElem?_eq_some_iff.1 hu).1
    rw [RuleR.len] at this; omega
  rw [addr_add, addr_add, Nat.zero_add]
  refine hb.cell' ?_
  rw [List.getElem?_append_left (by rw [rulesV_length]; omega)]
  rw [← rulesV_at h, List.getElem?_take_of_lt hj, List.getElem?_drop] at hu
  exact hu
theorem swap_perm (ds : List RuleR) {i j : Nat} {x y : RuleR} (hi : ds[i]? = some x) (hj : ds[j]? = some y) : ((ds.set i y).set j x).Perm ds := by
  obtain ⟨h1, rfl⟩ := List.getElem?_eq_some_iff.1 hi
  obtain ⟨h2, rfl⟩ := List.getElem?_eq_some_iff.1 hj
  exact List.set_set_perm h1 h2

set_option maxRecDepth 100000 in
set_option maxHeartbeats 1000000 in
theorem reverseR_c (ds : List RuleR) (rest : List Value) (g h c : Nat) (T : TypeId) (w : World) (hh : h ≤ ds.length) (hd : ds.length ≤ 1000) (hb : Blk w g (rulesV ds ++ rest) T) :
    Calls Try.prog 20 #[.slice (some ⟨g, 0, none⟩) h c] w fun e w' => e = .returned (.tuple #[]) ∧ ∃ es, es.Perm ds ∧ Blk w' g (rulesV es ++ rest) T ∧ Upd w g w' := by
  obtain ⟨N, hN⟩ : ∃ N, ds.length = N := ⟨_, rfl⟩
  have HN := hid hN
  rw [hN] at hh hd
  have h0 : IntKind.i64.wrap ((h : Int) - 1) = (h : Int) - 1 := IntWalk.i64_in _ (by omega)
  have HB := hid hb
  clear hb hN
  go_enter Try.func20, Try.ntmps20
  go_wp2
  go_loopw [2, 3] (fun i j wr => ∃ (k : Nat) (m : Int) (es : List RuleR), i = .int .i64 k ∧ j = .int .i64 m ∧ (k : Int) + m + 1 = (h : Int) ∧ k ≤ h ∧ es.Perm ds ∧ Blk wr g (rulesV es ++ rest) T ∧ Upd w g wr)
    (fun i _ _ => h - (intOf i).toNat)
  case atStart => exact ⟨0, (h : Int) - 1, ds, rfl, rfl, by omega, by omega, .refl _, HB.out, Upd.refl _ _⟩
  case round =>
    obtain ⟨k, m, es, rfl, rfl, hkm, hkh, hp, hbw, hu⟩ := hrel
    by_cases hlt : (k : Int) < m
    · obtain ⟨mn, rfl⟩ : ∃ mn : Nat, m = (mn : Int) := ⟨m.toNat, by omega⟩
      have hl : es.length = N := by rw [hp.length_eq, HN.out]
      obtain ⟨x, hx⟩ : ∃ x, es[k]? = some x := ⟨es[k]'(by omega), by simp⟩
      obtain ⟨y, hy⟩ : ∃ y, es[mn]? = some y := ⟨es[mn]'(by omega), by simp⟩
      have hkl : k < h := by omega
      have hml : mn < h := by omega
      have h3 : IntKind.i64.wrap ((k : Int) + 1) = (k : Int) + 1 := IntWalk.i64_in _ (by omega)
      have h4 : IntKind.i64.wrap ((mn : Int) - 1) = (mn : Int) - 1 := IntWalk.i64_in _ (by omega)
      have HP := hid hp
      have BW := hid hbw
      have UW := hid hu
      have HX := hid hx
      have HY := hid hy
      have HL := hid hl
      have hxl : x.v.length = 8 := RuleR.len x
      have hyl : y.v.length = 8 := RuleR.len y
      have HXL := hid hxl
      have HYL := hid hyl
      have hb1 : k * 8 + 8 ≤ (rulesV es ++ rest).length := by rw [List.length_append, rulesV_length]; omega
      have hb2 : mn * 8 + 8 ≤ (splice (rulesV es ++ rest) (k * 8) y.v).length := by rw [splice_rule y (by omega), List.length_append, rulesV_length, List.length_set]; omega
      have ho1 := ruleV_one x
      have ho2 := ruleV_one y
      have HA := hid (⟨hb1, hb2, ho1, ho2⟩ : _ ∧ _ ∧ _ ∧ _)
      clear hp hbw hu hx hy hl hxl hyl hb1 hb2 ho1 ho2
      go_wp2_with fail
      obtain ⟨C, hC⟩ : ∃ C : World → Prop, C = Cls wr wr [g] [] := ⟨_, rfl⟩
      have hC0 : ∀ w', C w' ↔ Cls wr wr [g] [] w' := fun w' => by rw [hC]
      clear hC
      have HCC := hid hC0
      clear hC0
      have hCx : ∀ w w', C w → Ext w w' → C w' := fun w w' h1 h2 => (HCC.out w').2 (((HCC.out w).1 h1).ext h2)
      have hCA : C wr := (HCC.out _).2 (Cls.no_room (Ext.refl _) (Kept.one BW.out.lt))
      have hcx : ∀ w1, C w1 → CellsAt w1 ((⟨g, 0, none⟩ : Addr).add (k * 8)) x.v := fun w1 h1 => blk_rule (((HCC.out w1).1 h1).blk BW.out (by simp)) HX.out
      have hcy : ∀ w1, C w1 → CellsAt w1 ((⟨g, 0, none⟩ : Addr).add (mn * 8)) y.v := fun w1 h1 => blk_rule (((HCC.out w1).1 h1).blk BW.out (by simp)) HY.out
      refine wp_region_w (S := C) (W := [13, 15]) (by kernel_rfl) (hCx _ _ hCA (Ext.refl _).drew) (fun hS0 => ?_)
      refine w_pure 0 (v := ?tv1) rfl (by kernel_rfl) (by kernel_rfl) (by kernel_rfl) (fun _ _ _ h => h) (.inl ⟨rfl, ?ty1⟩) ?tr1
      case ty1 => (intro _ _; go_simp; try with_reducible rfl)
      case tr1 =>
      simp only [Act.put, List.setIfInBounds_toArray, List.set_cons_succ, List.set_cons_zero]
      refine w_pure 1 (v := ?tv2) rfl (by kernel_rfl) (by kernel_rfl) (by kernel_rfl) (fun _ _ _ h => h) (.inl ⟨rfl, ?ty2⟩) ?tr2
      case ty2 => (intro _ _; go_simp; try with_reducible rfl)
      case tr2 =>
      simp only [Act.put, List.setIfInBounds_toArray, List.set_cons_succ, List.set_cons_zero]
      refine w_pure 2 (v := ?tv3) rfl (by kernel_rfl) (by kernel_rfl) (by kernel_rfl) (fun _ _ _ h => h) (.inl ⟨rfl, ?ty3⟩) ?tr3
      case ty3 => (intro _ _; go_simp; try with_reducible rfl)
      case tr3 =>
      simp only [Act.put, List.setIfInBounds_toArray, List.set_cons_succ, List.set_cons_zero]
      refine w_pure 3 (v := ?tv4) rfl (by kernel_rfl) (by kernel_rfl) (by kernel_rfl) (fun _ _ _ h => h) (.inl ⟨rfl, ?ty4⟩) ?tr4
      case ty4 => (intro _ _; go_simp; try with_reducible rfl)
      case tr4 =>
      simp only [Act.put, List.setIfInBounds_toArray, List.set_cons_succ, List.set_cons_zero]
      refine w_pure 4 (v := ?tv5) rfl (by kernel_rfl) (by kernel_rfl) (by kernel_rfl) (fun _ _ _ h => h) (.inl ⟨rfl, ?ty5⟩) ?tr5
      case ty5 => (intro _ _; go_simp; try with_reducible rfl)
      case tr5 =>
      simp only [Act.put, List.setIfInBounds_toArray, List.set_cons_succ, List.set_cons_zero]
      refine w_pure 5 (v := ?tv6) rfl (by kernel_rfl) (by kernel_rfl) (by kernel_rfl) (fun _ _ _ h => h) (.inl ⟨rfl, ?ty6⟩) ?tr6
      case ty6 => (intro _ _; go_simp; try with_reducible rfl)
      case tr6 =>
      simp only [Act.put, List.setIfInBounds_toArray, List.set_cons_succ, List.set_cons_zero]
      refine w_pure 6 (v := _) rfl (by kernel_rfl) (by kernel_rfl) (by kernel_rfl) (fun _ _ _ h => h) (yieldsI_run rfl (fun w1 _ => exec_index (i := mn) rfl rfl rfl Try.underlying36 size_rule hml w1)) ?_
      simp only [Act.put, List.setIfInBounds_toArray, List.set_cons_succ, List.set_cons_zero]
      refine w_take 7 (v := _) rfl (by kernel_rfl) (by kernel_rfl) (by kernel_rfl) (by kernel_rfl) (by kernel_rfl) (fun _ _ _ h => h) (yieldsI_run rfl (fun w1 h => exec_load_at rfl rfl (hcy w1 h) agg_rule HYL.out)) hS0 ?_
      simp only [Act.put, List.setIfInBounds_toArray, List.set_cons_succ, List.set_cons_zero]
      refine w_pure 8 (v := ?tv7) rfl (by kernel_rfl) (by kernel_rfl) (by kernel_rfl) (fun _ _ _ h => h) (.inl ⟨rfl, ?ty7⟩) ?tr7
      case ty7 => (intro _ _; go_simp; try with_reducible rfl)
      case tr7 =>
      simp only [Act.put, List.setIfInBounds_toArray, List.set_cons_succ, List.set_cons_zero]
      refine w_pure 9 (v := ?tv8) rfl (by kernel_rfl) (by kernel_rfl) (by kernel_rfl) (fun _ _ _ h => h) (.inl ⟨rfl, ?ty8⟩) ?tr8
      case ty8 => (intro _ _; go_simp; try with_reducible rfl)
      case tr8 =>
      simp only [Act.put, List.setIfInBounds_toArray, List.set_cons_succ, List.set_cons_zero]
      refine w_pure 10 (v := _) rfl (by kernel_rfl) (by kernel_rfl) (by kernel_rfl) (fun _ _ _ h => h) (yieldsI_run rfl (fun w1 _ => exec_index (i := k) rfl rfl rfl Try.underlying36 size_rule hkl w1)) ?_
      simp only [Act.put, List.setIfInBounds_toArray, List.set_cons_succ, List.set_cons_zero]
      refine w_take 11 (v := _) rfl (by kernel_rfl) (by kernel_rfl) (by kernel_rfl) (by kernel_rfl) (by kernel_rfl) (fun _ _ _ h => h) (yieldsI_run rfl (fun w1 h => exec_load_at rfl rfl (hcx w1 h) agg_rule HXL.out)) hS0 ?_
      simp only [Act.put, List.setIfInBounds_toArray, List.set_cons_succ, List.set_cons_zero]
      refine w_pure 12 (v := _) rfl (by kernel_rfl) (by kernel_rfl) (by kernel_rfl) (fun _ _ _ h => h) (yieldsI_run rfl (fun w1 _ => exec_index (i := k) rfl rfl rfl Try.underlying36 size_rule hkl w1)) ?_
      simp only [Act.put, List.setIfInBounds_toArray, List.set_cons_succ, List.set_cons_zero]
      rw [addr_add, addr_add, Nat.zero_add, Nat.zero_add]
      have BG := hid (((HCC.out _).1 hS0).blk BW.out (by simp))
      have UG := hid (UW.out.drew)
      clear hS0
      generalize wr.drew = wG at *
      refine w_late (i := 13) (by kernel_rfl) rfl (by kernel_rfl) ?_
      intro Q' hQ
      go_wp2_with (refine wpl_store rfl 50 _ _ rfl (g := g) (off := k * 8) (xs := y.v) rfl rfl BG.out (by rw [HYL.out]; exact agg_rule) (by rw [HYL.out]; exact HA.out.1) HA.out.2.2.2 ?_)
      intro w1 b1 u1
      have B1 := hid b1
      have U1 := hid (UG.out.trans u1)
      clear b1 u1
      go_wp2_with fail
      refine hQ _ _ trivial ?_
      clear hQ Q'
      refine w_pure 14 (v := _) rfl (by kernel_rfl) (by kernel_rfl) (by kernel_rfl) (fun _ _ _ h => h) (yieldsI_run rfl (fun w1 _ => exec_index (i := mn) rfl rfl rfl Try.underlying36 size_rule hml w1)) ?_
      simp only [Act.put, List.setIfInBounds_toArray, List.set_cons_succ, List.set_cons_zero]
      rw [addr_add, Nat.zero_add]
      refine w_late (i := 15) (by kernel_rfl) rfl (by kernel_rfl) ?_
      intro Q' hQ
      go_wp2_with (refine wpl_store rfl 50 _ _ rfl (g := g) (off := mn * 8) (xs := x.v) rfl rfl B1.out (by rw [HXL.out]; exact agg_rule) (by rw [HXL.out]; exact HA.out.2.1) HA.out.2.2.1 ?_)
      intro w2 b2 u2
      rw [splice_rule y (by rw [HL.out]; omega), splice_rule x (by rw [List.length_set, HL.out]; omega)] at b2
      have B2 := hid b2
      have U2 := hid (U1.out.trans u2)
      clear b2 u2
      go_wp2_with fail
      refine hQ _ _ trivial ?_
      clear hQ Q'
      refine w_done (by kernel_rfl) ?_ _
      go_wp2
      go_roundw
      case rel => exact ⟨k + 1, (mn : Int) - 1, _, by go_num, rfl, by omega, by omega, (swap_perm es HX.out HY.out).trans HP.out, B2.out, U2.out⟩
      case measure => simp [intOf]; omega
    · go_wp2
      go_end0
      exact ⟨rfl, es, hp, hbw, hu⟩
end

section
open Go Go.RowKit

def sigD (d : DecR) : Bool × Bool × Int := (d.al, decide (d.ru < 0), d.nd)
def minO : Option Int → Int → Option Int
  | none, x => some x
  | some y, x => some (if x < y then x else y)
theorem minO_comm (o : Option Int) (x y : Int) : minO (minO o x) y = minO (minO o y) x := by
  cases o with
  | none => simp only [minO, Option.some.injEq]; repeat' split
            all_goals omega
  | some z => simp only [minO, Option.some.injEq]; repeat' split
              all_goals omega
def sigO : Option Int → Bool × Bool × Int
  | none => (false, true, 0)
  | some m => (true, false, m)
noncomputable def sigS (a : AskR) (rs : List RuleR) (b : Option Int) : Bool × Bool × Int :=
  if rs.any (fun r => meetsB r a && r.deny) then (false, false, 0) else sigO ((rs.filter fun r => meetsB r a).foldl (fun o r => minO o r.nd) b)
theorem sig_decF (a : AskR) : ∀ (rs : List RuleR) (i : Nat) (best : Option (Nat × RuleR)), sigD (decF a rs i best) = sigS a rs (best.map fun b => b.2.nd)
  | [], i, best => by
    unfold decF sigS
    cases best with
    | none => rfl
    | some b =>
      obtain ⟨b, r⟩ := b
      simp [bestDec, sigD, sigO]
      exact decide_eq_false (by omega)
  | r :: rs, i, best => by
    unfold decF
    cases hm : meetsB r a with
    | false =>
      simp only [Bool.false_eq_true, if_false]
      rw [sig_decF a rs (i + 1) best]
      unfold sigS
      rw [List.any_cons, hm, List.filter_cons_of_neg (by simp [hm])]
      simp
    | true =>
      simp only [if_true]
      cases hd : r.deny with
      | true =>
        simp only [if_true]
        unfold sigS
        rw [List.any_cons, hm, hd]
        simp [sigD, denyDec]
        exact decide_eq_false (by omega)
      | false =>
        simp only [Bool.false_eq_true, if_false]
        rw [sig_decF a rs (i + 1) _]
        unfold sigS
        rw [List.any_cons, hm, hd, List.filter_cons_of_pos (by simp [hm]), List.foldl_cons]
        have hb : Option.map (fun b => b.2.nd) (if betterB r best then some (i, r) else best) = minO (Option.map (fun b => b.2.nd) best) r.nd := by
          cases best with
          | none => rfl
          | some q =>
            obtain ⟨b, q⟩ := q
            unfold betterB
            by_cases hlt : r.nd < q.nd
            · simp [hlt, minO]
            · simp [hlt, minO]
        rw [hb]
        simp
theorem sigS_perm (a : AskR) {xs ys : List RuleR} (h : xs.Perm ys) (b : Option Int) : sigS a xs b = sigS a ys b := by
  unfold sigS
  have h1 : xs.any (fun r => meetsB r a && r.deny) = ys.any (fun r => meetsB r a && r.deny) := by
    rw [Bool.eq_iff_iff, List.any_eq_true, List.any_eq_true]
    exact ⟨fun ⟨x, hx, hp⟩ => ⟨x, h.mem_iff.1 hx, hp⟩, fun ⟨x, hx, hp⟩ => ⟨x, h.mem_iff.2 hx, hp⟩⟩
  rw [h1]
  have h2 := h.filter (fun r => meetsB r a)
  rw [h2.foldl_eq' (f := fun (o : Option Int) (r : RuleR) => minO o r.nd) (fun x _ y _ z => minO_comm z x.nd y.nd)]
theorem decide_perm (a : AskR) {xs ys : List RuleR} (h : xs.Perm ys) : sigD (decideD a xs) = sigD (decideD a ys) := by
  unfold decideD
  rw [sig_decF, sig_decF, sigS_perm a h]
theorem polE_perm {xs ys : List RuleR} (h : xs.Perm ys) {n : Nat} (hz : polE ys n = 0) : polE xs n = 0 := by
  unfold polE at hz ⊢
  by_cases h1 : (100 : Int) < (n : Int)
  · rw [if_pos h1] at hz; exact absurd hz (by decide)
  · rw [if_neg h1] at hz ⊢
    exact firstE_zero fun x hx => firstE_all hz x (h.mem_iff.1 hx)
end

section
open Go Go.RowKit

theorem run_dec_own {w : World} {B n : Nat} {v : Value} {ds : List RuleR} (h : w.ownsRow B 50 8 v n (rulesV ds)) (hn : 0 < n) :
    ∃ q c rest, v = .slice (some ⟨q, 0, none⟩) n c ∧ n ≤ c ∧ c ≤ maxLen ∧ B ≤ q ∧ Blk w q (rulesV ds ++ rest) 50 := by
  obtain ⟨_, ⟨_, h⟩ | ⟨g, cap, cur, rfl, hb, hg, h1, h2, h3, h4⟩⟩ := h
  · omega
  · refine ⟨g, cap, cur.toList.drop (n * 8), rfl, h1, h2, hb, ?_⟩
    unfold Blk
    rw [← h4, List.take_append_drop]
    simpa using hg
theorem built_pol (a : Option Addr) (n c : Nat) : Try.prog.built 38 [(0, .slice a n c)] = some #[.slice a n c] := by kernel_rfl
theorem turn_k (t : Int) (n : Nat) (hn : 0 < n) (hb : n ≤ 1000) : ∃ (A : Int) (k : Nat), t.tmod n = A ∧ IntKind.i64.wrap (A + n) = A + n ∧ (A + n).tmod n = (k : Int) ∧ k < n := by
  have h1 := Int.tmod_lt_of_pos t (show (0 : Int) < n by omega)
  have h2 : -(n : Int) < t.tmod n := by
    have := Int.lt_tmod_of_pos t (show (0 : Int) < n by omega)
    exact this
  have h3 := Int.tmod_lt_of_pos (t.tmod n + n) (show (0 : Int) < n by omega)
  have h4 := Int.tmod_nonneg (n : Int) (show 0 ≤ t.tmod n + n by omega)
  exact ⟨t.tmod n, ((t.tmod n + n).tmod n).toNat, rfl, IntWalk.i64_in _ (by omega), by omega, by omega⟩
theorem cells_low {w : World} {b o k : Nat} {rs : List RuleR} (h : Cells w (some ⟨b, o, none⟩) (rulesV rs)) (hk : k ≤ rs.length) : Cells w (some ⟨b, o + k * 8, none⟩) (rulesV (rs.drop k)) := by
  have he : rulesV rs = rulesV (rs.take k) ++ rulesV (rs.drop k) := by rw [← rulesV_append, List.take_append_drop]
  have hl : (rulesV (rs.take k)).length = k * 8 := by rw [rulesV_length, List.length_take]; omega
  rcases h with h | ⟨b', o', e, h⟩
  · rw [he] at h
    exact .inl (List.append_eq_nil_iff.1 h).2
  · cases e
    refine .inr ⟨b, o + k * 8, rfl, fun i u hu => ?_⟩
    rw [Nat.add_assoc]
    refine h _ _ ?_
    rw [he, List.getElem?_append_right (by omega), hl, Nat.add_sub_cancel_left]
    exact hu
theorem cells_high {w : World} {p : Option Addr} {k : Nat} {rs : List RuleR} (h : Cells w p (rulesV rs)) : Cells w p (rulesV (rs.take k)) := by
  have he : rulesV rs = rulesV (rs.take k) ++ rulesV (rs.drop k) := by rw [← rulesV_append, List.take_append_drop]
  rcases h with h | ⟨b', o', e, h⟩
  · rw [he] at h
    exact .inl (List.append_eq_nil_iff.1 h).1
  · refine .inr ⟨b', o', e, fun i u hu => h _ _ ?_⟩
    rw [he, List.getElem?_append_left (List.getElem?_eq_some_iff.1 hu).1]
    exact hu

set_option maxRecDepth 100000 in
set_option maxHeartbeats 4000000 in
theorem orderMeansLittle_c (pa : Option Addr) (pn pc : Nat) (rs : List RuleR) (a : AskR) (tn : Int) (w : World) (hp : PolOk w pa pn pc rs) (ha : a.Ok w) :
    Calls Try.prog 5 #[.agg #[.slice pa pn pc], .agg a.v.toArray, .int .i64 tn] w fun e w' => e = .returned (.bool true) ∧ Ext w w' := by
  have hde := hid (fun (pa : Option Addr) (pc : Nat) (rs : List RuleR) w' h1 h2 => pDecide_c pa pn pc rs a w' h1 h2)
  have HPO := hid hp
  have HAO := hid ha
  have HLEN := hid (AskR.len ha)
  have hn63 : pn ≤ 140737488355328 := hp.hm
  clear hp ha
  go_enter Try.func5, Try.ntmps5
  go_upto_region 1 with (fail)
  generalize hwA : World.alloc (World.alloc w _) _ = wA
  have bA : Blk wA w.heap.size [.slice pa pn pc] 38 := by rw [← hwA]; exact (Blk.mk_alloc rfl rfl).alloc _
  have gA : Blk wA (w.heap.size + 1) a.v 42 := by rw [← hwA]; exact Blk.mk_alloc (by simp) rfl
  have eA : Ext w wA := by rw [← hwA]; exact ((Ext.refl w).alloc _).alloc _
  have BA := hid bA
  have GA := hid gA
  have EA := hid eA
  have PA := hid (HPO.out.ext eA)
  have QA := hid (HAO.out.ext eA)
  clear hwA bA gA eA HPO HAO
  go_wp2_with fail
  refine (landed_c wA).mono ?_
  rintro e wB ⟨rfl, eB⟩
  have BB := hid (BA.out.ext eB)
  have GB := hid (GA.out.ext eB)
  have EB := hid (EA.out.ext eB)
  have PB := hid (PA.out.ext eB)
  have QB := hid (QA.out.ext eB)
  clear eB BA GA EA PA QA
  have c0 := BB.out.cell' (i := 0) rfl
  go_wp2_with (first | (refine wpl_loadw rfl 42 (.tmp 4) rfl rfl GB.out agg_ask HLEN.out ?_) | (refine wpl_loadw rfl 38 (.tmp 3) rfl rfl BB.out agg_pol rfl ?_))
  refine (hde.out pa pc rs wB PB.out QB.out).mono ?_
  rintro e wC ⟨rfl, eC⟩
  have BC := hid (BB.out.ext eC)
  have GC := hid (GB.out.ext eC)
  have EC := hid (EB.out.ext eC)
  have PC := hid (PB.out.ext eC)
  have QC := hid (QB.out.ext eC)
  clear eC BB GB EB PB QB
  clear c0
  obtain ⟨D, hD⟩ : ∃ D, pDecD rs pn a = D := ⟨_, rfl⟩
  obtain ⟨F, hF⟩ : ∃ F, pDecE rs pn a = F := ⟨_, rfl⟩
  rw [hD, hF]
  have HD := hid hD
  have HF := hid hF
  clear hD hF
  have hDl := hid (DecR.len D)
  have hDo := decV_one D
  go_wp2_with (refine wpl_storew rfl _ (.tmp 7) _ rfl rfl rfl (Blk.mk_alloc (vs := zeroDec.v) rfl rfl) agg_dec rfl hDl.out hDo ?_)
  intro wD bD uD
  have eD : Ext wC wD := uD.ext ((Ext.refl wC).alloc _) (Nat.le_refl _)
  have ND := hid bD
  have hgd : wC.heap.size < wD.heap.size := bD.lt
  clear uD bD
  have BD := hid (BC.out.ext eD)
  have GD := hid (GC.out.ext eD)
  have ED := hid (EC.out.ext eD)
  have PD := hid (PC.out.ext eD)
  have QD := hid (QC.out.ext eD)
  clear eD BC GC EC PC QC
  generalize wC.heap.size = gd at *
  have c0 := BD.out.cell' (i := 0) rfl
  by_cases hF0 : F = 0
  case neg =>
    have q1 : (F == 0) = false := by simp [hF0]
    have q2 : decide (F = 0) = false := decide_eq_false hF0
    have q3 : (F != 0) = true := by simp [hF0]
    clear HD HF hde
    go_wp2
    go_ret
    exact ⟨rfl, ED.out⟩
  subst hF0
  by_cases hn0 : pn = 0
  · subst hn0
    clear HD HF hde
    go_wp2
    go_ret
    exact ⟨rfl, ED.out⟩
  have hpE : polE rs pn = 0 := by
    have := HF.out
    unfold pDecE at this
    by_cases h : polE rs pn = 0
    · exact h
    · rw [if_neg h] at this; exact absurd this h
  have haE : askE a = 0 := by
    have := HF.out
    unfold pDecE at this
    rwa [if_pos hpE] at this
  have hn100 : pn ≤ 100 := by
    unfold polE at hpE
    by_cases h : (100 : Int) < (pn : Int)
    · rw [if_pos h] at hpE; exact absurd hpE (by decide)
    · omega
  have hDD : decideD a rs = D := by rw [← HD.out]; unfold pDecD; rw [if_pos hpE, if_pos haE]
  obtain ⟨A, k, t1, t2, t3, hk⟩ := turn_k tn pn (by omega) (by omega)
  obtain ⟨b, o, rfl, _⟩ := PD.out.cell.some_of (by rw [rulesV_length, PD.out.hl]; omega)
  have hq0 : decide (pn = 0) = false := decide_eq_false hn0
  have hq1 : ((pn : Int) == 0) = false := by simp; omega
  have HPE := hid hpE
  have HAE := hid haE
  have HDD := hid hDD
  have hkc : k ≤ pc := by have := PD.out.hnc; omega
  have hkn : k ≤ pn := by omega
  have hshift : shiftz (some ⟨b, o, none⟩) pc k 8 = some ⟨b, o + k * 8, none⟩ := by
    unfold shiftz
    rw [if_neg (by have := PD.out.hnc; omega), Option.map_some, addr_add]
  have HSH := hid hshift
  clear hpE haE hDD HD HF hshift
  go_wp2_with fail
  obtain ⟨C, hC⟩ : ∃ C : World → Prop, C = fun w' => Ext wD w' := ⟨_, rfl⟩
  have hC0 : ∀ w', C w' ↔ Ext wD w' := fun w' => by rw [hC]
  clear hC
  have HCC := hid hC0
  clear hC0
  have hCx : ∀ w w', C w → Ext w w' → C w' := fun w w' h1 h2 => (HCC.out w').2 (((HCC.out w).1 h1).ext h2)
  have hc0 : ∀ w1, C w1 → w1.cell? ⟨w.heap.size, 0, none⟩ = some (.slice (some ⟨b, o, none⟩) pn pc) := fun w1 h1 => (BD.out.ext ((HCC.out w1).1 h1)).cell' rfl
  refine wp_region_held_drew (S := C) (by kernel_rfl) ((HCC.out _).2 (Ext.refl wD).drew) (fun hS0 => ?_)
  refine held_take 0 (v := ?tv1) rfl (by kernel_rfl) (by kernel_rfl) (by kernel_rfl) (fun _ _ _ h => h) (.inl ⟨rfl, ?ty1⟩) hS0 ?tr1
  case ty1 => (intro _ _; go_simp; try with_reducible rfl)
  case tr1 =>
  simp only [Act.put, List.setIfInBounds_toArray, List.set_cons_succ, List.set_cons_zero]
  refine held_take 1 (v := ?tv2) rfl (by kernel_rfl) (by kernel_rfl) (by kernel_rfl) (fun _ _ _ h => h) (.inl ⟨rfl, ?ty2⟩) hS0 ?tr2
  case ty2 => (intro _ _; go_simp; try with_reducible rfl)
  case tr2 =>
  simp only [Act.put, List.setIfInBounds_toArray, List.set_cons_succ, List.set_cons_zero]
  refine held_take 2 (v := ?tv3) rfl (by kernel_rfl) (by kernel_rfl) (by kernel_rfl) (fun _ _ _ h => h) (.inl ⟨rfl, ?ty3⟩) hS0 ?tr3
  case ty3 => (intro wq hwq; have hcq := (hc0) wq hwq; go_simp; try with_reducible rfl)
  case tr3 =>
  simp only [Act.put, List.setIfInBounds_toArray, List.set_cons_succ, List.set_cons_zero]
  refine held_take 3 (v := ?tv4) rfl (by kernel_rfl) (by kernel_rfl) (by kernel_rfl) (fun _ _ _ h => h) (.inl ⟨rfl, ?ty4⟩) hS0 ?tr4
  case ty4 => (intro _ _; go_simp; try with_reducible rfl)
  case tr4 =>
  simp only [Act.put, List.setIfInBounds_toArray, List.set_cons_succ, List.set_cons_zero]
  refine held_take 4 (v := ?tv5) rfl (by kernel_rfl) (by kernel_rfl) (by kernel_rfl) (fun _ _ _ h => h) (.inl ⟨rfl, ?ty5⟩) hS0 ?tr5
  case ty5 => (intro _ _; go_simp; try with_reducible rfl)
  case tr5 =>
  simp only [Act.put, List.setIfInBounds_toArray, List.set_cons_succ, List.set_cons_zero]
  refine held_take 5 (v := ?tv6) rfl (by kernel_rfl) (by kernel_rfl) (by kernel_rfl) (fun _ _ _ h => h) (.inl ⟨rfl, ?ty6⟩) hS0 ?tr6
  case ty6 => (intro _ _; go_simp; try with_reducible rfl)
  case tr6 =>
  simp only [Act.put, List.setIfInBounds_toArray, List.set_cons_succ, List.set_cons_zero]
  refine held_take 6 (v := ?tv7) rfl (by kernel_rfl) (by kernel_rfl) (by kernel_rfl) (fun _ _ _ h => h) (.inl ⟨rfl, ?ty7⟩) hS0 ?tr7
  case ty7 => (intro wq hwq; have hcq := (hc0) wq hwq; go_simp; try with_reducible rfl)
  case tr7 =>
  simp only [Act.put, List.setIfInBounds_toArray, List.set_cons_succ, List.set_cons_zero]
  refine held_take 7 (v := ?tv8) rfl (by kernel_rfl) (by kernel_rfl) (by kernel_rfl) (fun _ _ _ h => h) (.inl ⟨rfl, ?ty8⟩) hS0 ?tr8
  case ty8 => (intro _ _; go_simp; try with_reducible rfl)
  case tr8 =>
  simp only [Act.put, List.setIfInBounds_toArray, List.set_cons_succ, List.set_cons_zero]
  refine held_take 8 (v := ?tv9) rfl (by kernel_rfl) (by kernel_rfl) (by kernel_rfl) (fun _ _ _ h => h) (.inl ⟨rfl, ?ty9⟩) hS0 ?tr9
  case ty9 => (intro _ _; go_simp; try with_reducible rfl)
  case tr9 =>
  simp only [Act.put, List.setIfInBounds_toArray, List.set_cons_succ, List.set_cons_zero]
  refine held_take 9 (v := ?tv10) rfl (by kernel_rfl) (by kernel_rfl) (by kernel_rfl) (fun _ _ _ h => h) (.inl ⟨rfl, ?ty10⟩) hS0 ?tr10
  case ty10 => (intro _ _; go_simp; try with_reducible rfl)
  case tr10 =>
  simp only [Act.put, List.setIfInBounds_toArray, List.set_cons_succ, List.set_cons_zero]
  refine held_take 10 (v := ?tv11) rfl (by kernel_rfl) (by kernel_rfl) (by kernel_rfl) (fun _ _ _ h => h) (.inl ⟨rfl, ?ty11⟩) hS0 ?tr11
  case ty11 => (intro wq hwq; have hcq := (hc0) wq hwq; go_simp; try with_reducible rfl)
  case tr11 =>
  simp only [Act.put, List.setIfInBounds_toArray, List.set_cons_succ, List.set_cons_zero]
  refine held_take 11 (v := ?tv12) rfl (by kernel_rfl) (by kernel_rfl) (by kernel_rfl) (fun _ _ _ h => h) (.inl ⟨rfl, ?ty12⟩) hS0 ?tr12
  case ty12 => (intro _ _; go_simp; try with_reducible rfl)
  case tr12 =>
  simp only [Act.put, List.setIfInBounds_toArray, List.set_cons_succ, List.set_cons_zero]
  refine held_take 12 (v := ?tv13) rfl (by kernel_rfl) (by kernel_rfl) (by kernel_rfl) (fun _ _ _ h => h) (.inl ⟨rfl, ?ty13⟩) hS0 ?tr13
  case ty13 => (intro _ _; go_simp; try with_reducible rfl)
  case tr13 =>
  simp only [Act.put, List.setIfInBounds_toArray, List.set_cons_succ, List.set_cons_zero]
  refine held_take 13 (v := ?tv14) rfl (by kernel_rfl) (by kernel_rfl) (by kernel_rfl) (fun _ _ _ h => h) (.inl ⟨rfl, ?ty14⟩) hS0 ?tr14
  case ty14 => (intro _ _; go_simp; try with_reducible rfl)
  case tr14 =>
  simp only [Act.put, List.setIfInBounds_toArray, List.set_cons_succ, List.set_cons_zero]
  refine wpAnyH_done (by kernel_rfl) ?_ _
  have eE := (HCC.out _).1 hS0
  clear hS0 hCx HCC hc0 C c0
  generalize wD.drew = wE at *
  have BE := hid (BD.out.ext eE)
  have GE := hid (GD.out.ext eE)
  have EE := hid (ED.out.ext eE)
  have PE := hid (PD.out.ext eE)
  have QE := hid (QD.out.ext eE)
  have NE := hid (ND.out.ext eE)
  clear eE BD GD ED PD QD ND
  have hwE : w.heap.size + 2 ≤ wE.heap.size := by have := BE.out.lt; have := GE.out.lt; omega
  clear t1 t2 t3
  go_wp2_with fail
  obtain ⟨C, hC⟩ : ∃ C : World → Prop, C = fun w' => Ext wE w' := ⟨_, rfl⟩
  have hC0 : ∀ w', C w' ↔ Ext wE w' := fun w' => by rw [hC]
  clear hC
  have HCC := hid hC0
  clear hC0
  have hCx : ∀ w w', C w → Ext w w' → C w' := fun w w' h1 h2 => (HCC.out w').2 (((HCC.out w).1 h1).ext h2)
  have hc0 : ∀ w1, C w1 → w1.cell? ⟨w.heap.size, 0, none⟩ = some (.slice (some ⟨b, o, none⟩) pn pc) := fun w1 h1 => (BE.out.ext ((HCC.out w1).1 h1)).cell' rfl
  refine wp_region_held_drew (S := C) (by kernel_rfl) ((HCC.out _).2 (Ext.refl wE).drew) (fun hS0 => ?_)
  refine held_take 0 (v := ?tv15) rfl (by kernel_rfl) (by kernel_rfl) (by kernel_rfl) (fun _ _ _ h => h) (.inl ⟨rfl, ?ty15⟩) hS0 ?tr15
  case ty15 => (intro _ _; go_simp; try with_reducible rfl)
  case tr15 =>
  simp only [Act.put, List.setIfInBounds_toArray, List.set_cons_succ, List.set_cons_zero]
  refine held_take 1 (v := ?tv16) rfl (by kernel_rfl) (by kernel_rfl) (by kernel_rfl) (fun _ _ _ h => h) (.inl ⟨rfl, ?ty16⟩) hS0 ?tr16
  case ty16 => (intro wq hwq; have hcq := (hc0) wq hwq; go_simp; try with_reducible rfl)
  case tr16 =>
  simp only [Act.put, List.setIfInBounds_toArray, List.set_cons_succ, List.set_cons_zero]
  refine held_take 2 (v := ?tv17) rfl (by kernel_rfl) (by kernel_rfl) (by kernel_rfl) (fun _ _ _ h => h) (.inl ⟨rfl, ?ty17⟩) hS0 ?tr17
  case ty17 => (intro _ _; go_simp; try with_reducible rfl)
  case tr17 =>
  simp only [Act.put, List.setIfInBounds_toArray, List.set_cons_succ, List.set_cons_zero]
  refine held_take 3 (v := _) rfl (by kernel_rfl) (by kernel_rfl) (by kernel_rfl) (fun _ _ _ h => h) (yieldsI_run rfl (fun w1 _ => exec_low (k := k) rfl rfl rfl Try.underlying36 size_rule hkn w1)) hS0 ?_
  simp only [Act.put, List.setIfInBounds_toArray, List.set_cons_succ, List.set_cons_zero]
  rw [HSH.out]
  refine held_take 4 (v := ?tv18) rfl (by kernel_rfl) (by kernel_rfl) (by kernel_rfl) (fun _ _ _ h => h) (.inl ⟨rfl, ?ty18⟩) hS0 ?tr18
  case ty18 => (intro _ _; go_simp; try with_reducible rfl)
  case tr18 =>
  simp only [Act.put, List.setIfInBounds_toArray, List.set_cons_succ, List.set_cons_zero]
  refine held_take 5 (v := ?tv19) rfl (by kernel_rfl) (by kernel_rfl) (by kernel_rfl) (fun _ _ _ h => h) (.inl ⟨rfl, ?ty19⟩) hS0 ?tr19
  case ty19 => (intro wq hwq; have hcq := (hc0) wq hwq; go_simp; try with_reducible rfl)
  case tr19 =>
  simp only [Act.put, List.setIfInBounds_toArray, List.set_cons_succ, List.set_cons_zero]
  refine held_take 6 (v := ?tv20) rfl (by kernel_rfl) (by kernel_rfl) (by kernel_rfl) (fun _ _ _ h => h) (.inl ⟨rfl, ?ty20⟩) hS0 ?tr20
  case ty20 => (intro _ _; go_simp; try with_reducible rfl)
  case tr20 =>
  simp only [Act.put, List.setIfInBounds_toArray, List.set_cons_succ, List.set_cons_zero]
  refine held_take 7 (v := _) rfl (by kernel_rfl) (by kernel_rfl) (by kernel_rfl) (fun _ _ _ h => h) (yieldsI_run rfl (fun w1 _ => exec_high (k := k) rfl rfl rfl Try.underlying36 size_rule hkc w1)) hS0 ?_
  simp only [Act.put, List.setIfInBounds_toArray, List.set_cons_succ, List.set_cons_zero]
  obtain ⟨ds, hds⟩ : ∃ ds, rs.drop k ++ rs.take k = ds := ⟨_, rfl⟩
  have hdl : ds.length = pn := by rw [← hds, List.length_append, List.length_drop, List.length_take, PE.out.hl]; omega
  have hdp : ds.Perm rs := by rw [← hds]; exact List.perm_append_comm.trans (by rw [List.take_append_drop])
  have HDS := hid hds
  have HDL := hid hdl
  have HDP := hid hdp
  have hl1 : (rs.drop k).length = pn - k := by rw [List.length_drop, PE.out.hl]
  have hl2 : (rs.take k).length = k := by rw [List.length_take, PE.out.hl]; omega
  have HL1 := hid hl1
  have HL2 := hid hl2
  clear hds hdl hdp hl1 hl2
  refine Fl_start (B := World.heap wE |>.size) (A := 11) (d := 10) (T := 38) (vs := [.slice none 0 0]) (D := C) undef rfl hCx (fun _ h => h) (fun _ h => ((HCC.out _).1 h).size) hS0 ?_
  try dsimp only
  simp only [Act.put, List.setIfInBounds_toArray, List.set_cons_succ, List.set_cons_zero]
  refine Fl_step 8 (β := Nat) (fun g => .slice (some ⟨g, 0, none⟩) 2 2) (fun g w' => Blk w' g [.slice (some ⟨b, o + k * 8, none⟩) (pn - k) (pc - k), .slice (some ⟨b, o, none⟩) k pc] 36) rfl rfl rfl rfl (fun _ _ => rfl) (by kernel_rfl) (by kernel_rfl) (by kernel_rfl) rfl (fun _ _ => by simp only [Act.put, List.setIfInBounds_toArray, List.set_cons_succ, List.set_cons_zero]) ?phi8 ?step8 ?rest8
  case phi8 => exact fun _ _ _ h he => h.ext he
  case step8 =>
    intro x w1 hD Q' hQ
    go_wp2_with fail
    exact hQ w1.heap.size _ ((Ext.refl w1).alloc _) (Blk.mk_alloc rfl rfl)
  case rest8 =>
  intro g
  try dsimp only
  try simp only [Act.put, List.setIfInBounds_toArray, List.set_cons_succ, List.set_cons_zero]
  refine Fl_step 9 (β := Nat × Nat × List Value) (fun z => .slice (some ⟨z.1, 0, none⟩) pn z.2.1) (fun z w' => wE.heap.size ≤ z.1 ∧ pn ≤ z.2.1 ∧ Blk w' z.1 (rulesV ds ++ z.2.2) 50) rfl rfl rfl rfl (fun _ _ => rfl) (by kernel_rfl) (by kernel_rfl) (by kernel_rfl) rfl (fun _ _ => by simp only [Act.put, List.setIfInBounds_toArray, List.set_cons_succ, List.set_cons_zero]) ?phi9 ?step9 ?rest9
  case phi9 => exact fun _ _ _ h he => ⟨h.1, h.2.1, h.2.2.ext he⟩
  case step9 =>
    rintro x0 w1 ⟨hC1, hb⟩ Q' hQ
    have e1 := (HCC.out w1).1 hC1
    have HB := hid hb
    have HE := hid e1
    have HP1 := hid (PE.out.ext e1)
    clear hb e1 hC1
    go_wp2_with fail
    have hcat : catR [(some (⟨b, o + k * 8, none⟩ : Addr), pc - k, rs.drop k), (some (⟨b, o, none⟩ : Addr), pc, rs.take k)] = ds := by rw [← HDS.out]; simp [catR]
    refine (concatR_c [(some ⟨b, o + k * 8, none⟩, pc - k, rs.drop k), (some ⟨b, o, none⟩, pc, rs.take k)] g 2 2 w1 rfl (by omega) (by omega) ?hg ?hc ?hn ?hl).mono ?_
    case hg =>
      intro i it hit
      match i, hit with
      | 0, hit => cases hit; rw [itemR]; simp only; rw [HL1.out]; exact HB.out.cell' rfl
      | 1, hit => cases hit; rw [itemR]; simp only; rw [HL2.out]; exact HB.out.cell' rfl
    case hc =>
      intro it hit
      simp only [List.mem_cons, List.not_mem_nil, or_false] at hit
      rcases hit with rfl | rfl
      · exact cells_low HP1.out.cell (by rw [HP1.out.hl]; omega)
      · exact cells_high HP1.out.cell
    case hn =>
      intro it hit
      simp only [List.mem_cons, List.not_mem_nil, or_false] at hit
      rcases hit with rfl | rfl <;> (intro h; cases h)
    case hl => rw [hcat, HDL.out]; omega
    rintro e w2 ⟨v, rfl, own, e2⟩
    rw [hcat, HDL.out] at own
    obtain ⟨q, c, rest, rfl, h1, h2, h3, h4⟩ := run_dec_own own (by omega)
    have h5 : wE.heap.size ≤ q := Nat.le_trans HE.out.size h3
    go_wp2_with fail
    exact hQ (q, c, rest) w2 e2 ⟨h5, h1, h4⟩
  case rest9 =>
  rintro ⟨q, c, rest⟩
  try dsimp only
  try simp only [Act.put, List.setIfInBounds_toArray, List.set_cons_succ, List.set_cons_zero]
  have hbp := built_pol (some ⟨q, 0, none⟩) pn c
  refine Fl_take 10 (v := ?tv21) rfl (by kernel_rfl) (by kernel_rfl) (by kernel_rfl) (by kernel_rfl) (by kernel_rfl) rfl (fun _ _ _ h => h) (fun _ => .inl ⟨rfl, ?ty21⟩) ?tr21
  case ty21 => (intro _ _; go_simp; try with_reducible rfl)
  case tr21 =>
  try dsimp only
  simp only [Act.put, List.setIfInBounds_toArray, List.set_cons_succ, List.set_cons_zero]
  refine Fl_end rfl rfl rfl (fun _ _ => rfl) (by kernel_rfl) (fun _ _ => by simp only [Act.put, List.setIfInBounds_toArray, List.set_cons_succ, List.set_cons_zero]) ?_
  rintro gp w3 ⟨⟨hC3, _⟩, hqE, hq2, hq3⟩ lb hb
  have HB := hid hb
  have E3 := hid ((HCC.out w3).1 hC3)
  have HQ3 := hid hq3
  have hqp : q ≠ gp := by
    rintro rfl
    have h1 := hb
    have h2 := hq3
    unfold Blk at h1 h2
    rw [h1] at h2
    simp at h2
  clear hb hC3 hq3
  refine held_one (i := 12) (by kernel_rfl) rfl ?_
  intro Q' hQ
  go_wp2_with (refine wpl_storew rfl _ _ _ rfl rfl rfl HB.out agg_pol rfl rfl (by simp [Value.oneCell']) ?_)
  intro w4 b4 u4
  have e4 := u4.ext E3.out lb
  have HQ4 := hid (HQ3.out.upd u4 hqp)
  have B4 := hid b4
  go_wp2_with fail
  refine hQ _ _ ((HCC.out w4).2 e4) ?_
  clear hQ Q' HB E3 HQ3 u4 b4
  refine wpAnyH_done (by kernel_rfl) ?_ _
  clear hS0 hCx HCC hc0 C
  have hgdE : gd < wE.heap.size := NE.out.lt
  have X4 := hid e4
  have c4 : w4.cell? ⟨gp, 0, none⟩ = some (.slice (some ⟨q, 0, none⟩) pn c) := B4.out.cell' rfl
  clear e4 hbp
  have hquo : (pn : Int).tdiv 2 = ((pn / 2 : Nat) : Int) := by rw [Int.tdiv_eq_ediv_of_nonneg (by omega)]; omega
  have hquo2 : IntKind.i64.wrap ((pn / 2 : Nat) : Int) = ((pn / 2 : Nat) : Int) := IntWalk.i64_in _ (by omega)
  obtain ⟨H, hH⟩ : ∃ H, pn / 2 = H := ⟨_, rfl⟩
  have hHn : H ≤ pn := by omega
  have hHc : H ≤ c := by omega
  rw [hH] at hquo hquo2
  clear hH hq0 hq1
  unfold ptrAt
  go_wp2_with (refine wpl_run rfl (exec_high (k := H) rfl rfl rfl Try.underlying36 size_rule hHc _) ?_)
  refine (reverseR_c ds rest q H c _ w4 (by rw [HDL.out]; exact hHn) (by rw [HDL.out]; omega) HQ4.out).mono ?_
  rintro e w5 ⟨rfl, es, hes, q5, u5⟩
  have hep : es.Perm rs := hes.trans HDP.out
  have e5 : Ext wE w5 := u5.ext X4.out hqE
  have BP := hid (B4.out.upd u5 (Ne.symm hqp))
  have PR : Hid (PolOk w5 (some ⟨q, 0, none⟩) pn c es) := hid ⟨by rw [hep.length_eq, PE.out.hl], hq2, hn63, .inr ⟨q, 0, rfl, fun i u hu => by
      rw [Nat.zero_add]
      refine q5.cell' ?_
      rw [List.getElem?_append_left (List.getElem?_eq_some_iff.1 hu).1]; exact hu⟩, fun r hr => (PE.out.ok r (hep.mem_iff.1 hr)).ext e5⟩
  have hsig := hid (decide_perm a hep)
  have hpz := hid (polE_perm hep HPE.out)
  clear hes hep q5 u5 X4 B4 HQ4
  have B5 := hid (BE.out.ext e5)
  have G5 := hid (GE.out.ext e5)
  have E5 := hid (EE.out.ext e5)
  have P5 := hid (PE.out.ext e5)
  have Q5 := hid (QE.out.ext e5)
  have N5 := hid (NE.out.ext e5)
  clear e5 BE GE EE PE QE NE
  clear hquo hquo2 c4 hHn hHc
  go_wp2_with (first | (refine wpl_loadw rfl 42 (.tmp 4) rfl rfl G5.out agg_ask HLEN.out ?_) | (refine wpl_loadw rfl 38 (.tmp 10) rfl rfl BP.out agg_pol rfl ?_))
  refine (hde.out _ _ es w5 PR.out Q5.out).mono ?_
  rintro e w6 ⟨rfl, e6⟩
  have hE6 : pDecE es pn a = 0 := by unfold pDecE; rw [if_pos hpz.out]; exact HAE.out
  have hD6 : pDecD es pn a = decideD a es := by unfold pDecD; rw [if_pos hpz.out, if_pos HAE.out]
  obtain ⟨D6, hD6x⟩ : ∃ D6, decideD a es = D6 := ⟨_, rfl⟩
  have hs6 := hsig.out
  rw [hD6x, HDD.out] at hs6
  rw [hE6, hD6, hD6x]
  clear hE6 hD6 hD6x hsig hpz HDD HPE HAE PR BP hde
  have B6 := hid (B5.out.ext e6)
  have G6 := hid (G5.out.ext e6)
  have E6 := hid (E5.out.ext e6)
  have P6 := hid (P5.out.ext e6)
  have Q6 := hid (Q5.out.ext e6)
  have N6 := hid (N5.out.ext e6)
  clear e6 B5 G5 E5 P5 Q5 N5
  have hDl6 := hid (DecR.len D6)
  have hDo6 := decV_one D6
  go_wp2_with (refine wpl_storew rfl _ (.tmp 11) _ rfl rfl rfl (Blk.mk_alloc (vs := zeroDec.v) rfl rfl) agg_dec rfl hDl6.out hDo6 ?_)
  intro w7 b7 u7
  have e7 : Ext w6 w7 := u7.ext ((Ext.refl w6).alloc _) (Nat.le_refl _)
  have M7 := hid b7
  clear u7 b7
  have B7 := hid (B6.out.ext e7)
  have G7 := hid (G6.out.ext e7)
  have E7 := hid (E6.out.ext e7)
  have P7 := hid (P6.out.ext e7)
  have Q7 := hid (Q6.out.ext e7)
  have N7 := hid (N6.out.ext e7)
  clear e7 B6 G6 E6 P6 Q6 N6
  generalize w6.heap.size = gd6 at *
  simp only [sigD, Prod.mk.injEq] at hs6
  obtain ⟨s1, s2, s3⟩ := hs6
  have c70 : w7.cell? ⟨gd, 0, none⟩ = some (.bool D.al) := N7.out.cell' rfl
  have c71 : w7.cell? ⟨gd, 1, none⟩ = some (.int .i64 D.ru) := N7.out.cell' rfl
  have c72 : w7.cell? ⟨gd, 2, none⟩ = some (.int .i64 D.nd) := N7.out.cell' rfl
  have c60 : w7.cell? ⟨gd6, 0, none⟩ = some (.bool D.al) := by rw [← s1]; exact M7.out.cell' rfl
  have c61 : w7.cell? ⟨gd6, 1, none⟩ = some (.int .i64 D6.ru) := M7.out.cell' rfl
  have c62 : w7.cell? ⟨gd6, 2, none⟩ = some (.int .i64 D.nd) := by rw [← s3]; exact M7.out.cell' rfl
  obtain ⟨RU, hru⟩ : ∃ RU, D.ru = RU := ⟨_, rfl⟩
  obtain ⟨RU6, hru6⟩ : ∃ RU6, D6.ru = RU6 := ⟨_, rfl⟩
  obtain ⟨AL, hal⟩ : ∃ AL, D.al = AL := ⟨_, rfl⟩
  obtain ⟨NX, hnx⟩ : ∃ NX, D.nd = NX := ⟨_, rfl⟩
  rw [hru] at s2 c71
  rw [hru6] at s2 c61
  rw [hal] at c70 c60
  rw [hnx] at c72 c62
  clear s1 s3 hru hru6 hal hnx hDl hDo hDl6 hDo6 M7
  by_cases hr : RU < 0
  · have hr6 : RU6 < 0 := by simpa [hr] using s2
    have k1 : decide (RU < 0) = true := decide_eq_true hr
    have k2 : decide (RU6 < 0) = true := decide_eq_true hr6
    clear s2
    go_wp2
    go_ret
    exact ⟨by first | rfl | simp, E7.out⟩
  · have hr6 : ¬ RU6 < 0 := by simpa [hr] using s2
    have k1 : decide (RU < 0) = false := decide_eq_false hr
    have k2 : decide (RU6 < 0) = false := decide_eq_false hr6
    clear s2
    go_wp2
    go_ret
    exact ⟨by first | rfl | simp, E7.out⟩
end

section
open Go Go.RowKit Go.ChangeShapes Go.WideShapes Go.ChangeAt

theorem u8_of {n : Int} (h : (Lit.int .u8 n).wf = true) : ∃ x : UInt8, Value.int .u8 n = u8v x := by
  have hb := bounds_u8 h
  refine ⟨UInt8.ofNat n.toNat, ?_⟩
  unfold u8v
  congr 1
  rw [UInt8.toNat_ofNat']
  omega

theorem u8s_of : ∀ (vs : List Value), (∀ (i : Nat) (v : Value), vs[i]? = some v → ∃ x : UInt8, v = u8v x) → ∃ l : List UInt8, vs = l.map u8v
  | [], _ => ⟨[], rfl⟩
  | v :: vs, h => by
    obtain ⟨x, hx⟩ := h 0 v rfl
    obtain ⟨l, hl⟩ := u8s_of vs fun i u hu => h (i + 1) u (by simpa using hu)
    exact ⟨x :: l, by rw [hx, hl]; rfl⟩

section
variable {H : Type} {enc : TypeId × Value → H} {P : Program} {w : World}
/-- an array of octets -/
theorem open_octets {r : Reach} {b0 base : Nat} {sp : Nat → Bool} {held : Bool} {t e : TypeId} {n : Nat} {v : Value} {d : DataW H} {ps : List MemPlace} (ht : P.underlying t = some (.array n e)) (he : P.underlying e = some (.int .u8)) (hce : P.cellsOf e = 1) (hct : P.cellsOf t = n)
    (hval : Value.okWide P w r b0 t v) (hd : DataW.Trod enc P w base sp held t v d ps) : ∃ l : List UInt8, l.length = n ∧ v = .agg (l.map u8v).toArray := by
  unfold Value.okWide at hval
  rw [ht] at hval
  obtain ⟨cs, rfl, hs, _⟩ := hval
  obtain ⟨fuel, hf⟩ := hd
  obtain ⟨xs, m, _, _, hlen, hxl, hel⟩ := DataW.trod_array ht hf
  have hcl : cs.toList.length = n := by rw [Array.length_toList, hs, hct]
  obtain ⟨l, hl⟩ := u8s_of cs.toList fun i u hu => by
    have hi : i < n := by
      have := (List.getElem?_eq_some_iff.1 hu).1
      omega
    have h1 := hel i hi
    rw [hce, Nat.mul_one] at h1
    have hx : xs[i]? = some xs[i] := by simp
    have h2 : (cs.toList.drop i).take 1 = [u] := by
      have h3 := List.getElem?_drop (xs := cs.toList) (i := i) (j := 0)
      rw [Nat.add_zero, hu] at h3
      cases hd : cs.toList.drop i with
      | nil => rw [hd] at h3; simp at h3
      | cons y r => rw [hd] at h3; simp at h3; simp [h3]
    have h4 : DataW.trod enc P w base sp held m e [u] = some xs[i] := by
      rw [← h2, ← hx]; exact h1
    obtain ⟨k, hk, _, hw⟩ := DataW.trod_int he h4
    have hu' : u = .int .u8 k := by simpa using hk
    rw [hu']; exact u8_of hw
  refine ⟨l, ?_, ?_⟩
  · have := congrArg List.length hl
    rw [hcl, List.length_map] at this; exact this.symm
  · rw [← hl]
end
end

section
open Go Go.RowKit Go.ChangeShapes Go.WideShapes Go.ChangeAt

section
variable {H : Type} {enc : TypeId × Value → H} {P : Program} {w : World}
/-- a slice of octets, read whole -/
theorem open_bytes {r : Reach} {b0 base : Nat} {held : Bool} {t e : TypeId} {v : Value} {d : DataW H} {ps : List MemPlace} (ht : P.underlying t = some (.slice e)) (he : P.underlying e = some (.int .u8)) (hce : P.cellsOf e = 1)
    (hval : Value.okWide P w r b0 t v) (hd : DataW.Trod enc P w base (fun _ => true) held t v d ps) :
    ∃ (a : Option Addr) (n c : Nat) (l : List UInt8) (es sp : List (DataW H)), v = .slice a n c ∧ l.length = n ∧ n ≤ c ∧ (a = none → c = 0) ∧ Cells w a (l.map u8v) ∧ ((d = .nil ∧ c = 0) ∨ (d = .slice es sp ∧ es.length + sp.length = c)) := by
  obtain ⟨a, n, c, rfl⟩ := okWide_slice ht hval
  obtain ⟨fuel, hf⟩ := hd
  rcases open_ints ht he hce hf with ⟨hcs, hx⟩ | ⟨ad, len, cap, zs, hcs, _, hle, hmax, hlen, hx, hcell, hwf⟩
  · simp [Value.cells] at hcs
    obtain ⟨rfl, rfl, rfl⟩ := hcs
    simp only [Prod.mk.injEq] at hx
    exact ⟨none, 0, 0, [], [], [], rfl, rfl, Nat.le_refl _, fun _ => rfl, .inl rfl, .inl ⟨hx.1, rfl⟩⟩
  · simp [Value.cells] at hcs
    obtain ⟨rfl, rfl, rfl⟩ := hcs
    simp only [Prod.mk.injEq] at hx
    simp only [if_true] at hlen
    obtain ⟨l, hl⟩ := u8s_of ((zs.take n).map (Value.int .u8)) fun i u hu => by
      have hm := List.mem_of_getElem? hu
      obtain ⟨z, hz, rfl⟩ := List.mem_map.1 hm
      exact u8_of (hwf z (List.mem_of_mem_take hz))
    have hll : l.length = n := by
      have := congrArg List.length hl
      simp only [List.length_map, List.length_take] at this
      omega
    refine ⟨some ad, n, c, l, lits .u8 (zs.take n), lits .u8 (zs.drop n), rfl, hll, hle, (fun h => by cases h), ?_, .inr ⟨hx.1, ?_⟩⟩
    · by_cases hn : n = 0
      · left
        have : l = [] := List.length_eq_zero_iff.1 (by omega)
        rw [this]; rfl
      · obtain ⟨b, off, rfl, hat⟩ := ints_at hcell (by omega)
        refine .inr ⟨b, off, rfl, fun i u hu => ?_⟩
        rw [← hl] at hu
        have hi : i < n := by
          have := (List.getElem?_eq_some_iff.1 hu).1
          simp at this; omega
        rw [hat i (by omega)]
        rw [List.getElem?_map, List.getElem?_take_of_lt hi] at hu
        rw [List.getD_eq_getElem?_getD]
        cases hz : zs[i]? with
        | none => rw [hz] at hu; simp at hu
        | some z => rw [hz] at hu; simpa using hu
    · simp [lits]; omega
end
end

section
open Go Go.RowKit Go.ChangeShapes Go.WideShapes Go.ChangeAt Go.Deep

theorem cells?_at {w : World} {base : Nat} {p : Addr} {k : Nat} {cs : List Value} (h : w.cells? base p k = some cs) : cs.length = k ∧ CellsAt w p cs := by
  unfold World.cells? at h
  split at h
  · refine ⟨by simpa using mapM_some_length h, fun j u hu => ?_⟩
    have hj : j < k := by
      have h1 := (List.getElem?_eq_some_iff.1 hu).1
      have h2 := mapM_some_length h
      simp at h2; omega
    have := mapM_some_get h j j (by simp [hj])
    rw [hu] at this
    exact this
  · cases h

section
variable {H : Type} {enc : TypeId × Value → H} {P : Program} {w : World}
theorem octets_of_trod {base : Nat} {sp : Nat → Bool} {held : Bool} {t e : TypeId} {n f : Nat} {cs : List Value} {x : DataW H × List MemPlace} (ht : P.underlying t = some (.array n e)) (he : P.underlying e = some (.int .u8)) (hce : P.cellsOf e = 1) (hct : P.cellsOf t = n)
    (hf : DataW.trod enc P w base sp held f t cs = some x) : ∃ l : List UInt8, l.length = n ∧ cs = l.map u8v := by
  obtain ⟨xs, m, _, _, hlen, hxl, hel⟩ := DataW.trod_array ht hf
  have hcl : cs.length = n := by rw [hlen, hct]
  obtain ⟨l, hl⟩ := u8s_of cs fun i u hu => by
    have hi : i < n := by
      have := (List.getElem?_eq_some_iff.1 hu).1
      omega
    have h1 := hel i hi
    rw [hce, Nat.mul_one] at h1
    have hx : xs[i]? = some xs[i] := by simp
    have h2 : (cs.drop i).take 1 = [u] := by
      have h3 := List.getElem?_drop (xs := cs) (i := i) (j := 0)
      rw [Nat.add_zero, hu] at h3
      cases hd : cs.drop i with
      | nil => rw [hd] at h3; simp at h3
      | cons y r => rw [hd] at h3; simp at h3; simp [h3]
    have h4 : DataW.trod enc P w base sp held m e [u] = some xs[i] := by
      rw [← h2, ← hx]; exact h1
    obtain ⟨k, hk, _, hw⟩ := DataW.trod_int he h4
    have hu' : u = .int .u8 k := by simpa using hk
    rw [hu']; exact u8_of hw
  refine ⟨l, ?_, hl⟩
  have := congrArg List.length hl
  rw [hcl, List.length_map] at this; exact this.symm

/-- a slice of rows, its cell read -/
theorem sums_of_trod {base f : Nat} {held : Bool} {t e q : TypeId} {cs : List Value} {x : DataW H × List MemPlace} (ht : P.underlying t = some (.slice e)) (he : P.underlying e = some (.array 32 q)) (hq : P.underlying q = some (.int .u8)) (cq : P.cellsOf q = 1) (ce : P.cellsOf e = 32)
    (hf : DataW.trod enc P w base (fun _ => true) held f t cs = some x) :
    ∃ (a : Option Addr) (n c : Nat) (ls : List (List UInt8)) (es sp : List (DataW H)), cs = [.slice a n c] ∧ ls.length = n ∧ All32 ls ∧ n ≤ c ∧ c ≤ maxLen ∧ (a = none → c = 0) ∧ Cells w a (rows ls) ∧ ((x.1 = .nil ∧ c = 0) ∨ (x.1 = .slice es sp ∧ es.length + sp.length = c)) := by
  rcases DataW.trod_slice ht hf with ⟨h0, h1⟩ | ⟨a, len, cap, elems, rest, n, _, rfl, rfl, hb, hl, hm, hlen, hel, hsp, hns⟩
  · exact ⟨none, 0, 0, [], [], [], h0, rfl, All32.nil, Nat.le_refl _, Nat.zero_le _, fun _ => rfl, .inl rfl, .inl ⟨by rw [h1], rfl⟩⟩
  · have each : ∀ i, i < len → ∃ l : List UInt8, l.length = 32 ∧ CellsAt w (a.add (i * 32)) (l.map u8v) := by
      intro i hi
      have h1 := hel i hi
      have hx : elems[i]? = some (elems[i]'(by omega)) := by simp
      rw [ce, hx, Option.bind_eq_some_iff] at h1
      obtain ⟨cs', hcs, hy⟩ := h1
      obtain ⟨l, hl1, rfl⟩ := octets_of_trod he hq cq ce hy
      exact ⟨l, hl1, (cells?_at hcs).2⟩
    obtain ⟨g, hg⟩ := choose_lt each
    have h32 : All32 ((List.range len).map g) := fun l hl => by
      obtain ⟨i, hi, rfl⟩ := List.mem_map.1 hl
      exact (hg i (List.mem_range.1 hi)).1
    obtain ⟨hrl, _⟩ := hsp rfl
    refine ⟨some a, len, cap, (List.range len).map g, _, _, rfl, by simp, h32, hl, hm, (fun h => by cases h), ?_, .inr ⟨rfl, by simp; omega⟩⟩
    by_cases h0 : len = 0
    · left; subst h0; rfl
    · obtain ⟨hl0, hc0⟩ := hg 0 (by omega)
      obtain ⟨b, off, spot⟩ := a
      have hspot : spot = none := by
        have := hc0 0 (u8v ((g 0)[0]'(by omega))) (by simp [hl0])
        simpa [Addr.add] using World.cell?_spot this
      subst hspot
      refine .inr ⟨b, off, rfl, fun i u hu => ?_⟩
      have hi : i < 32 * len := by
        have := (List.getElem?_eq_some_iff.1 hu).1
        rw [rows_length h32] at this; simpa using this
      obtain ⟨_, hcr⟩ := hg (i / 32) (by omega)
      have hrow : ((List.range len).map g)[i / 32]? = some (g (i / 32)) := by
        rw [List.getElem?_map, List.getElem?_range (by omega)]; rfl
      have h2 := rows_at h32 hrow
      have h3 : ((g (i / 32)).map u8v)[i % 32]? = some u := by
        rw [← h2, List.getElem?_take_of_lt (Nat.mod_lt _ (by omega)), List.getElem?_drop, Nat.div_add_mod]; exact hu
      have h4 := hcr _ _ h3
      rw [addr_add, addr_add] at h4
      rw [show off + i / 32 * 32 + i % 32 = off + i by omega] at h4
      exact h4

/-- a struct of two ints and a slice of rows -/
theorem open_proof {r : Reach} {b0 base : Nat} {held : Bool} {t e q : TypeId} {f0 f1 f2 : Field} {v : Value} {d : DataW H} {ps : List MemPlace} (ht : P.underlying t = some (.struct #[f0, f1, f2])) (h0 : P.underlying f0.type = some (.int .i64)) (h1 : P.underlying f1.type = some (.int .i64))
    (h2 : P.underlying f2.type = some (.slice e)) (he : P.underlying e = some (.array 32 q)) (hq : P.underlying q = some (.int .u8)) (cq : P.cellsOf q = 1) (ce : P.cellsOf e = 32) (c0 : P.cellsOf f0.type = 1) (c1 : P.cellsOf f1.type = 1) (c2 : P.cellsOf f2.type = 1) (ct : P.cellsOf t = 3)
    (o0 : f0.offset = 0) (o1 : f1.offset = 1) (o2 : f2.offset = 2)
    (hval : Value.okWide P w r b0 t v) (hd : DataW.Trod enc P w base (fun _ => true) held t v d ps) :
    ∃ (I Z : Int) (a : Option Addr) (n c : Nat) (ls : List (List UInt8)), v = .agg #[.int .i64 I, .int .i64 Z, .slice a n c] ∧ ls.length = n ∧ All32 ls ∧ n ≤ c ∧ c ≤ maxLen ∧ (a = none → c = 0) ∧ Cells w a (rows ls) ∧
      ∃ (D : DataW H) (es sp : List (DataW H)), d = .agg [.lit (.int .i64 I), .lit (.int .i64 Z), D] ∧ ((D = .nil ∧ c = 0) ∨ (D = .slice es sp ∧ es.length + sp.length = c)) ∧ (Lit.int .i64 I).wf = true ∧ (Lit.int .i64 Z).wf = true := by
  obtain ⟨cs, rfl, hs⟩ := okWide_struct ht hval
  obtain ⟨fuel, hf⟩ := hd
  obtain ⟨y0, y1, y2, m, hx, hl, g0, g1, g2⟩ := trod_struct3 ht hf
  rw [c0, o0] at g0
  rw [c1, o1] at g1
  rw [c2, o2] at g2
  obtain ⟨I, hI, hI2, wI⟩ := DataW.trod_int h0 g0
  obtain ⟨Z, hZ, hZ2, wZ⟩ := DataW.trod_int h1 g1
  obtain ⟨a, n, c, ls, es, sp, hsl, hln, h32, hnc, hcm, hnil, hcl, hdd⟩ := sums_of_trod h2 he hq cq ce g2
  have hcs : cs = #[.int .i64 I, .int .i64 Z, .slice a n c] := by
    have hsz : cs.size = 3 := by rw [hs, ct]
    obtain ⟨l⟩ := cs
    match l, hsz with
    | [p0, p1, p2], _ =>
      simp [Value.cells] at hI hZ hsl
      rw [hI, hZ, hsl]
  refine ⟨I, Z, a, n, c, ls, by rw [hcs], hln, h32, hnc, hcm, hnil, hcl, y2.1, es, sp, ?_, hdd, wI, wZ⟩
  simp only [Prod.mk.injEq] at hx
  rw [hx.1, hI2, hZ2]
end
end

section
open Go Go.RowKit Go.ChangeShapes Go.WideShapes Go.ChangeAt Go.Deep

theorem mem_weightsU {H : Type} {P : Program} {e : TypeId} : ∀ {ds : List (DataW H)} {d : DataW H}, d ∈ ds → ∀ n ∈ d.weights P e, n ∈ DataW.weightsAll P e ds
  | d0 :: ds, d, hd, n, hn => by
    rw [DataW.weightsAll, List.mem_append]
    rcases List.mem_cons.1 hd with rfl | hd
    · exact .inl hn
    · exact .inr (mem_weightsU hd n hn)
  | [], _, hd, _, _ => by simp at hd
theorem reach_is : reachBytes = 140737488351232 := by decide

section
variable {H : Type} {enc : TypeId × Value → H} {P : Program} {w : World}
theorem strs_of_trod {base f : Nat} {held : Bool} {t e : TypeId} {cs : List Value} {x : DataW H × List MemPlace} (ht : P.underlying t = some (.slice e)) (he : P.underlying e = some .string) (hc : P.cellsOf e = 1) (hb : P.bytesOf e = 16)
    (hf : DataW.trod enc P w base (fun _ => true) held f t cs = some x) (hw : ∀ n ∈ x.1.weights P t, n ≤ reachBytes) :
    ∃ (a : Option Addr) (n c : Nat) (ls : List ByteArray), cs = [.slice a n c] ∧ ls.length = n ∧ n ≤ c ∧ c ≤ 140737488355328 ∧ Cells w a (ls.map encS) ∧ ∀ s ∈ ls, s.size ≤ 140737488355328 := by
  rcases open_strs ht he hc hf with ⟨rfl, rfl⟩ | ⟨a, len, m0, m, Sx, rfl, hba, hl, hm, rfl, rfl, hcell⟩
  · exact ⟨none, 0, 0, [], rfl, rfl, Nat.le_refl _, Nat.zero_le _, .inl rfl, by simp⟩
  · simp only [if_true] at hcell hw
    have hm : m ≤ 140737488355328 := by
      have := hw ((len + (m - len)) * P.bytesOf e) (by simp [DataW.weights, ht])
      rw [hb, reach_is] at this
      omega
    refine ⟨some a, len, m, (List.range len).map Sx, rfl, by simp, hl, hm, ?_, ?_⟩
    · by_cases h0 : len = 0
      · left; subst h0; rfl
      · obtain ⟨b, off, spot⟩ := a
        have hspot : spot = none := by
          have := World.cell?_spot (hcell 0 (by omega)).1
          simpa [Addr.add] using this
        subst hspot
        refine .inr ⟨b, off, rfl, fun i u hu => ?_⟩
        have hi : i < len := by
          have := (List.getElem?_eq_some_iff.1 hu).1
          simpa using this
        rw [List.getElem?_map, List.getElem?_map, List.getElem?_range hi] at hu
        have h1 := (hcell i (by omega)).1
        rw [addr_add] at h1
        rw [h1]
        exact hu
    · intro s hs
      obtain ⟨i, hi, rfl⟩ := List.mem_map.1 hs
      have hmem : (DataW.lit (.string (Sx i).data.toList) : DataW H) ∈ (List.range len).map fun i => DataW.lit (.string (Sx i).data.toList) := List.mem_map.2 ⟨i, hi, rfl⟩
      have h3 : (Sx i).data.toList.length ∈ (DataW.lit (.string (Sx i).data.toList) : DataW H).weights P e := by simp [DataW.weights]
      have h4 := hw _ (by
        simp only [DataW.weights, ht, List.mem_cons, List.mem_append]
        exact .inr (.inl (mem_weightsU hmem _ h3)))
      rw [Array.length_toList, reach_is] at h4
      have : (Sx i).size = (Sx i).data.size := rfl
      omega
theorem ints_of_trod {base f : Nat} {held : Bool} {t e : TypeId} {cs : List Value} {x : DataW H × List MemPlace} (ht : P.underlying t = some (.slice e)) (he : P.underlying e = some (.int .i64)) (hc : P.cellsOf e = 1) (hb : P.bytesOf e = 8)
    (hf : DataW.trod enc P w base (fun _ => true) held f t cs = some x) (hw : ∀ n ∈ x.1.weights P t, n ≤ reachBytes) :
    ∃ (a : Option Addr) (n c : Nat) (ls : List Int), cs = [.slice a n c] ∧ ls.length = n ∧ n ≤ c ∧ c ≤ 140737488355328 ∧ Cells w a (ls.map encI) ∧ ∀ z ∈ ls, (Lit.int .i64 z).wf = true := by
  rcases open_ints ht he hc hf with ⟨rfl, rfl⟩ | ⟨a, len, cap, zs, rfl, hba, hl, hm, hzl, rfl, hcell, hwf⟩
  · exact ⟨none, 0, 0, [], rfl, rfl, Nat.le_refl _, Nat.zero_le _, .inl rfl, by simp⟩
  · simp only [if_true] at hzl
    have hcap : cap ≤ 140737488355328 := by
      have := hw ((lits (H := H) .i64 (zs.take len)).length * P.bytesOf e + (lits (H := H) .i64 (zs.drop len)).length * P.bytesOf e) (by simp [DataW.weights, ht, Nat.add_mul])
      rw [hb, reach_is] at this
      simp [lits] at this
      omega
    refine ⟨some a, len, cap, zs.take len, rfl, by simp; omega, hl, hcap, ?_, fun z hz => hwf z (List.mem_of_mem_take hz)⟩
    by_cases h0 : len = 0
    · left; subst h0; simp
    · obtain ⟨b, off, spot⟩ := a
      have hspot : spot = none := by
        have := World.cell?_spot (hcell 0 (by omega))
        simpa [Addr.add] using this
      subst hspot
      refine .inr ⟨b, off, rfl, fun i u hu => ?_⟩
      have hi : i < len := by
        have := (List.getElem?_eq_some_iff.1 hu).1
        simp at this; omega
      have h1 := hcell i (by omega)
      rw [addr_add] at h1
      rw [h1]
      rw [List.getElem?_map, List.getElem?_take_of_lt hi] at hu
      rw [List.getD_eq_getElem?_getD]
      cases hz : zs[i]? with
      | none => rw [hz] at hu; simp at hu
      | some z => rw [hz] at hu; simpa [encI] using hu
end

theorem weights_part {H : Type} {P : Program} {t : TypeId} {fs : Array Field} {xs : List (DataW H × List MemPlace)} (ht : P.underlying t = some (.struct fs)) {B : Nat} (hw : ∀ n ∈ (DataW.agg (xs.map (·.1))).weights P t, n ≤ B) {i : Nat} {f : Field} {x : DataW H × List MemPlace} (hf : fs.toList[i]? = some f) (hx : xs[i]? = some x) : ∀ n ∈ x.1.weights P f.type, n ≤ B := by
  intro n hn
  refine hw n ?_
  simp only [DataW.weights, ht]
  exact DataW.weights_mem_each (ts := fs.toList.map (·.type)) (j := i) (by rw [List.getElem?_map, hf]; rfl) (by rw [List.getElem?_map, hx]; rfl) n hn

section
variable {H : Type} {enc : TypeId × Value → H} {w : World}
set_option maxRecDepth 100000 in
theorem rule_of_trod {base f : Nat} {held : Bool} {cs : List Value} {x : DataW H × List MemPlace} (hf : DataW.trod enc Try.prog w base (fun _ => true) held f 50 cs = some x) (hw : ∀ n ∈ x.1.weights Try.prog 50, n ≤ reachBytes) :
    ∃ r : RuleR, cs = r.v ∧ r.Ok w := by
  have ht := Try.underlying50
  obtain ⟨xs, m, _, rfl, hl, hlen, hfs⟩ := DataW.trod_struct ht hf
  have ct : Try.prog.cellsOf 50 = 8 := by kernel_rfl
  have c4 : Try.prog.cellsOf 4 = 1 := by kernel_rfl
  have c39 : Try.prog.cellsOf 39 = 1 := by kernel_rfl
  have c48 : Try.prog.cellsOf 48 = 1 := by kernel_rfl
  have c3 : Try.prog.cellsOf 3 = 1 := by kernel_rfl
  have c9 : Try.prog.cellsOf 9 = 1 := by kernel_rfl
  rw [ct] at hl
  match xs, hlen, cs, hl with
  | [y0, y1, y2, y3, y4, y5, y6, y7], _, [v0, v1, v2, v3, v4, v5, v6, v7], _ =>
  have g0 : DataW.trod enc Try.prog w base (fun _ => true) held m 4 [v0] = some y0 := by have := hfs 0 _ rfl; simpa [c4] using this
  have g1 : DataW.trod enc Try.prog w base (fun _ => true) held m 39 [v1] = some y1 := by have := hfs 1 _ rfl; simpa [c39] using this
  have g2 : DataW.trod enc Try.prog w base (fun _ => true) held m 48 [v2] = some y2 := by have := hfs 2 _ rfl; simpa [c48] using this
  have g3 : DataW.trod enc Try.prog w base (fun _ => true) held m 39 [v3] = some y3 := by have := hfs 3 _ rfl; simpa [c39] using this
  have g4 : DataW.trod enc Try.prog w base (fun _ => true) held m 3 [v4] = some y4 := by have := hfs 4 _ rfl; simpa [c3] using this
  have g5 : DataW.trod enc Try.prog w base (fun _ => true) held m 3 [v5] = some y5 := by have := hfs 5 _ rfl; simpa [c3] using this
  have g6 : DataW.trod enc Try.prog w base (fun _ => true) held m 3 [v6] = some y6 := by have := hfs 6 _ rfl; simpa [c3] using this
  have g7 : DataW.trod enc Try.prog w base (fun _ => true) held m 9 [v7] = some y7 := by have := hfs 7 _ rfl; simpa [c9] using this
  have w1 := weights_part ht hw (i := 1) rfl rfl
  have w2 := weights_part ht hw (i := 2) rfl rfl
  have w3 := weights_part ht hw (i := 3) rfl rfl
  have w7 := weights_part ht hw (i := 7) rfl rfl
  obtain ⟨b, h0, _⟩ := DataW.trod_bool Try.underlying4 g0
  obtain ⟨a1, n1, c1, l1, h1, p1, p2, p3, p4, p5⟩ := strs_of_trod Try.underlying39 Try.underlying9 c9 (by kernel_rfl) g1 w1
  obtain ⟨a2, n2, c2, l2, h2, q1, q2, q3, q4, q5⟩ := ints_of_trod Try.underlying48 Try.underlying3 c3 (by kernel_rfl) g2 w2
  obtain ⟨a3, n3, c3', l3, h3, r1, r2, r3, r4, r5⟩ := strs_of_trod Try.underlying39 Try.underlying9 c9 (by kernel_rfl) g3 w3
  obtain ⟨z4, h4, _, _⟩ := DataW.trod_int Try.underlying3 g4
  obtain ⟨z5, h5, _, _⟩ := DataW.trod_int Try.underlying3 g5
  obtain ⟨z6, h6, _, _⟩ := DataW.trod_int Try.underlying3 g6
  obtain ⟨s7, h7, hx7, _⟩ := DataW.trod_string Try.underlying9 g7
  have hs7 : s7.size ≤ 140737488355328 := by
    have := w7 s7.data.toList.length (by rw [hx7]; simp [DataW.weights])
    rw [Array.length_toList, reach_is] at this
    have e : s7.size = s7.data.size := rfl
    omega
  refine ⟨⟨b, a1, n1, c1, l1, a2, n2, c2, l2, a3, n3, c3', l3, z4, z5, z6, s7⟩, ?_, ⟨p1, p2, p3, p4, p5, q1, q2, q3, q4, q5, r1, r2, r3, r4, r5, hs7⟩⟩
  unfold RuleR.v
  simp only [List.cons.injEq, and_true] at h0 h1 h2 h3 h4 h5 h6 h7
  rw [h0, h1, h2, h3, h4, h5, h6, h7]
end
end

section
open Go Go.RowKit Go.ChangeShapes Go.WideShapes Go.ChangeAt Go.Deep

section
variable {H : Type} {enc : TypeId × Value → H} {w : World}
set_option maxRecDepth 100000 in
theorem ask_of_trod {base f : Nat} {held : Bool} {cs : List Value} {x : DataW H × List MemPlace} (hf : DataW.trod enc Try.prog w base (fun _ => true) held f 42 cs = some x) (hw : ∀ n ∈ x.1.weights Try.prog 42, n ≤ reachBytes) :
    ∃ a : AskR, cs = a.v ∧ a.Ok w := by
  have ht := Try.underlying42
  obtain ⟨xs, m, _, rfl, hl, hlen, hfs⟩ := DataW.trod_struct ht hf
  have ct : Try.prog.cellsOf 42 = 68 := by kernel_rfl
  have c29 : Try.prog.cellsOf 29 = 16 := by kernel_rfl
  have c40 : Try.prog.cellsOf 40 = 32 := by kernel_rfl
  have c39 : Try.prog.cellsOf 39 = 1 := by kernel_rfl
  have c3 : Try.prog.cellsOf 3 = 1 := by kernel_rfl
  have c5 : Try.prog.cellsOf 5 = 1 := by kernel_rfl
  have c9 : Try.prog.cellsOf 9 = 1 := by kernel_rfl
  rw [ct] at hl
  match xs, hlen with
  | [y0, y1, y2, y3, y4, y5, y6], _ =>
  have g0 : DataW.trod enc Try.prog w base (fun _ => true) held m 29 ((cs.drop 0).take 16) = some y0 := by rw [← c29]; exact hfs 0 _ rfl
  have g1 : DataW.trod enc Try.prog w base (fun _ => true) held m 39 ((cs.drop 16).take 1) = some y1 := by rw [← c39]; exact hfs 1 _ rfl
  have g2 : DataW.trod enc Try.prog w base (fun _ => true) held m 3 ((cs.drop 17).take 1) = some y2 := by rw [← c3]; exact hfs 2 _ rfl
  have g3 : DataW.trod enc Try.prog w base (fun _ => true) held m 9 ((cs.drop 18).take 1) = some y3 := by rw [← c9]; exact hfs 3 _ rfl
  have g4 : DataW.trod enc Try.prog w base (fun _ => true) held m 29 ((cs.drop 19).take 16) = some y4 := by rw [← c29]; exact hfs 4 _ rfl
  have g5 : DataW.trod enc Try.prog w base (fun _ => true) held m 3 ((cs.drop 35).take 1) = some y5 := by rw [← c3]; exact hfs 5 _ rfl
  have g6 : DataW.trod enc Try.prog w base (fun _ => true) held m 40 ((cs.drop 36).take 32) = some y6 := by rw [← c40]; exact hfs 6 _ rfl
  have w1 := weights_part ht hw (i := 1) rfl rfl
  have w3 := weights_part ht hw (i := 3) rfl rfl
  obtain ⟨l0, hl0, h0⟩ := octets_of_trod Try.underlying29 Try.underlying5 c5 c29 g0
  obtain ⟨a1, n1, c1, l1, h1, p1, p2, p3, p4, p5⟩ := strs_of_trod Try.underlying39 Try.underlying9 c9 (by kernel_rfl) g1 w1
  obtain ⟨z2, h2, _, _⟩ := DataW.trod_int Try.underlying3 g2
  obtain ⟨s3, h3, hx3, _⟩ := DataW.trod_string Try.underlying9 g3
  obtain ⟨l4, hl4, h4⟩ := octets_of_trod Try.underlying29 Try.underlying5 c5 c29 g4
  obtain ⟨z5, h5, _, _⟩ := DataW.trod_int Try.underlying3 g5
  obtain ⟨l6, hl6, h6⟩ := octets_of_trod Try.underlying40 Try.underlying5 c5 c40 g6
  have hs3 : s3.size ≤ 140737488355328 := by
    have := w3 s3.data.toList.length (by rw [hx3]; simp [DataW.weights])
    rw [Array.length_toList, reach_is] at this
    have e : s3.size = s3.data.size := rfl
    omega
  refine ⟨⟨l0, a1, n1, c1, l1, z2, s3, l4, z5, l6⟩, ?_, ⟨hl0, hl4, hl6, p1, p2, p3, p4, p5, hs3⟩⟩
  unfold AskR.v
  have e : ∀ p q : Nat, cs.take p ++ (cs.drop p).take q = cs.take (p + q) := fun p q => List.take_add.symm
  have s1 : cs = cs.take 16 ++ (cs.drop 16).take 1 ++ (cs.drop 17).take 1 ++ (cs.drop 18).take 1 ++ (cs.drop 19).take 16 ++ (cs.drop 35).take 1 ++ (cs.drop 36).take 32 := by
    rw [e 16 1, e 17 1, e 18 1, e 19 16, e 35 1, e 36 32, List.take_of_length_le (by omega)]
  rw [List.drop_zero] at h0
  rw [s1, h0, h1, h2, h3, h4, h5, h6]
  simp

set_option maxRecDepth 100000 in
theorem open_rule {r : Reach} {b0 base : Nat} {held : Bool} {v : Value} {d : DataW H} {ps : List MemPlace} {ts : List TypeId} {ds : List (DataW H)} {j : Nat} (hsz : (DataW.weightsEach Try.prog ts ds).all (· ≤ reachBytes) = true)
    (hval : Value.okWide Try.prog w r b0 50 v) (hd : DataW.Trod enc Try.prog w base (fun _ => true) held 50 v d ps) (htj : ts[j]? = some 50) (hdj : ds[j]? = some d) : ∃ q : RuleR, v = .agg q.v.toArray ∧ q.Ok w := by
  have hw := fun n hn => of_decide_eq_true (List.all_eq_true.1 hsz n (DataW.weights_mem_each htj hdj n hn))
  obtain ⟨cs, rfl, hs⟩ := okWide_struct Try.underlying50 hval
  obtain ⟨fuel, hf⟩ := hd
  obtain ⟨q, hq, hok⟩ := rule_of_trod hf hw
  exact ⟨q, by rw [← hq]; rfl, hok⟩
set_option maxRecDepth 100000 in
theorem open_ask {r : Reach} {b0 base : Nat} {held : Bool} {v : Value} {d : DataW H} {ps : List MemPlace} {ts : List TypeId} {ds : List (DataW H)} {j : Nat} (hsz : (DataW.weightsEach Try.prog ts ds).all (· ≤ reachBytes) = true)
    (hval : Value.okWide Try.prog w r b0 42 v) (hd : DataW.Trod enc Try.prog w base (fun _ => true) held 42 v d ps) (htj : ts[j]? = some 42) (hdj : ds[j]? = some d) : ∃ q : AskR, v = .agg q.v.toArray ∧ q.Ok w := by
  have hw := fun n hn => of_decide_eq_true (List.all_eq_true.1 hsz n (DataW.weights_mem_each htj hdj n hn))
  obtain ⟨cs, rfl, hs⟩ := okWide_struct Try.underlying42 hval
  obtain ⟨fuel, hf⟩ := hd
  obtain ⟨q, hq, hok⟩ := ask_of_trod hf hw
  exact ⟨q, by rw [← hq]; rfl, hok⟩
end
end

section
open Go Go.RowKit Go.ChangeShapes Go.WideShapes Go.ChangeAt Go.Deep

instance : Inhabited RuleR := ⟨⟨false, none, 0, 0, [], none, 0, 0, [], none, 0, 0, [], 0, 0, 0, ⟨#[]⟩⟩⟩
instance : Inhabited ApprR := ⟨⟨[], none, 0, 0, []⟩⟩
theorem flatV_length {z : Nat} {V : Nat → List Value} : ∀ len, (∀ i, i < len → (V i).length = z) → ((List.range len).flatMap V).length = len * z
  | 0, _ => by simp
  | len + 1, h => by
    rw [List.range_succ, List.flatMap_append, List.length_append, flatV_length len (fun i hi => h i (by omega))]
    simp [h len (by omega), Nat.add_mul]
theorem flatV_get {z : Nat} {V : Nat → List Value} : ∀ len, (∀ i, i < len → (V i).length = z) → ∀ i r, i < len → r < z → ((List.range len).flatMap V)[i * z + r]? = (V i)[r]?
  | 0, _, i, r, hi, _ => by omega
  | len + 1, h, i, r, hi, hr => by
    rw [List.range_succ, List.flatMap_append]
    have hl := flatV_length (V := V) (z := z) len (fun i hi => h i (by omega))
    by_cases hil : i < len
    · have : i * z + r < len * z := by
        have h1 : (i + 1) * z ≤ len * z := Nat.mul_le_mul_right _ hil
        rw [Nat.add_mul, Nat.one_mul] at h1
        omega
      rw [List.getElem?_append_left (by rw [hl]; exact this)]
      exact flatV_get len (fun i hi => h i (by omega)) i r hil hr
    · obtain rfl : i = len := by omega
      rw [List.getElem?_append_right (by rw [hl]; omega), hl]
      simp
theorem cells_rows {w : World} {a : Addr} {z len : Nat} {V : Nat → List Value} (hz : 0 < z) (hV : ∀ i, i < len → (V i).length = z ∧ CellsAt w (a.add (i * z)) (V i)) : Cells w (some a) ((List.range len).flatMap V) := by
  by_cases h0 : len = 0
  · left; subst h0; rfl
  · obtain ⟨b, off, spot⟩ := a
    have hspot : spot = none := by
      obtain ⟨h1, h2⟩ := hV 0 (by omega)
      have := World.cell?_spot (h2 0 ((V 0)[0]'(by omega)) (by simp))
      simpa [Addr.add] using this
    subst hspot
    refine .inr ⟨b, off, rfl, fun t u hu => ?_⟩
    have hl := flatV_length (V := V) (z := z) len (fun i hi => (hV i hi).1)
    have ht : t < len * z := by
      have := (List.getElem?_eq_some_iff.1 hu).1
      rwa [hl] at this
    have hi : t / z < len := Nat.div_lt_of_lt_mul (by rw [Nat.mul_comm]; exact ht)
    have hr : t % z < z := Nat.mod_lt _ hz
    have hsplit : t / z * z + t % z = t := by rw [Nat.mul_comm]; exact Nat.div_add_mod t z
    have h2 := flatV_get len (fun i hi => (hV i hi).1) (t / z) (t % z) hi hr
    rw [hsplit, hu] at h2
    have h3 := (hV (t / z) hi).2 (t % z) u h2.symm
    rw [addr_add, addr_add, Nat.add_assoc, hsplit] at h3
    exact h3
theorem flatMap_map {α : Type} (f : α → List Value) (g : Nat → α) (len : Nat) : ((List.range len).map g).flatMap f = (List.range len).flatMap (fun i => f (g i)) := by
  rw [List.flatMap_map]

section
variable {H : Type} {enc : TypeId × Value → H} {w : World}
set_option maxRecDepth 100000 in
theorem rules_of_trod {base f : Nat} {held : Bool} {cs : List Value} {x : DataW H × List MemPlace} (hf : DataW.trod enc Try.prog w base (fun _ => true) held f 36 cs = some x) (hw : ∀ n ∈ x.1.weights Try.prog 36, n ≤ reachBytes) :
    ∃ (a : Option Addr) (n c : Nat) (rs : List RuleR), cs = [.slice a n c] ∧ PolOk w a n c rs := by
  have ct : Try.prog.cellsOf 50 = 8 := by kernel_rfl
  have hb : Try.prog.bytesOf 50 = 120 := by kernel_rfl
  rcases DataW.trod_slice Try.underlying36 hf with ⟨rfl, rfl⟩ | ⟨a, len, cap, elems, rest, m, _, rfl, rfl, hba, hl, hm, hlen, hel, hsp, hns⟩
  · exact ⟨none, 0, 0, [], rfl, rfl, Nat.le_refl _, Nat.zero_le _, .inl rfl, by simp⟩
  · obtain ⟨hrl, _⟩ := hsp rfl
    have hcap : cap ≤ 140737488355328 := by
      have := hw ((elems.map (·.1)).length * Try.prog.bytesOf 50 + (rest.map (·.1)).length * Try.prog.bytesOf 50) (by simp [DataW.weights, Try.underlying36, Nat.add_mul])
      rw [hb, reach_is] at this
      simp at this
      omega
    have each : ∀ i, i < len → ∃ r : RuleR, CellsAt w (a.add (i * 8)) r.v ∧ r.Ok w := by
      intro i hi
      have h1 := hel i hi
      have hx : elems[i]? = some (elems[i]'(by omega)) := by simp
      rw [ct, hx, Option.bind_eq_some_iff] at h1
      obtain ⟨cs', hcs, hy⟩ := h1
      have hwe : ∀ n ∈ (elems[i]'(by omega)).1.weights Try.prog 50, n ≤ reachBytes := fun n hn => by
        refine hw n ?_
        simp only [DataW.weights, Try.underlying36, List.mem_cons, List.mem_append]
        refine .inr (.inl (mem_weightsU (List.mem_map.2 ⟨elems[i]'(by omega), List.getElem_mem _, rfl⟩) n hn))
      obtain ⟨r, rfl, hok⟩ := rule_of_trod hy hwe
      exact ⟨r, (cells?_at hcs).2, hok⟩
    obtain ⟨g, hg⟩ := choose_lt each
    refine ⟨some a, len, cap, (List.range len).map g, rfl, by simp, hl, Nat.le_trans hl hcap, ?_, ?_⟩
    · unfold rulesV
      rw [flatMap_map]
      exact cells_rows (z := 8) (by omega) (fun i hi => ⟨RuleR.len _, (hg i hi).1⟩)
    · intro r hr
      obtain ⟨i, hi, rfl⟩ := List.mem_map.1 hr
      exact (hg i (List.mem_range.1 hi)).2
set_option maxRecDepth 100000 in
theorem appr_of_trod {base f : Nat} {held : Bool} {cs : List Value} {x : DataW H × List MemPlace} (hf : DataW.trod enc Try.prog w base (fun _ => true) held f 59 cs = some x) (hw : ∀ n ∈ x.1.weights Try.prog 59, n ≤ reachBytes) :
    ∃ a : ApprR, cs = a.v ∧ a.Ok w := by
  have ht := Try.underlying59
  obtain ⟨xs, m, _, rfl, hl, hlen, hfs⟩ := DataW.trod_struct ht hf
  have ct : Try.prog.cellsOf 59 = 17 := by kernel_rfl
  have c29 : Try.prog.cellsOf 29 = 16 := by kernel_rfl
  have c39 : Try.prog.cellsOf 39 = 1 := by kernel_rfl
  have c5 : Try.prog.cellsOf 5 = 1 := by kernel_rfl
  have c9 : Try.prog.cellsOf 9 = 1 := by kernel_rfl
  rw [ct] at hl
  match xs, hlen with
  | [y0, y1], _ =>
  have g0 : DataW.trod enc Try.prog w base (fun _ => true) held m 29 ((cs.drop 0).take 16) = some y0 := by rw [← c29]; exact hfs 0 _ rfl
  have g1 : DataW.trod enc Try.prog w base (fun _ => true) held m 39 ((cs.drop 16).take 1) = some y1 := by rw [← c39]; exact hfs 1 _ rfl
  have w1 := weights_part ht hw (i := 1) rfl rfl
  obtain ⟨l0, hl0, h0⟩ := octets_of_trod Try.underlying29 Try.underlying5 c5 c29 g0
  obtain ⟨a1, n1, c1, l1, h1, p1, p2, p3, p4, p5⟩ := strs_of_trod Try.underlying39 Try.underlying9 c9 (by kernel_rfl) g1 w1
  refine ⟨⟨l0, a1, n1, c1, l1⟩, ?_, ⟨hl0, p1, p2, p3, p4, p5⟩⟩
  unfold ApprR.v
  have s1 : cs = cs.take 16 ++ (cs.drop 16).take 1 := by
    rw [← List.take_add, List.take_of_length_le (by omega)]
  rw [List.drop_zero] at h0
  rw [s1, h0, h1]
set_option maxRecDepth 100000 in
theorem apprs_of_trod {base f : Nat} {held : Bool} {cs : List Value} {x : DataW H × List MemPlace} (hf : DataW.trod enc Try.prog w base (fun _ => true) held f 53 cs = some x) (hw : ∀ n ∈ x.1.weights Try.prog 53, n ≤ reachBytes) :
    ∃ (a : Option Addr) (n c : Nat) (ls : List ApprR), cs = [.slice a n c] ∧ ApprsOk w a n c ls := by
  have ct : Try.prog.cellsOf 59 = 17 := by kernel_rfl
  have hb : Try.prog.bytesOf 59 = 40 := by kernel_rfl
  rcases DataW.trod_slice Try.underlying53 hf with ⟨rfl, rfl⟩ | ⟨a, len, cap, elems, rest, m, _, rfl, rfl, hba, hl, hm, hlen, hel, hsp, hns⟩
  · exact ⟨none, 0, 0, [], rfl, rfl, Nat.le_refl _, Nat.zero_le _, .inl rfl, by simp⟩
  · obtain ⟨hrl, _⟩ := hsp rfl
    have hcap : cap ≤ 140737488355328 := by
      have := hw ((elems.map (·.1)).length * Try.prog.bytesOf 59 + (rest.map (·.1)).length * Try.prog.bytesOf 59) (by simp [DataW.weights, Try.underlying53, Nat.add_mul])
      rw [hb, reach_is] at this
      simp at this
      omega
    have each : ∀ i, i < len → ∃ r : ApprR, CellsAt w (a.add (i * 17)) r.v ∧ r.Ok w := by
      intro i hi
      have h1 := hel i hi
      have hx : elems[i]? = some (elems[i]'(by omega)) := by simp
      rw [ct, hx, Option.bind_eq_some_iff] at h1
      obtain ⟨cs', hcs, hy⟩ := h1
      have hwe : ∀ n ∈ (elems[i]'(by omega)).1.weights Try.prog 59, n ≤ reachBytes := fun n hn => by
        refine hw n ?_
        simp only [DataW.weights, Try.underlying53, List.mem_cons, List.mem_append]
        refine .inr (.inl (mem_weightsU (List.mem_map.2 ⟨elems[i]'(by omega), List.getElem_mem _, rfl⟩) n hn))
      obtain ⟨r, rfl, hok⟩ := appr_of_trod hy hwe
      exact ⟨r, (cells?_at hcs).2, hok⟩
    obtain ⟨g, hg⟩ := choose_lt each
    refine ⟨some a, len, cap, (List.range len).map g, rfl, by simp, hl, hcap, ?_, ?_⟩
    · unfold apprsV
      rw [flatMap_map]
      exact cells_rows (z := 17) (by omega) (fun i hi => ⟨ApprR.len (hg i hi).2, (hg i hi).1⟩)
    · intro r hr
      obtain ⟨i, hi, rfl⟩ := List.mem_map.1 hr
      exact (hg i (List.mem_range.1 hi)).2

set_option maxRecDepth 100000 in
theorem open_policy {r : Reach} {b0 base : Nat} {held : Bool} {v : Value} {d : DataW H} {ps : List MemPlace} {ts : List TypeId} {ds : List (DataW H)} {j : Nat} (hsz : (DataW.weightsEach Try.prog ts ds).all (· ≤ reachBytes) = true)
    (hval : Value.okWide Try.prog w r b0 38 v) (hd : DataW.Trod enc Try.prog w base (fun _ => true) held 38 v d ps) (htj : ts[j]? = some 38) (hdj : ds[j]? = some d) :
    ∃ (pa : Option Addr) (pn pc : Nat) (rs : List RuleR), v = .agg #[.slice pa pn pc] ∧ PolOk w pa pn pc rs := by
  have hw := fun n hn => of_decide_eq_true (List.all_eq_true.1 hsz n (DataW.weights_mem_each htj hdj n hn))
  obtain ⟨cs, rfl, hs⟩ := okWide_struct Try.underlying38 hval
  obtain ⟨fuel, hf⟩ := hd
  have ht := Try.underlying38
  obtain ⟨xs, m, _, hx, hl, hlen, hfs⟩ := DataW.trod_struct ht hf
  have ct : Try.prog.cellsOf 38 = 1 := by kernel_rfl
  have c36 : Try.prog.cellsOf 36 = 1 := by kernel_rfl
  simp only [Prod.mk.injEq] at hx
  rw [hx.1] at hw
  rw [ct] at hl
  have hl2 : cs.toList.length = 1 := hl
  match xs, hlen with
  | [y0], _ =>
  have g0 : DataW.trod enc Try.prog w base (fun _ => true) held m 36 ((cs.toList.drop 0).take 1) = some y0 := by rw [← c36]; exact hfs 0 _ rfl
  have w0 := weights_part ht hw (i := 0) rfl rfl
  obtain ⟨a, n, c, rs, h0, hok⟩ := rules_of_trod g0 w0
  rw [List.drop_zero, List.take_of_length_le (by omega)] at h0
  refine ⟨a, n, c, rs, ?_, hok⟩
  obtain ⟨cl⟩ := cs
  have h1 : cl = [.slice a n c] := h0
  rw [h1]
set_option maxRecDepth 100000 in
theorem open_approvals {r : Reach} {b0 base : Nat} {held : Bool} {v : Value} {d : DataW H} {ps : List MemPlace} {ts : List TypeId} {ds : List (DataW H)} {j : Nat} (hsz : (DataW.weightsEach Try.prog ts ds).all (· ≤ reachBytes) = true)
    (hval : Value.okWide Try.prog w r b0 53 v) (hd : DataW.Trod enc Try.prog w base (fun _ => true) held 53 v d ps) (htj : ts[j]? = some 53) (hdj : ds[j]? = some d) :
    ∃ (a : Option Addr) (n c : Nat) (ls : List ApprR), v = .slice a n c ∧ ApprsOk w a n c ls := by
  have hw := fun n hn => of_decide_eq_true (List.all_eq_true.1 hsz n (DataW.weights_mem_each htj hdj n hn))
  obtain ⟨a, n, c, rfl⟩ := okWide_slice Try.underlying53 hval
  obtain ⟨fuel, hf⟩ := hd
  obtain ⟨a2, n2, c2, ls, h0, hok⟩ := apprs_of_trod hf hw
  have h1 : [Value.slice a n c] = [Value.slice a2 n2 c2] := h0
  injection h1 with h1 _
  injection h1 with e1 e2 e3
  subst e1
  subst e2
  subst e3
  exact ⟨a, n, c, ls, rfl, hok⟩
end
end
end Go.Proofs.Ytelhnimdfepmdaa
