/- Contracts and laws that the claim's row leans on (13 texts, joined): Readings of slices of slices of octets are opened; no condition. The leaves of the beginnings of texts, by the law's helper and by the program; conditions: the sizes. leaves: the leaves of the beginnings of at most forty texts; conditions: the sizes. tree.Root; conditions: the list's size, the rows' lengths. The law RootsMatch, walked; conditions: the sizes. proofFault and PrintProof; conditions: the rows' lengths. The reference's PrintProof; conditions: the rows' lengths. slices.Equal at octets and at sums, sameProof; conditions: the lengths. math/bits.OnesCount of a size; conditions: the number is below 2^64 (its meaning: at most 65536). slices.Clone of sums; tree.FrontierOf, Size, Peaks; conditions: the sizes. The law FrontiersCheck, walked; conditions: the size's range. Readings of slices of rows of 32 octets, and of a struct of two ints and such a slice, are opened; no condition. A reading of a slice of rows of 32 octets is opened; no condition. -/
import Derived.Test.YtfiigjdiohmkmaaDoorJ2
import Derived.Deep.Matrix
import Derived.Great.BuildSlice
import Derived.Test.YtfiigjdiohmkmaaDoorChecked
import Derived.Laws.Bits64b
import Derived.WalkKit
import Derived.Deep.DeepCutAuto
import Derived.Deep.CutBlock
import Derived.Deep.Strs
namespace Go.Proofs.YtfiigjdiohmkmaaDoor
section
open Go Go.RowKit Go.ChangeShapes Go.WideShapes Go.ChangeAt Go.Deep

theorem mem_weights {H : Type} {P : Program} {e : TypeId} : ∀ {ds : List (DataW H)} {d : DataW H}, d ∈ ds → ∀ n ∈ d.weights P e, n ∈ DataW.weightsAll P e ds
  | d0 :: ds, d, hd, n, hn => by
    simp only [DataW.weightsAll, List.mem_append]
    rcases List.mem_cons.1 hd with rfl | hd
    · exact .inl hn
    · exact .inr (mem_weights hd n hn)
  | [], _, hd, _, _ => by simp at hd

section
variable {H : Type} {enc : TypeId × Value → H} {P : Program} {w : World}
theorem open_bytess {r : Reach} {b0 base : Nat} {held : Bool} {t e q : TypeId} {v : Value} {d : DataW H} {ps : List MemPlace} {ts : List TypeId} {ds : List (DataW H)} {j : Nat}
    (hsz : (DataW.weightsEach P ts ds).all (· ≤ reachBytes) = true) (ht : P.underlying t = some (.slice e)) (he : P.underlying e = some (.slice q)) (hq : P.underlying q = some (.int .u8)) (ce : P.cellsOf e = 1) (cq : P.cellsOf q = 1) (hbe : P.bytesOf e = 24) (hbq : P.bytesOf q = 1)
    (hval : Value.okWide P w r b0 t v) (hd : DataW.Trod enc P w base (fun _ => true) held t v d ps) (htj : ts[j]? = some t) (hdj : ds[j]? = some d) :
    ∃ (a : Option Addr) (n c : Nat) (its : List Item), v = .slice a n c ∧ its.length = n ∧ n ≤ c ∧ c ≤ 140737488351232 ∧ (a = none → c = 0) ∧ Cells w a (its.map itemV) ∧
      ∀ it ∈ its, Cells w it.1 (it.2.2.map u8v) ∧ (it.1 = none → it.2.1 = 0) ∧ it.2.2.length ≤ it.2.1 ∧ it.2.1 ≤ 140737488351232 := by
  have hw := fun n hn => List.all_eq_true.1 hsz n (DataW.weights_mem_each htj hdj n hn)
  obtain ⟨a, n, c, rfl⟩ := okWide_slice ht hval
  obtain ⟨fuel, hf⟩ := hd
  rcases open_int_rows ht he hq ce cq hf with ⟨hcs, hx⟩ | ⟨ad, len, cap, A, L, C, Z, hcs, _, hle, hmax, hx, hrow⟩
  · simp [Value.cells] at hcs
    obtain ⟨rfl, rfl, rfl⟩ := hcs
    exact ⟨none, 0, 0, [], rfl, rfl, Nat.le_refl _, Nat.zero_le _, fun _ => rfl, .inl rfl, by simp⟩
  · simp [Value.cells] at hcs
    obtain ⟨rfl, rfl, rfl⟩ := hcs
    simp only [Prod.mk.injEq] at hx
    obtain ⟨rfl, _⟩ := hx
    have hcap : c ≤ 140737488351232 := by
      have := hw ((n + (c - n)) * P.bytesOf e) (by simp [DataW.weights, ht])
      simp only [decide_eq_true_eq] at this
      rw [hbe] at this
      have h2 : reachBytes = 140737488351232 := by decide
      omega
    have hbnd : ∀ i, i < n → C i ≤ 140737488351232 := by
      intro i hi
      obtain ⟨_, hlc, _, hzl, _, hn0, _⟩ := hrow i (by omega)
      cases hA : A i with
      | none => have := hn0 hA; omega
      | some a' =>
        have hmem : intRow (H := H) .u8 (A i) (L i) (Z i) ∈ (List.range n).map fun r => intRow (H := H) .u8 (A r) (L r) (Z r) := List.mem_map.2 ⟨i, List.mem_range.2 hi, rfl⟩
        have h3 : C i * P.bytesOf q ∈ (intRow (H := H) .u8 (A i) (L i) (Z i)).weights P e := by
          unfold intRow
          rw [hA]
          simp only [DataW.weights, he, List.mem_cons]
          left
          congr 1
          simp [lits, hzl]; omega
        have h4 := hw (C i * P.bytesOf q) (by
          simp only [DataW.weights, ht, List.mem_cons, List.mem_append]
          exact .inr (.inl (mem_weights hmem _ h3)))
        simp only [decide_eq_true_eq] at h4
        rw [hbq] at h4
        have h2 : reachBytes = 140737488351232 := by decide
        omega
    have hits : ∀ i, i < n → ∃ it : Item, itemV it = .slice (A i) (L i) (C i) ∧ Cells w it.1 (it.2.2.map u8v) ∧ (it.1 = none → it.2.1 = 0) ∧ it.2.2.length ≤ it.2.1 ∧ it.2.1 ≤ 140737488351232 := by
      intro i hi
      obtain ⟨_, hlc, _, hzl, hwf, hn0, hcell⟩ := hrow i (by omega)
      obtain ⟨l, hl⟩ := u8s_of (((Z i).take (L i)).map (Value.int .u8)) fun k u hu => by
        have hm := List.mem_of_getElem? hu
        obtain ⟨z, hz, rfl⟩ := List.mem_map.1 hm
        exact u8_of (hwf z (List.mem_of_mem_take hz))
      have hll : l.length = L i := by
        have := congrArg List.length hl
        simp only [List.length_map, List.length_take] at this
        omega
      refine ⟨(A i, C i, l), by rw [itemV, hll], ?_, hn0, by simp only; omega, hbnd i hi⟩
      simp only
      by_cases h0 : L i = 0
      · left
        have : l = [] := List.length_eq_zero_iff.1 (by omega)
        rw [this]; rfl
      · cases hA : A i with
        | none => have := hn0 hA; omega
        | some a' =>
          obtain ⟨b, off, rfl, hat⟩ := ints_at (zs := Z i) (fun c hc => (hcell a' hA).2 c (by omega)) (by omega)
          refine .inr ⟨b, off, rfl, fun k u hu => ?_⟩
          rw [← hl] at hu
          have hk : k < L i := by
            have := (List.getElem?_eq_some_iff.1 hu).1
            simp at this; omega
          rw [hat k (by omega)]
          rw [List.getElem?_map, List.getElem?_take_of_lt hk] at hu
          rw [List.getD_eq_getElem?_getD]
          cases hz : (Z i)[k]? with
          | none => rw [hz] at hu; simp at hu
          | some z => rw [hz] at hu; simpa using hu
    obtain ⟨f, hfi⟩ := choose_lt hits
    refine ⟨some ad, n, c, (List.range n).map f, rfl, by simp, hle, hcap, (fun h => by cases h), ?_, ?_⟩
    · by_cases h0 : n = 0
      · left; subst h0; rfl
      · have hc0 := (hrow 0 (by omega)).1
        obtain ⟨b, off, spot⟩ := ad
        have hspot : spot = none := by simpa [Addr.add] using World.cell?_spot hc0
        subst hspot
        refine .inr ⟨b, off, rfl, fun i u hu => ?_⟩
        have hi : i < n := by
          have := (List.getElem?_eq_some_iff.1 hu).1
          simpa using this
        rw [List.getElem?_map, List.getElem?_map, List.getElem?_range hi] at hu
        simp only [Option.map_some, Option.some.injEq] at hu
        rw [← hu, (hfi i hi).1]
        have h9 := (hrow i (by omega)).1
        have hadd : (⟨b, off, none⟩ : Addr).add i = ⟨b, off + i, none⟩ := by unfold Addr.add; split <;> simp_all
        rw [hadd] at h9
        exact h9
    · intro it hit
      obtain ⟨i, hi, rfl⟩ := List.mem_map.1 hit
      exact (hfi i (List.mem_range.1 hi)).2
end
end

section
open Go Go.RowKit

def leafL (t : List UInt8) : List UInt8 := sumL 1 (t.take 3000)
theorem leafL_length (t : List UInt8) : (leafL t).length = 32 := sumL_length _ _

theorem min_cast (n k : Nat) : min (n : Int) (k : Int) = ((min n k : Nat) : Int) := by omega

set_option maxHeartbeats 400000 in
theorem short_c (a : Option Addr) (n c : Nat) (w : World) (hnc : n ≤ c) :
    Calls Tryd.prog 23 #[.slice a n c] w fun e w' => e = .returned (.slice a (min n 3000) c) ∧ w = w' := by
  have hm : min (n : Int) 3000 = ((min n 3000 : Nat) : Int) := by omega
  have hc : min n 3000 ≤ c := by omega
  go_enter Tryd.func23, Tryd.ntmps23
  go_wp2_with fail
  go_ret
  exact ⟨rfl, rfl⟩

set_option maxRecDepth 100000 in
set_option maxHeartbeats 400000 in
theorem rleaf_c (t : List UInt8) (a : Option Addr) (n c : Nat) (w : World) (ht : t.length = n) (hn : n ≤ 3000) (hcl : Cells w a (t.map u8v)) :
    Calls Tryd.prog 22 #[.slice a n c] w fun e w' => e = .returned (.agg ((sumL 1 t).map u8v).toArray) ∧ Ext w w' := by
  have hs := hid (fun w' h => rsum_c 1 t n c a w' (by omega) (by omega) ht (by omega) h)
  have HV : Hid (((sumL 1 t).map u8v).length = 32) := hid (by rw [List.length_map, sumL_length])
  have ov := one_u8 (sumL 1 t)
  have HC := hid hcl
  clear ht hcl
  generalize (sumL 1 t).map u8v = sv at *
  go_enter Tryd.func22, Tryd.ntmps22
  go_upto_region 1 with (fail)
  generalize hwA : World.alloc w _ = wA
  have zA : Blk wA w.heap.size (List.replicate 32 (.int .u8 0)) 31 := by rw [← hwA]; exact Blk.mk_alloc rfl rfl
  have eA : Ext w wA := by rw [← hwA]; exact (Ext.refl w).alloc _
  clear hwA
  go_wp2_with fail
  refine (hs.out wA (HC.out.ext eA)).mono ?_
  rintro e w1 ⟨rfl, e1⟩
  have Z1 := hid (zA.ext e1)
  have E1 := hid (eA.ext e1)
  clear zA eA e1
  go_wp2_with (refine wpl_storew rfl _ _ _ rfl rfl rfl Z1.out agg_apisum (by simp) HV.out ov ?_)
  intro w4 b4 u4
  go_wp2
  refine ret_row rfl rfl b4 agg_apisum HV.out rfl ⟨rfl, u4.ext E1.out (Nat.le_refl _)⟩

theorem info_sum : (Tryd.prog.info? 31).map (fun i => (i.zero, i.size, i.bytes)) = some (some (.agg (List.replicate 32 (.int .u8 0)).toArray), 32, 32) := by kernel_rfl
theorem zsum_size : (Value.agg (List.replicate 32 (.int .u8 0)).toArray).cells.size = 32 := by simp [Value.cells]

/-- append one row onto a row of one's own -/
theorem wpl_append_row {ops : Array Oper} {rest : List Oper} {o : Oper} {a : Act} {w : World} {Q : Exit → Act → World → Prop} (hgd : o.guard = none) (s x : Operand)
    (ho : o.op = .call { callee := .builtin .append, args := #[s, x], argTypes := #[22, 22] }) (base : Nat) {v : Value} {n c g : Nat} {ls : List (List UInt8)} {y : List UInt8} {T : TypeId}
    (hs : a.eval s = v) (hx : a.eval x = .slice (some ⟨g, 0, none⟩) 1 c) (hown : w.ownsRow base 31 32 v n (rows ls)) (hy : y.length = 32) (hb : Blk w g (y.map u8v) T)
    (hn : (n + 1) * 32 ≤ 140737488355328) (hbase : base ≤ w.heap.size)
    (h : ∀ v' w', w'.ownsRow base 31 32 v' (n + 1) (rows (ls ++ [y])) → w.grownBy w' v.ownBlock → wpList Tryd.prog ops Q rest (a.put o.dst v') w') : wpList Tryd.prog ops Q (o :: rest) a w := by
  obtain ⟨i0, hi, hz, hsz, hb1⟩ := info_parts info_sum
  exact wpList_append_own w hgd s x 22 ho base 31 i0 _ 32 32 Tryd.underlying22 hi hz hsz hb1 zsum_size (by decide) v n (rows ls) hs hown ⟨g, 0, none⟩ 1 c (y.map u8v) hx
    (by rw [List.length_map, hy]) (news_blk hb) (one_u8 _) (by unfold maxLen; omega) hn hbase (fun v' w' h1 h2 _ => h v' w' (by rw [rows_append, rows_one]; exact h1) h2)

theorem fill_row (y : List UInt8) (hy : y.length = 32) (cells : Array Value) (hc : cells.size = 32) : Instr.fill (fun i => some (i * 32, 32)) cells [(0, .agg (y.map u8v).toArray)] = some (y.map u8v).toArray := by
  have h := Great.fill_whole (s := 32) (by omega) [.agg (y.map u8v).toArray] cells (by intro v hv; rw [List.mem_singleton.1 hv]; simp [Value.cells, hy]) (by simp [hc])
  simpa [Value.cells] using h
theorem exec_buildRow {P : Program} {o : Oper} {a : Act} {t e : TypeId} {x : Operand} {y : List UInt8} (ho : o.op = .buildSlice t 1 #[(0, x)]) (hx : a.eval x = .agg (y.map u8v).toArray) (hy : y.length = 32) (hu : P.underlying t = some (.slice e))
    {ie : TypeInfo} {z : Value} (hie : P.info? e = some ie) (hz : ie.zero = some z) (hsz : ie.size = 32) (hzs : z.cells.size = 32) (w : World) :
    (execOp a.eval o).run P w = .ok (.value (.slice (some ⟨w.heap.size, 0, none⟩) 1 1)) (w.alloc (.cells (y.map u8v).toArray e)) := by
  have h := run_buildSlice (P := P) w t e 1 #[(0, .agg (y.map u8v).toArray)] (y.map u8v).toArray ie z hu hie hz (by rw [hsz]; omega) (by rw [hsz]; omega) (by rw [hsz]; exact fill_row y hy _ (by simp))
  have he : (#[(0, x)].map fun (p : Nat × Operand) => (p.1, a.eval p.2)) = #[(0, .agg (y.map u8v).toArray)] := by simp [hx]
  unfold execOp
  simp only [ho, Sem.run_bind]
  have h2 : (Instr.buildSlice t 1 (#[(0, x)].map fun (p : Nat × Operand) => (p.1, a.eval p.2))).run P w = .ok (.slice (some ⟨w.heap.size, 0, none⟩) 1 1) (w.alloc (.cells (y.map u8v).toArray e)) := by rw [he]; exact h
  rw [h2]
  rfl
theorem wpl_step {P : Program} {ops : Array Oper} {rest : List Oper} {o : Oper} {a : Act} {w w' : World} {Q : Exit → Act → World → Prop} {v : Value} (hgd : o.guard = none) (hr : (execOp a.eval o).run P w = .ok (.value v) w') (h : wpList P ops Q rest (a.put o.dst v) w') : wpList P ops Q (o :: rest) a w :=
  wpList_plain hgd fun K hK => by
    unfold Oper.wp
    rw [hr, Oper.upon_value]
    exact hK _ _ h
theorem wpl_buildRow {ops : Array Oper} {rest : List Oper} {o : Oper} {a : Act} {w : World} {Q : Exit → Act → World → Prop} (hgd : o.guard = none) {x : Operand} {y : List UInt8} (ho : o.op = .buildSlice 22 1 #[(0, x)]) (hx : a.eval x = .agg (y.map u8v).toArray) (hy : y.length = 32)
    (h : wpList Tryd.prog ops Q rest (a.put o.dst (.slice (some ⟨w.heap.size, 0, none⟩) 1 1)) (w.alloc (.cells (y.map u8v).toArray 31))) : wpList Tryd.prog ops Q (o :: rest) a w := by
  obtain ⟨i0, hi, hz, hsz, hb1⟩ := info_parts info_sum
  exact wpl_step hgd (exec_buildRow ho hx hy Tryd.underlying22 hi hz hsz zsum_size w) h
end

section
open Go Go.RowKit

def leavesL (its : List Item) : List (List UInt8) := (its.take 40).map fun it => leafL it.2.2
theorem leavesL_length (its : List Item) : (leavesL its).length = min its.length 40 := by simp [leavesL]; omega
theorem leavesL_32 (its : List Item) : All32 (leavesL its) := fun l hl => by
  obtain ⟨it, _, rfl⟩ := List.mem_map.1 hl
  exact leafL_length _

set_option maxRecDepth 100000 in
set_option maxHeartbeats 1000000 in
theorem leaves_c (its : List Item) (a : Option Addr) (n c : Nat) (w : World) (hl : its.length = n) (hnc : n ≤ c) (hcl : Cells w a (its.map itemV))
    (hits : ∀ it ∈ its, Cells w it.1 (it.2.2.map u8v) ∧ (it.1 = none → it.2.1 = 0) ∧ it.2.2.length ≤ it.2.1 ∧ it.2.1 ≤ 140737488351232) :
    Calls Tryd.prog 11 #[.slice a n c] w fun e w' => ∃ v, e = .returned v ∧ w'.ownsRow w.heap.size 31 32 v (min n 40) (rows (leavesL its)) ∧ Ext w w' := by
  have hm : min (n : Int) 40 = ((min n 40 : Nat) : Int) := by omega
  have hc : min n 40 ≤ c := by omega
  have HL := hid hl
  have HC := hid hcl
  have HI := hid hits
  clear hl hcl hits
  generalize hM : min n 40 = M at *
  have HM := hid hM
  have hMn : M ≤ n := by omega
  have hM40 : M ≤ 40 := by omega
  clear hM
  go_enter Tryd.func11, Tryd.ntmps11
  go_wp2
  go_loopw [3, 12] (fun v i wr => ∃ k : Nat, k ≤ M ∧ i = .int .i64 (k : Int) ∧ wr.ownsRow w.heap.size 31 32 v k (rows (leavesL (its.take k))) ∧ Ext w wr) (fun _ i _ => M - (intOf i).toNat)
  case atStart => exact ⟨0, by omega, rfl, World.ownsRow_nil _ _ _ _, Ext.refl w⟩
  case round =>
    obtain ⟨k, hk, rfl, own, e1⟩ := hrel
    have O1 := hid own
    have E1 := hid e1
    have hb1 := e1.size
    clear own e1
    by_cases hlt : k < M
    · obtain ⟨it, hit⟩ : ∃ it, its[k]? = some it := ⟨its[k]'(by rw [HL.out]; omega), by simp⟩
      obtain ⟨b, off, rfl, hcell⟩ := (HC.out.ext E1.out).some_of (by rw [List.length_map, HL.out]; omega)
      have hck := hcell k (itemV it) (by rw [List.getElem?_map, hit]; rfl)
      obtain ⟨hci, h0, hle, hcap⟩ := HI.out it (List.mem_of_getElem? hit)
      have hnext : leavesL (its.take (k + 1)) = leavesL (its.take k) ++ [leafL it.2.2] := by
        unfold leavesL
        rw [List.take_take, List.take_take, Nat.min_eq_right (by omega), Nat.min_eq_right (by omega), List.take_add_one, hit]
        simp
      obtain ⟨x, ci, t⟩ := it
      simp only at hci h0 hle hcap hnext
      unfold itemV at hck
      simp only at hck
      obtain ⟨q, hq⟩ : ∃ q, t.length = q := ⟨_, rfl⟩
      rw [hq] at hck hle
      have hs := hid (fun w' => short_c x q ci w' hle)
      have htl : (t.take 3000).length = min q 3000 := by rw [List.length_take, hq]; omega
      have hlf := hid (fun w' h => rleaf_c (t.take 3000) x (min q 3000) ci w' htl (by omega) h)
      rw [show sumL 1 (t.take 3000) = leafL t from rfl] at hlf
      have HY := hid (leafL_length t)
      have HYV : Hid (((leafL t).map u8v).length = 32) := hid (by rw [List.length_map, leafL_length])
      have oy := one_u8 (leafL t)
      have HN := hid hnext
      have hct : Cells w x ((t.take 3000).map u8v) := by rw [List.map_take]; exact hci.take _
      have HCT := hid hct
      clear hnext hct hci htl hq hle hcap h0 hcell hit
      generalize leafL t = y at *
      generalize min q 3000 = q3 at *
      go_wp2_with (first | (go_at_call 23; refine (hs.out _).mono ?_; rintro e w' ⟨rfl, rfl⟩))
      refine (hlf.out wr (HCT.out.ext E1.out)).mono ?_
      rintro e w2 ⟨rfl, e2⟩
      have zB : Blk (w2.alloc (.cells (y.map u8v).toArray 31)) w2.heap.size (y.map u8v) 31 := Blk.mk_alloc rfl rfl
      have e3 : Ext wr (w2.alloc (.cells (y.map u8v).toArray 31)) := e2.alloc _
      have O3 := hid (ownsRow_ext O1.out e3)
      have E3 := hid (E1.out.ext e3)
      have ZB := hid zB
      have hb3 : w.heap.size ≤ (w2.alloc (.cells (y.map u8v).toArray 31)).heap.size := E3.out.size
      clear e2 e3 zB O1 E1 hck hlf hs
      go_wp2_with (first | (refine wpl_buildRow rfl rfl rfl HY.out ?_) | (at_builtin; refine wpl_append_row rfl _ _ rfl w.heap.size rfl rfl O3.out HY.out ZB.out (by omega) hb3 ?_))
      intro v4 w4 own4 g4
      have hv4 := own_block_ge O3.out
      have E4 := hid (E3.out.grown g4 (by intro q hq; exact hv4 _ hq))
      have O4 := hid own4
      clear own4 g4 hv4 O3 E3 ZB
      go_wp2
      go_roundw
      case rel => exact ⟨k + 1, by omega, by go_num, by rw [HN.out]; exact O4.out, E4.out⟩
      case measure => simp [intOf]; omega
    · obtain rfl : k = M := by omega
      have hfin : leavesL (its.take k) = leavesL its := by
        unfold leavesL
        rw [List.take_take, ← HM.out, HL.out.symm]
        congr 1
        rcases Nat.le_total its.length 40 with h | h
        · rw [Nat.min_eq_left h, Nat.min_eq_right h, List.take_of_length_le (Nat.le_refl _), List.take_of_length_le h]
        · rw [Nat.min_eq_right h, Nat.min_self]
      have own := O1.out
      rw [hfin] at own
      have O2 := hid own
      clear own O1 hfin
      go_wp2
      go_ret
      exact ⟨_, rfl, O2.out, E1.out⟩
end

section
open Go Go.RowKit

def rootV (ls : List (List UInt8)) : List UInt8 × Int := if ls.length = 0 then (zero32, 10) else (rootS nodeL ls, 0)
end

section
open Go Go.RowKit

theorem exec_cmp {P : Program} {o : Oper} {a : Act} {op : BinOp} {t u : TypeId} {x y : Operand} (ho : o.op = .binOp op t x y u) {xs ys : Array Value} {b : Value} (hx : a.eval x = .agg xs) (hy : a.eval y = .agg ys)
    (hg : P.eqGuardType P.depth t = false) (hr : ∀ w, (binOp op t (.agg xs) (.agg ys)).run P w = .ok b w) (w : World) : (execOp a.eval o).run P w = .ok (.value b) w := by
  unfold execOp
  simp only [ho, hx, hy, Sem.run_bind, run_eqGuard_agg w op t x y xs ys hg, Result.andThen_ok, hr, Sem.run_pure]
end

section
open Go Go.RowKit

def printE (I Z : Int) (m : Nat) : Int := if I < 0 ∨ 65536 < I ∨ Z < 0 ∨ 65536 < Z then 4 else if 64 < m then 5 else 0
def printL (I Z : Int) (ls : List (List UInt8)) : List UInt8 := longL (UInt64.ofNat I.toNat) ++ longL (UInt64.ofNat Z.toNat) ++ octL (UInt32.ofNat ls.length) ++ ls.flatten
theorem octL_length (x : UInt32) : (octL x).length = 4 := rfl
theorem printL_length (I Z : Int) {ls : List (List UInt8)} (h : All32 ls) : (printL I Z ls).length = 20 + 32 * ls.length := by
  unfold printL
  rw [List.length_append, List.length_append, List.length_append, longL_length, longL_length, octL_length, flat_length h]

def printPost (I Z : Int) (ls : List (List UInt8)) (w : World) (e : Ending) (w' : World) : Prop :=
  ∃ v, e = .returned (.tuple #[v, .int .i64 (printE I Z ls.length)]) ∧ (if printE I Z ls.length = 0 then w'.ownsRow w.heap.size 5 1 v (20 + 32 * ls.length) ((printL I Z ls).map u8v) else v = .slice none 0 0) ∧ Ext w w'
end

section
open Go Go.RowKit

theorem own_of_blk {w : World} {g : Nat} {l : List UInt8} {n base : Nat} (hb : Blk w g (l.map u8v) 5) (hn : l.length = n) (hg : base ≤ g) (hm : n ≤ 9223372036854775807) : w.ownsRow base 5 1 (.slice (some ⟨g, 0, none⟩) n n) n (l.map u8v) := by
  refine ⟨by simp [hn], .inr ⟨g, n, (l.map u8v).toArray, rfl, hg, hb, Nat.le_refl _, by unfold maxLen; omega, by simp [hn], ?_⟩⟩
  rw [List.take_of_length_le (by simp [hn])]
end

section
open Go Go.RowKit

theorem list_eq_step {α : Type} [BEq α] [LawfulBEq α] {xs ys : List α} {k : Nat} {x y : α} (hx : xs[k]? = some x) (hy : ys[k]? = some y) (h : xs.take k = ys.take k) : (x = y → xs.take (k + 1) = ys.take (k + 1)) ∧ (x ≠ y → (xs == ys) = false) := by
  refine ⟨fun e => ?_, fun e => ?_⟩
  · rw [List.take_add_one, List.take_add_one, hx, hy, h, e]
  · rw [beq_eq_false_iff_ne]
    intro he
    rw [he, hy] at hx
    exact e (Option.some.inj hx).symm

set_option maxRecDepth 100000 in
set_option maxHeartbeats 1000000 in
theorem equalS_c (xs ys : List (List UInt8)) (a b : Option Addr) (n m c d : Nat) (w : World) (hn : xs.length = n) (hm : ys.length = m) (hb63 : n ≤ 4611686018427387904) (h1 : All32 xs) (h2 : All32 ys) (hx : Cells w a (rows xs)) (hy : Cells w b (rows ys)) :
    Calls Tryd.prog 8 #[.slice a n c, .slice b m d] w fun e w' => e = .returned (.bool (xs == ys)) ∧ Ext w w' := by
  have HN := hid hn
  have HM := hid hm
  have H1 := hid h1
  have H2 := hid h2
  have HX := hid hx
  have HY := hid hy
  clear hn hm h1 h2 hx hy
  by_cases hnm : n = m
  · subst hnm
    have g1 : ((n : Int) != (n : Int)) = false := by simp
    have g2 : (n != n) = false := by simp
    go_enter Tryd.func8, Tryd.ntmps8
    go_wp2
    go_loopw [13] (fun i wr => ∃ k : Nat, k ≤ n ∧ i = .int .i64 (k : Int) ∧ xs.take k = ys.take k ∧ Ext w wr) (fun i _ => n - (intOf i).toNat)
    case atStart => exact ⟨0, by omega, rfl, by simp, Ext.refl _⟩
    case round =>
      obtain ⟨k, hk, rfl, hpre, e1⟩ := hrel
      have E1 := hid e1
      have HP := hid hpre
      clear e1 hpre
      by_cases hlt : k < n
      · obtain ⟨x, hxk⟩ : ∃ x, xs[k]? = some x := ⟨xs[k]'(by rw [HN.out]; exact hlt), by simp⟩
        obtain ⟨y, hyk⟩ : ∃ y, ys[k]? = some y := ⟨ys[k]'(by rw [HM.out]; exact hlt), by simp⟩
        have hst := list_eq_step hxk hyk HP.out
        have hx0 := H1.out.at hxk
        have hy0 := H2.out.at hyk
        obtain ⟨A, rfl, hca⟩ : ∃ A, a = some A ∧ CellsAt w (A.add (k * 32)) (x.map u8v) := by
          cases a with
          | none => rcases HX.out with h | ⟨_, _, h, _⟩
                    · have := rows_length H1.out; rw [h, HN.out] at this; simp at this; omega
                    · cases h
          | some A => exact ⟨A, rfl, HX.out.rowAt H1.out hxk⟩
        obtain ⟨B, rfl, hcb⟩ : ∃ B, b = some B ∧ CellsAt w (B.add (k * 32)) (y.map u8v) := by
          cases b with
          | none => rcases HY.out with h | ⟨_, _, h, _⟩
                    · have := rows_length H2.out; rw [h, HM.out] at this; simp at this; omega
                    · cases h
          | some B => exact ⟨B, rfl, HY.out.rowAt H2.out hyk⟩
        have HCA := hid hca
        have HCB := hid hcb
        have HXV : Hid ((x.map u8v).length = 32) := hid (by rw [List.length_map, hx0])
        have HYV : Hid ((y.map u8v).length = 32) := hid (by rw [List.length_map, hy0])
        have hne := neq_arr Tryd.underlying31 x y hx0 hy0
        have HST := hid hst
        clear hca hcb hx0 hy0 hxk hyk hst
        cases hxy : (x == y) with
        | true =>
          rw [hxy] at hne
          have HNE := hid hne
          have HXY := hid (HST.out.1 (eq_of_beq hxy))
          clear hne hxy HST
          go_wp2
          obtain ⟨C, hC⟩ : ∃ C : World → Prop, C = Cls w wr [] [] := ⟨_, rfl⟩
          have hC0 : ∀ w', C w' ↔ Cls w wr [] [] w' := fun w' => by rw [hC]
          clear hC
          have HCC := hid hC0
          clear hC0
          have hCx : ∀ w w', C w → Ext w w' → C w' := fun w w' h1 h2 => (HCC.out w').2 (((HCC.out w).1 h1).ext h2)
          have hCA : C wr := (HCC.out _).2 (Cls.no_room E1.out (Kept.none _))
          have hca : ∀ w1, C w1 → CellsAt w1 (A.add (k * 32)) (x.map u8v) := fun w1 h1 => HCA.out.ext ((HCC.out w1).1 h1).base
          have hcb : ∀ w1, C w1 → CellsAt w1 (B.add (k * 32)) (y.map u8v) := fun w1 h1 => HCB.out.ext ((HCC.out w1).1 h1).base
          refine wp_region_held_drew (S := C) (by kernel_rfl) (hCx _ _ hCA (Ext.refl _).drew) (fun hS0 => ?_)
          refine held_take 0 (v := ?tv1) rfl (by kernel_rfl) (by kernel_rfl) (by kernel_rfl) (fun _ _ _ h => h) (.inl ⟨rfl, ?ty1⟩) hS0 ?tr1
          case ty1 => (intro _ _; go_simp; try with_reducible rfl)
          case tr1 =>
          simp only [Act.put, List.setIfInBounds_toArray, List.set_cons_succ, List.set_cons_zero]
          refine held_take 1 (v := ?tv2) rfl (by kernel_rfl) (by kernel_rfl) (by kernel_rfl) (fun _ _ _ h => h) (.inl ⟨rfl, ?ty2⟩) hS0 ?tr2
          case ty2 => (intro _ _; go_simp; try with_reducible rfl)
          case tr2 =>
          simp only [Act.put, List.setIfInBounds_toArray, List.set_cons_succ, List.set_cons_zero]
          refine held_take 2 (v := _) rfl (by kernel_rfl) (by kernel_rfl) (by kernel_rfl) (fun _ _ _ h => h) (yieldsI_run rfl (fun w1 _ => exec_index (i := k) rfl rfl rfl Tryd.underlying22 size_apisum hlt w1)) hS0 ?_
          simp only [Act.put, List.setIfInBounds_toArray, List.set_cons_succ, List.set_cons_zero]
          refine held_take 3 (v := _) rfl (by kernel_rfl) (by kernel_rfl) (by kernel_rfl) (fun _ _ _ h => h) (yieldsI_run rfl (fun w1 h => exec_load_at rfl rfl (hca w1 h) agg_apisum HXV.out)) hS0 ?_
          simp only [Act.put, List.setIfInBounds_toArray, List.set_cons_succ, List.set_cons_zero]
          refine held_take 4 (v := ?tv3) rfl (by kernel_rfl) (by kernel_rfl) (by kernel_rfl) (fun _ _ _ h => h) (.inl ⟨rfl, ?ty3⟩) hS0 ?tr3
          case ty3 => (intro _ _; go_simp; try with_reducible rfl)
          case tr3 =>
          simp only [Act.put, List.setIfInBounds_toArray, List.set_cons_succ, List.set_cons_zero]
          refine held_take 5 (v := ?tv4) rfl (by kernel_rfl) (by kernel_rfl) (by kernel_rfl) (fun _ _ _ h => h) (.inl ⟨rfl, ?ty4⟩) hS0 ?tr4
          case ty4 => (intro _ _; go_simp; try with_reducible rfl)
          case tr4 =>
          simp only [Act.put, List.setIfInBounds_toArray, List.set_cons_succ, List.set_cons_zero]
          refine held_take 6 (v := _) rfl (by kernel_rfl) (by kernel_rfl) (by kernel_rfl) (fun _ _ _ h => h) (yieldsI_run rfl (fun w1 _ => exec_index (i := k) rfl rfl rfl Tryd.underlying22 size_apisum hlt w1)) hS0 ?_
          simp only [Act.put, List.setIfInBounds_toArray, List.set_cons_succ, List.set_cons_zero]
          refine held_take 7 (v := _) rfl (by kernel_rfl) (by kernel_rfl) (by kernel_rfl) (fun _ _ _ h => h) (yieldsI_run rfl (fun w1 h => exec_load_at rfl rfl (hcb w1 h) agg_apisum HYV.out)) hS0 ?_
          simp only [Act.put, List.setIfInBounds_toArray, List.set_cons_succ, List.set_cons_zero]
          refine held_take 8 (v := _) rfl (by kernel_rfl) (by kernel_rfl) (by kernel_rfl) (fun _ _ _ h => h) (yieldsI_run rfl (fun w1 _ => exec_cmp rfl rfl rfl guard_sum HNE.out w1)) hS0 ?_
          simp only [Act.put, List.setIfInBounds_toArray, List.set_cons_succ, List.set_cons_zero]
          refine wpAnyH_done (by kernel_rfl) ?_ _
          have E2 := hid ((HCC.out _).1 hS0).base
          clear hS0 hca hcb hCx hCA HCC
          go_wp2
          go_roundw
          case rel => exact ⟨k + 1, by omega, by go_num, HXY.out, E2.out⟩
          case measure => simp [intOf]; omega
        | false =>
          rw [hxy] at hne
          have HNE := hid hne
          have hres := HST.out.2 (fun e => by rw [e] at hxy; simp at hxy)
          have HRES := hid hres
          clear hne hxy HST hres
          go_wp2
          obtain ⟨C, hC⟩ : ∃ C : World → Prop, C = Cls w wr [] [] := ⟨_, rfl⟩
          have hC0 : ∀ w', C w' ↔ Cls w wr [] [] w' := fun w' => by rw [hC]
          clear hC
          have HCC := hid hC0
          clear hC0
          have hCx : ∀ w w', C w → Ext w w' → C w' := fun w w' h1 h2 => (HCC.out w').2 (((HCC.out w).1 h1).ext h2)
          have hCA : C wr := (HCC.out _).2 (Cls.no_room E1.out (Kept.none _))
          have hca : ∀ w1, C w1 → CellsAt w1 (A.add (k * 32)) (x.map u8v) := fun w1 h1 => HCA.out.ext ((HCC.out w1).1 h1).base
          have hcb : ∀ w1, C w1 → CellsAt w1 (B.add (k * 32)) (y.map u8v) := fun w1 h1 => HCB.out.ext ((HCC.out w1).1 h1).base
          refine wp_region_held_drew (S := C) (by kernel_rfl) (hCx _ _ hCA (Ext.refl _).drew) (fun hS0 => ?_)
          refine held_take 0 (v := ?tv5) rfl (by kernel_rfl) (by kernel_rfl) (by kernel_rfl) (fun _ _ _ h => h) (.inl ⟨rfl, ?ty5⟩) hS0 ?tr5
          case ty5 => (intro _ _; go_simp; try with_reducible rfl)
          case tr5 =>
          simp only [Act.put, List.setIfInBounds_toArray, List.set_cons_succ, List.set_cons_zero]
          refine held_take 1 (v := ?tv6) rfl (by kernel_rfl) (by kernel_rfl) (by kernel_rfl) (fun _ _ _ h => h) (.inl ⟨rfl, ?ty6⟩) hS0 ?tr6
          case ty6 => (intro _ _; go_simp; try with_reducible rfl)
          case tr6 =>
          simp only [Act.put, List.setIfInBounds_toArray, List.set_cons_succ, List.set_cons_zero]
          refine held_take 2 (v := _) rfl (by kernel_rfl) (by kernel_rfl) (by kernel_rfl) (fun _ _ _ h => h) (yieldsI_run rfl (fun w1 _ => exec_index (i := k) rfl rfl rfl Tryd.underlying22 size_apisum hlt w1)) hS0 ?_
          simp only [Act.put, List.setIfInBounds_toArray, List.set_cons_succ, List.set_cons_zero]
          refine held_take 3 (v := _) rfl (by kernel_rfl) (by kernel_rfl) (by kernel_rfl) (fun _ _ _ h => h) (yieldsI_run rfl (fun w1 h => exec_load_at rfl rfl (hca w1 h) agg_apisum HXV.out)) hS0 ?_
          simp only [Act.put, List.setIfInBounds_toArray, List.set_cons_succ, List.set_cons_zero]
          refine held_take 4 (v := ?tv7) rfl (by kernel_rfl) (by kernel_rfl) (by kernel_rfl) (fun _ _ _ h => h) (.inl ⟨rfl, ?ty7⟩) hS0 ?tr7
          case ty7 => (intro _ _; go_simp; try with_reducible rfl)
          case tr7 =>
          simp only [Act.put, List.setIfInBounds_toArray, List.set_cons_succ, List.set_cons_zero]
          refine held_take 5 (v := ?tv8) rfl (by kernel_rfl) (by kernel_rfl) (by kernel_rfl) (fun _ _ _ h => h) (.inl ⟨rfl, ?ty8⟩) hS0 ?tr8
          case ty8 => (intro _ _; go_simp; try with_reducible rfl)
          case tr8 =>
          simp only [Act.put, List.setIfInBounds_toArray, List.set_cons_succ, List.set_cons_zero]
          refine held_take 6 (v := _) rfl (by kernel_rfl) (by kernel_rfl) (by kernel_rfl) (fun _ _ _ h => h) (yieldsI_run rfl (fun w1 _ => exec_index (i := k) rfl rfl rfl Tryd.underlying22 size_apisum hlt w1)) hS0 ?_
          simp only [Act.put, List.setIfInBounds_toArray, List.set_cons_succ, List.set_cons_zero]
          refine held_take 7 (v := _) rfl (by kernel_rfl) (by kernel_rfl) (by kernel_rfl) (fun _ _ _ h => h) (yieldsI_run rfl (fun w1 h => exec_load_at rfl rfl (hcb w1 h) agg_apisum HYV.out)) hS0 ?_
          simp only [Act.put, List.setIfInBounds_toArray, List.set_cons_succ, List.set_cons_zero]
          refine held_take 8 (v := _) rfl (by kernel_rfl) (by kernel_rfl) (by kernel_rfl) (fun _ _ _ h => h) (yieldsI_run rfl (fun w1 _ => exec_cmp rfl rfl rfl guard_sum HNE.out w1)) hS0 ?_
          simp only [Act.put, List.setIfInBounds_toArray, List.set_cons_succ, List.set_cons_zero]
          refine wpAnyH_done (by kernel_rfl) ?_ _
          have E2 := hid ((HCC.out _).1 hS0).base
          clear hS0 hca hcb hCx hCA HCC
          go_wp2
          go_ret
          exact ⟨by rw [HRES.out]; rfl, E2.out⟩
      · obtain rfl : k = n := by omega
        have he : xs = ys := by
          have := HP.out
          rwa [List.take_of_length_le (by rw [HN.out]; exact Nat.le_refl _), List.take_of_length_le (by rw [HM.out]; exact Nat.le_refl _)] at this
        have hb : (xs == ys) = true := by rw [he]; simp
        have HRES := hid hb
        clear he hb
        go_wp2
        go_ret
        exact ⟨by rw [HRES.out]; rfl, E1.out⟩
  · have g1 : ((n : Int) != (m : Int)) = true := by simp; omega
    have g2 : (n != m) = true := by simp [hnm]
    have hb : (xs == ys) = false := by
      rw [beq_eq_false_iff_ne]
      intro he
      exact hnm (by rw [← HN.out, ← HM.out, he])
    rw [hb]
    clear hb hnm
    go_enter Tryd.func8, Tryd.ntmps8
    go_wp2
    go_ret
    exact ⟨rfl, Ext.refl _⟩
end

section
open Go Go.RowKit

def popF : Nat → Nat → Nat
  | 0, _ => 0
  | f + 1, k => k % 2 + popF f (k / 2)
def ocA (x : Nat) : Nat := (x / 2 &&& 6148914691236517205) + (x &&& 6148914691236517205)
def ocB (a : Nat) : Nat := (a / 4 &&& 3689348814741910323) + (a &&& 3689348814741910323)
def ocC (b : Nat) : Nat := (b / 16 + b) &&& 1085102592571150095
def ocD (c : Nat) : Nat := (c + c / 256 + (c + c / 256) / 65536 + (c + c / 256 + (c + c / 256) / 65536) / 4294967296) % 128
def oc64 (x : Nat) : Nat := ocD (ocC (ocB (ocA x)))
def a8 (l : Nat) : Nat := (l / 2 &&& 85) + (l &&& 85)
def b8 (a : Nat) : Nat := (a / 4 &&& 51) + (a &&& 51)
def c8 (b : Nat) : Nat := (b / 16 + b) &&& 15

theorem land_byte (x M m : Nat) (hm : m < 256) : x &&& (256 * M + m) = 256 * (x / 256 &&& M) + (x % 256 &&& m) := by
  have h1 : (x &&& (256 * M + m)) / 2 ^ 8 = x / 2 ^ 8 &&& (256 * M + m) / 2 ^ 8 := Nat.and_div_two_pow
  have h2 : (x &&& (256 * M + m)) % 2 ^ 8 = x % 2 ^ 8 &&& (256 * M + m) % 2 ^ 8 := Nat.and_mod_two_pow
  have e1 : (256 * M + m) / 2 ^ 8 = M := by omega
  have e2 : (256 * M + m) % 2 ^ 8 = m := by omega
  rw [e1] at h1
  rw [e2] at h2
  have := Nat.div_add_mod (x &&& (256 * M + m)) (2 ^ 8)
  rw [h1, h2] at this
  exact this.symm
theorem byteA : ∀ (t : Fin 2) (l : Fin 256), (128 * t.val + l.val / 2) &&& 85 = l.val / 2 &&& 85 := by decide +kernel
theorem byteB : ∀ (t : Fin 4) (l : Fin 256), (64 * t.val + l.val / 4) &&& 51 = l.val / 4 &&& 51 := by decide +kernel
theorem boundA : ∀ l : Fin 256, a8 l.val ≤ 170 := by decide +kernel
theorem boundB : ∀ l : Fin 256, b8 (a8 l.val) ≤ 68 ∧ b8 (a8 l.val) % 16 ≤ 4 := by decide +kernel
theorem byteC : ∀ l : Fin 256, c8 (b8 (a8 l.val)) = popF 8 l.val := by decide +kernel
theorem small_land (h M m : Nat) (hh : h < 256) (hm : m < 256) : h &&& (256 * M + m) = h &&& m := by
  rw [land_byte h M m hm, Nat.div_eq_of_lt hh, Nat.zero_and, Nat.mul_zero, Nat.zero_add, Nat.mod_eq_of_lt hh]
theorem ocA_byte (h l : Nat) (hh : h < 256) (hl : l < 256) : ocA (256 * h + l) = 256 * a8 h + a8 l := by
  unfold ocA
  rw [show (6148914691236517205 : Nat) = 256 * 24019198012642645 + 85 from rfl, land_byte _ _ 85 (by omega), land_byte (256 * h + l) _ 85 (by omega)]
  have e1 : (256 * h + l) / 2 / 256 = h / 2 := by omega
  have e2 : (256 * h + l) / 2 % 256 = 128 * (h % 2) + l / 2 := by omega
  have e3 : (256 * h + l) / 256 = h := by omega
  have e4 : (256 * h + l) % 256 = l := by omega
  rw [e1, e2, e3, e4, byteA ⟨h % 2, by omega⟩ ⟨l, hl⟩, show (24019198012642645 : Nat) = 256 * 93824992236885 + 85 from rfl, small_land (h / 2) _ 85 (by omega) (by omega), small_land h _ 85 (by omega) (by omega)]
  unfold a8
  simp only
  omega
theorem ocB_byte (h l : Nat) (hh : h < 256) (hl : l < 256) : ocB (256 * h + l) = 256 * b8 h + b8 l := by
  unfold ocB
  rw [show (3689348814741910323 : Nat) = 256 * 14411518807585587 + 51 from rfl, land_byte _ _ 51 (by omega), land_byte (256 * h + l) _ 51 (by omega)]
  have e1 : (256 * h + l) / 4 / 256 = h / 4 := by omega
  have e2 : (256 * h + l) / 4 % 256 = 64 * (h % 4) + l / 4 := by omega
  have e3 : (256 * h + l) / 256 = h := by omega
  have e4 : (256 * h + l) % 256 = l := by omega
  rw [e1, e2, e3, e4, byteB ⟨h % 4, by omega⟩ ⟨l, hl⟩, show (14411518807585587 : Nat) = 256 * 56294995342131 + 51 from rfl, small_land (h / 4) _ 51 (by omega) (by omega), small_land h _ 51 (by omega) (by omega)]
  unfold b8
  simp only
  omega
theorem and15 (y : Nat) : y &&& 15 = y % 16 := Nat.and_two_pow_sub_one_eq_mod y 4
theorem ocC_byte (h l : Nat) (hh : h ≤ 68) (hh2 : h % 16 ≤ 4) (hl : l ≤ 68) : ocC (256 * h + l) = 256 * c8 h + c8 l := by
  unfold ocC
  rw [show (1085102592571150095 : Nat) = 256 * 4238682002231055 + 15 from rfl, land_byte _ _ 15 (by omega)]
  have e1 : ((256 * h + l) / 16 + (256 * h + l)) / 256 = h / 16 + h := by omega
  have e2 : ((256 * h + l) / 16 + (256 * h + l)) % 256 = 16 * (h % 16) + (l / 16 + l) := by omega
  rw [e1, e2, show (4238682002231055 : Nat) = 256 * 16557351571215 + 15 from rfl, small_land (h / 16 + h) _ 15 (by omega) (by omega)]
  unfold c8
  rw [and15, and15, and15]
  omega
theorem popF_zero (f : Nat) : popF f 0 = 0 := by
  induction f with
  | zero => rfl
  | succ f ih => simp only [popF, Nat.zero_mod, Nat.zero_div, ih]
theorem popF_more (f g k : Nat) (h : k < 2 ^ f) : popF (f + g) k = popF f k := by
  induction f generalizing k with
  | zero =>
    have : k = 0 := by simpa using h
    subst this
    rw [popF_zero, popF_zero]
  | succ f ih =>
    have h2 : k / 2 < 2 ^ f := by rw [Nat.pow_succ] at h; omega
    rw [show f + 1 + g = (f + g) + 1 by omega]
    simp only [popF]
    rw [ih _ h2]
theorem popF_split (f h l : Nat) (hl : l < 2 ^ f) (g : Nat) : popF (f + g) (2 ^ f * h + l) = popF f l + popF g h := by
  induction f generalizing l with
  | zero =>
    have : l = 0 := by simpa using hl
    subst this
    simp [popF]
  | succ f ih =>
    have e : 2 ^ (f + 1) = 2 * 2 ^ f := by rw [Nat.pow_succ]; omega
    rw [e] at hl ⊢
    have h1 : (2 * 2 ^ f * h + l) % 2 = l % 2 := by rw [Nat.mul_assoc]; omega
    have h2 : (2 * 2 ^ f * h + l) / 2 = 2 ^ f * h + l / 2 := by rw [Nat.mul_assoc]; omega
    rw [show f + 1 + g = (f + g) + 1 by omega]
    simp only [popF]
    rw [h1, h2, ih _ (by omega)]
    omega
theorem popF_le (f k : Nat) : popF f k ≤ f := by
  induction f generalizing k with
  | zero => exact Nat.le_refl _
  | succ f ih => simp only [popF]; have := ih (k / 2); omega
theorem oc_size {x : Nat} (hx : x ≤ 65536) : oc64 x = popF 63 x := by
  by_cases h6 : x = 65536
  · subst h6; decide +kernel
  · obtain ⟨h, l, hh, hl, rfl⟩ : ∃ h l, h < 256 ∧ l < 256 ∧ x = 256 * h + l := ⟨x / 256, x % 256, by omega, by omega, by omega⟩
    have bh := boundB ⟨h, hh⟩
    have bl := boundB ⟨l, hl⟩
    have ah := boundA ⟨h, hh⟩
    have al := boundA ⟨l, hl⟩
    have ch := byteC ⟨h, hh⟩
    have cl := byteC ⟨l, hl⟩
    simp only at bh bl ah al ch cl
    unfold oc64
    rw [ocA_byte h l hh hl, ocB_byte _ _ (by omega) (by omega), ocC_byte _ _ bh.1 bh.2 bl.1, ch, cl]
    have p1 := popF_le 8 h
    have p2 := popF_le 8 l
    have e : popF 63 (256 * h + l) = popF 8 l + popF 55 h := popF_split 8 h l hl 55
    have e5 : popF 55 h = popF 8 h := popF_more 8 47 h hh
    rw [e, e5]
    unfold ocD
    generalize popF 8 h = A at *
    generalize popF 8 l = B at *
    have d1 : (256 * A + B) / 256 = A := by omega
    rw [d1]
    have d2 : (256 * A + B + A) / 65536 = 0 := by omega
    rw [d2, Nat.add_zero]
    have d3 : (256 * A + B + A) / 4294967296 = 0 := by omega
    rw [d3, Nat.add_zero]
    omega

theorem land_le (x m : Nat) : x &&& m ≤ m := Nat.and_le_right
theorem and_lit (x : Nat) (hx : x < 18446744073709551616) : bits .and .u64 (x : Int) 6148914691236517205 = ((x &&& 6148914691236517205 : Nat) : Int) ∧ bits .and .u64 (x : Int) 3689348814741910323 = ((x &&& 3689348814741910323 : Nat) : Int) ∧ bits .and .u64 (x : Int) 1085102592571150095 = ((x &&& 1085102592571150095 : Nat) : Int) :=
  ⟨bits_and_u64_nat x 6148914691236517205 hx (by omega), bits_and_u64_nat x 3689348814741910323 hx (by omega), bits_and_u64_nat x 1085102592571150095 hx (by omega)⟩
theorem and127 (F : Nat) (hF : F < 9223372036854775808) : bits .and .i64 (F : Int) 127 = ((F % 128 : Nat) : Int) := by
  have ea : (BitVec.ofInt 64 (F : Int)).toNat = F := by rw [BitVec.toNat_ofInt]; omega
  have eb : (BitVec.ofInt 64 (127 : Int)).toNat = 127 := by decide
  change IntKind.i64.wrap ((BitVec.ofInt 64 (F : Int) &&& BitVec.ofInt 64 (127 : Int)).toNat : Int) = _
  rw [BitVec.toNat_and, ea, eb, show F &&& 127 = F % 128 from Nat.and_two_pow_sub_one_eq_mod F 7, IntWalk.i64_in _ (by omega)]

set_option maxRecDepth 100000 in
set_option maxHeartbeats 1000000 in
theorem onesCount64_c (x : Nat) (w : World) (hx : x < 18446744073709551616) :
    Calls Tryd.prog 28 #[.int .u64 (x : Int)] w fun e w' => e = .returned (.int .i64 ((oc64 x : Nat) : Int)) ∧ w = w' := by
  have a1 := (and_lit (x / 2) (by omega)).1
  have a2 := (and_lit x hx).1
  rw [show ((x / 2 : Nat) : Int) = (x : Int) / 2 by omega] at a1
  have b1 := land_le (x / 2) 6148914691236517205
  have b2 := land_le x 6148914691236517205
  have e1 : IntKind.u64.wrap (bits .and .u64 ((x : Int) / 2) 6148914691236517205 + bits .and .u64 (x : Int) 6148914691236517205) = ((ocA x : Nat) : Int) := by
    rw [a1, a2, IntWalk.u64_in _ (by omega)]; unfold ocA; omega
  have hA : ocA x < 18446744073709551616 := by unfold ocA; omega
  have hfin : oc64 x = ocD (ocC (ocB (ocA x))) := rfl
  generalize ocA x = A at *
  clear a1 a2 b1 b2
  have a1 := (and_lit (A / 4) (by omega)).2.1
  have a2 := (and_lit A hA).2.1
  rw [show ((A / 4 : Nat) : Int) = (A : Int) / 4 by omega] at a1
  have b1 := land_le (A / 4) 3689348814741910323
  have b2 := land_le A 3689348814741910323
  have e2 : IntKind.u64.wrap (bits .and .u64 ((A : Int) / 4) 3689348814741910323 + bits .and .u64 (A : Int) 3689348814741910323) = ((ocB A : Nat) : Int) := by
    rw [a1, a2, IntWalk.u64_in _ (by omega)]; unfold ocB; omega
  have hB : ocB A ≤ 7378697629483820646 := by unfold ocB; omega
  generalize ocB A = B at *
  clear a1 a2 b1 b2
  have a1 := (and_lit (B / 16 + B) (by omega)).2.2
  have b1 := land_le (B / 16 + B) 1085102592571150095
  have e3 : bits .and .u64 (IntKind.u64.wrap ((B : Int) / 16 + (B : Int))) 1085102592571150095 = ((ocC B : Nat) : Int) := by
    rw [IntWalk.u64_in _ (by omega)]
    rw [show (B : Int) / 16 + (B : Int) = ((B / 16 + B : Nat) : Int) by omega, a1]; rfl
  have hC : ocC B ≤ 1085102592571150095 := b1
  generalize ocC B = C at *
  clear a1 b1
  obtain ⟨D, hD⟩ : ∃ D, C + C / 256 = D := ⟨_, rfl⟩
  obtain ⟨E, hE⟩ : ∃ E, D + D / 65536 = E := ⟨_, rfl⟩
  obtain ⟨F, hF⟩ : ∃ F, E + E / 4294967296 = F := ⟨_, rfl⟩
  have e4 : IntKind.u64.wrap ((C : Int) + (C : Int) / 256) = (D : Int) := by rw [IntWalk.u64_in _ (by omega)]; omega
  have e5 : IntKind.u64.wrap ((D : Int) + (D : Int) / 65536) = (E : Int) := by rw [IntWalk.u64_in _ (by omega)]; omega
  have e6 : IntKind.u64.wrap ((E : Int) + (E : Int) / 4294967296) = (F : Int) := by rw [IntWalk.u64_in _ (by omega)]; omega
  have hFl : F < 9223372036854775808 := by omega
  have hR : oc64 x = F % 128 := by rw [hfin]; unfold ocD; rw [hD, hE, hF]
  have e7 := and127 F hFl
  have e8 : IntKind.i64.wrap (F : Int) = F := IntWalk.i64_in _ (by omega)
  rw [hR]
  clear hfin hR hD hE hF hA hB hC
  go_enter Tryd.func28, Tryd.ntmps28
  go_wp2
  go_ret
  exact ⟨by first | rfl | go_num, rfl⟩

set_option maxRecDepth 100000 in
set_option maxHeartbeats 1000000 in
theorem onesCount_c (x : Nat) (w : World) (hx : x < 18446744073709551616) :
    Calls Tryd.prog 18 #[.int .u64 (x : Int)] w fun e w' => e = .returned (.int .i64 ((oc64 x : Nat) : Int)) ∧ w = w' := by
  have h := hid (fun w' => onesCount64_c x w' hx)
  go_enter Tryd.func18, Tryd.ntmps18
  go_wp2_with (first | (go_at_call 28; refine (h.out _).mono ?_; rintro e w' ⟨rfl, rfl⟩))
  go_ret
  exact ⟨rfl, rfl⟩
end

section
open Go Go.RowKit

set_option maxRecDepth 100000 in
set_option maxHeartbeats 1000000 in
theorem cloneS_c (ls : List (List UInt8)) (a : Option Addr) (n c : Nat) (w : World) (hnl : ls.length = n) (h32 : All32 ls) (hn : n * 32 ≤ 140737488355320) (hcl : Cells w a (rows ls)) :
    Calls Tryd.prog 19 #[.slice a n c] w fun e w' => ∃ v, e = .returned v ∧ w'.ownsRow w.heap.size 31 32 v n (rows ls) ∧ (v = .slice none 0 0 ↔ a = none) ∧ Ext w w' := by
  have hrl := rows_length h32
  rw [hnl] at hrl
  have HR := hid hrl
  have HN := hid hnl
  have HC := hid hcl
  clear hnl hcl h32 hrl
  obtain ⟨i0, hi, hz, hs, hb1⟩ := info_parts info_sum
  have q26 : ∀ (w : World) (a : Option Addr) (n c n' c' : Nat), (binOp .eql 22 (.slice a n c) (.slice none n' c')).run Tryd.prog w = .ok (.bool a.isNone) w := fun w a n c n' c' => Lib.run_eql_slice_nil w _ _ a n c n' c' Tryd.underlying22
  have o1 : ∀ v ∈ rows ls, v.oneCell' = true := one_u8 _
  cases a with
  | none =>
    have hl : rows ls = [] := by
      rcases HC.out with h | ⟨_, _, h, _⟩
      · exact h
      · cases h
    have hn0 : n = 0 := by have := HR.out; rw [hl] at this; simp at this; omega
    subst hn0
    have HL := hid hl
    clear hl HN HC
    go_enter Tryd.func19, Tryd.ntmps19
    go_wp2
    go_ret
    exact ⟨_, rfl, by rw [HL.out]; exact World.ownsRow_nil _ _ _ _, by simp, Ext.refl _⟩
  | some ad =>
    generalize rows ls = rl at *
    go_enter Tryd.func19, Tryd.ntmps19
    go_wp2_with (at_builtin; refine wpList_append_own _ rfl _ _ 22 rfl w.heap.size 31 i0 _ 32 32 Tryd.underlying22 hi hz hs hb1 zsum_size (by decide) _ _ _ rfl (World.ownsRow_made w #[] 0 (Nat.le_refl _) (Nat.zero_le _) (by simp)) ad n c rl rfl ?qc1 (news_cells (HC.out.ext ((Ext.refl w).alloc _))) o1 ?qc4 ?qc5 ?qc6 ?_)
    case qc1 => have := HR.out; omega
    case qc4 => unfold maxLen; omega
    case qc5 => omega
    case qc6 => simp
    intro v' w1 hown hgrow hnil
    have e1 : Ext w w1 := ((Ext.refl w).alloc _).grown hgrow (by intro k hk; simp [Value.ownBlock] at hk; omega)
    clear hgrow
    go_wp2
    go_ret
    exact ⟨v', rfl, by simpa using hown, by simp [hnil], e1⟩

theorem own_block_lt' {w : World} {B : Nat} {e : TypeId} {size n : Nat} {v : Value} {xs : List Value} (h : w.ownsRow B e size v n xs) : ∀ g, v.ownBlock = some g → g < w.heap.size := by
  intro g hg
  rcases h.2 with ⟨rfl, _⟩ | ⟨g', cap, cur, rfl, hb, hc, _⟩
  · cases hg
  · simp [Value.ownBlock] at hg
    subst hg
    exact (Array.getElem?_eq_some_iff.1 hc).1

/-- a frontier's cells -/
def frL (n : Nat) (v : Value) : List Value := [.int .i64 (n : Int), v]

set_option maxRecDepth 100000 in
set_option maxHeartbeats 1000000 in
theorem frontierOf_range (z : Int) (a : Option Addr) (n c : Nat) (w : World) (hz : z < 0 ∨ 65536 < z) :
    Calls Tryd.prog 6 #[.int .i64 z, .slice a n c] w fun e w' => e = .returned (.tuple #[.pointer none, .int .i64 4]) ∧ w = w' := by
  by_cases h0 : z < 0
  · have g1 : decide (z < 0) = true := decide_eq_true h0
    clear hz
    go_enter Tryd.func6, Tryd.ntmps6
    go_wp2
    go_ret2
    exact ⟨rfl, rfl⟩
  · have g1 : decide (z < 0) = false := decide_eq_false h0
    have g2 : decide (z > 65536) = true := decide_eq_true (by omega)
    have g3 : decide (65536 < z) = true := decide_eq_true (by omega)
    go_enter Tryd.func6, Tryd.ntmps6
    go_wp2
    go_ret2
    exact ⟨rfl, rfl⟩

set_option maxRecDepth 100000 in
set_option maxHeartbeats 1000000 in
theorem frontierOf_form (S : Nat) (a : Option Addr) (n c : Nat) (w : World) (hS : S ≤ 65536) (hn : n ≠ popF 63 S) :
    Calls Tryd.prog 6 #[.int .i64 (S : Int), .slice a n c] w fun e w' => e = .returned (.tuple #[.pointer none, .int .i64 2]) ∧ w = w' := by
  have ho := hid (fun w' => onesCount_c S w' (by omega))
  rw [oc_size hS] at ho
  generalize popF 63 S = p at *
  have g1 : decide ((S : Int) < 0) = false := decide_eq_false (by omega)
  have g2 : decide ((S : Int) > 65536) = false := decide_eq_false (by omega)
  have g3 : decide (65536 < (S : Int)) = false := decide_eq_false (by omega)
  have g4 : ((n : Int) != (p : Int)) = true := by simp; omega
  have g5 : (n != p) = true := by simp [hn]
  have g6 : IntKind.u64.wrap (S : Int) = S := IntWalk.u64_in _ (by omega)
  go_enter Tryd.func6, Tryd.ntmps6
  go_wp2_with (first | (go_at_call 18; refine (ho.out _).mono ?_; rintro e w' ⟨rfl, rfl⟩))
  go_ret2
  exact ⟨rfl, rfl⟩

set_option maxRecDepth 100000 in
set_option maxHeartbeats 1000000 in
theorem frontierOf_c (S : Nat) (ls : List (List UInt8)) (a : Option Addr) (n c : Nat) (w : World) (hS : S ≤ 65536) (hl : ls.length = n) (h32 : All32 ls) (hcl : Cells w a (rows ls)) (hn : n = popF 63 S) :
    Calls Tryd.prog 6 #[.int .i64 (S : Int), .slice a n c] w fun e w' => ∃ g v, e = .returned (.tuple #[.pointer (some ⟨g, 0, none⟩), .int .i64 0]) ∧ w.heap.size ≤ g ∧ Blk w' g (frL S v) 48 ∧ w'.ownsRow w.heap.size 31 32 v n (rows ls) ∧ v.ownBlock ≠ some g ∧ Ext w w' := by
  have hp := popF_le 63 S
  have ho := hid (fun w' => onesCount_c S w' (by omega))
  rw [oc_size hS] at ho
  have hcn := hid (cloneS_c ls a n c w hl h32 (by omega) hcl)
  clear hl h32 hcl
  generalize popF 63 S = p at *
  subst hn
  have g1 : decide ((S : Int) < 0) = false := decide_eq_false (by omega)
  have g2 : decide ((S : Int) > 65536) = false := decide_eq_false (by omega)
  have g3 : decide (65536 < (S : Int)) = false := decide_eq_false (by omega)
  have g4 : ((n : Int) != (n : Int)) = false := by simp
  have g5 : (n != n) = false := by simp
  have g6 : IntKind.u64.wrap (S : Int) = S := IntWalk.u64_in _ (by omega)
  go_enter Tryd.func6, Tryd.ntmps6
  go_wp2_with (first | (go_at_call 18; refine (ho.out _).mono ?_; rintro e w' ⟨rfl, rfl⟩))
  refine hcn.out.mono ?_
  rintro e w1 ⟨v, rfl, own, -, e1⟩
  have O1 := hid own
  have E1 := hid e1
  obtain ⟨va, vc, rfl, -⟩ := own_sliceT (by decide) own
  clear own e1 hcn
  go_wp2
  go_ret2
  refine ⟨w1.heap.size, .slice va n vc, rfl, E1.out.size, ?_, ownsRow_ext O1.out ((Ext.refl w1).alloc _), ?_, E1.out.alloc _⟩
  · exact Blk.mk_alloc rfl rfl
  · intro h
    have := own_block_lt' O1.out _ h
    omega

set_option maxRecDepth 100000 in
set_option maxHeartbeats 1000000 in
theorem size_c (g S : Nat) (v : Value) (T : TypeId) (w : World) (hb : Blk w g (frL S v) T) :
    Calls Tryd.prog 7 #[.pointer (some ⟨g, 0, none⟩)] w fun e w' => e = .returned (.int .i64 (S : Int)) ∧ w = w' := by
  have c0 : w.cell? ⟨g, 0, none⟩ = some (.int .i64 (S : Int)) := hb.cell' rfl
  clear hb
  go_enter Tryd.func7, Tryd.ntmps7
  go_wp2
  go_ret
  exact ⟨rfl, rfl⟩

set_option maxRecDepth 100000 in
set_option maxHeartbeats 1000000 in
theorem peaks_c (g S : Nat) (T : TypeId) (ls : List (List UInt8)) (a : Option Addr) (n c : Nat) (w : World) (hb : Blk w g (frL S (.slice a n c)) T) (hnl : ls.length = n) (h32 : All32 ls) (hn : n * 32 ≤ 140737488355320) (hcl : Cells w a (rows ls)) :
    Calls Tryd.prog 9 #[.pointer (some ⟨g, 0, none⟩)] w fun e w' => ∃ v, e = .returned v ∧ w'.ownsRow w.heap.size 31 32 v n (rows ls) ∧ Ext w w' := by
  have c1 : w.cell? ⟨g, 1, none⟩ = some (.slice a n c) := hb.cell' rfl
  have hcn := hid (cloneS_c ls a n c w hnl h32 hn hcl)
  clear hb hnl h32 hcl
  go_enter Tryd.func9, Tryd.ntmps9
  go_wp2_with fail
  refine hcn.out.mono ?_
  rintro e w1 ⟨v, rfl, own, -, e1⟩
  go_wp2_with fail
  go_ret
  exact ⟨v, rfl, own, e1⟩

set_option maxRecDepth 100000 in
set_option maxHeartbeats 1000000 in
theorem add_large (g : Nat) (v : Value) (y : List UInt8) (T : TypeId) (w : World) (hb : Blk w g (frL 65536 v) T) :
    Calls Tryd.prog 10 #[.pointer (some ⟨g, 0, none⟩), .agg (y.map u8v).toArray] w fun e w' => e = .returned (.int .i64 5) ∧ Ext w w' := by
  have c0 : w.cell? ⟨g, 0, none⟩ = some (.int .i64 65536) := hb.cell' rfl
  have hg := hb.lt
  have c1 : (w.alloc (.cells (y.map u8v).toArray 31)).cell? ⟨g, 0, none⟩ = some (.int .i64 65536) := (hb.alloc _).cell' rfl
  clear hb
  go_enter Tryd.func10, Tryd.ntmps10
  go_wp2
  go_ret
  exact ⟨rfl, (Ext.refl w).alloc _⟩
end

section
open Go Go.RowKit

theorem popF_succ (f k : Nat) : popF (f + 1) k = k % 2 + popF f (k / 2) := rfl
attribute [local irreducible] popF

theorem and_one64 (k : Nat) (hk : k < 9223372036854775808) : bits .and .i64 (k : Int) 1 = ((k % 2 : Nat) : Int) := by
  have ea : (BitVec.ofInt 64 (k : Int)).toNat = k := by rw [BitVec.toNat_ofInt]; omega
  have eb : (BitVec.ofInt 64 (1 : Int)).toNat = 1 := by decide
  change IntKind.i64.wrap ((BitVec.ofInt 64 (k : Int) &&& BitVec.ofInt 64 (1 : Int)).toNat : Int) = _
  rw [BitVec.toNat_and, ea, eb, Nat.and_one_is_mod, IntWalk.i64_in _ (by omega)]

set_option maxRecDepth 100000 in
set_option maxHeartbeats 1000000 in
theorem frontiersCheck_neg (z : Int) (a : Option Addr) (n c : Nat) (w : World) (hz : z < 0) :
    Calls Tryd.prog 3 #[.int .i64 z, .slice a n c] w fun e w' => e = .returned (.bool true) ∧ Ext w w' := by
  have hfo := hid (fun w' => frontierOf_range z a n c w' (.inl hz))
  have g1 : decide (z < 0) = true := decide_eq_true hz
  have g2 : decide (z > 0) = false := decide_eq_false (by omega)
  have g3 : decide (0 < z) = false := decide_eq_false (by omega)
  clear hz
  go_enter Tryd.func3, Tryd.ntmps3
  go_wp2_with fail
  refine (landed_c w).mono ?_
  rintro e wB ⟨rfl, eB⟩
  have EB := hid eB
  clear eB
  go_wp2_with (first | (go_at_call 6; refine (hfo.out _).mono ?_; rintro e w' ⟨rfl, rfl⟩))
  go_loopw [7, 8] (fun x y wr => y = .int .i64 z ∧ wr = wB) (fun _ _ _ => 0)
  case atStart => exact ⟨rfl, by first | trivial | rfl⟩
  case round =>
    obtain ⟨rfl, rfl⟩ := hrel
    go_wp2
    go_ret
    exact ⟨rfl, EB.out⟩

set_option maxRecDepth 100000 in
set_option maxHeartbeats 1000000 in
theorem frontiersCheck_high (Z : Nat) (a : Option Addr) (n c : Nat) (w : World) (hZ : Z < 9223372036854775808) (hz : 65536 < Z) :
    Calls Tryd.prog 3 #[.int .i64 (Z : Int), .slice a n c] w fun e w' => e = .returned (.bool true) ∧ Ext w w' := by
  have hfo := hid (fun w' => frontierOf_range (Z : Int) a n c w' (.inr (by omega)))
  have j1 : decide ((Z : Int) < 0) = false := decide_eq_false (by omega)
  have j2 : decide ((Z : Int) > 65536) = true := decide_eq_true (by omega)
  have j3 : decide (65536 < (Z : Int)) = true := decide_eq_true (by omega)
  have j4 : decide (65536 < Z) = true := decide_eq_true (by omega)
  have hM63 := popF_le 63 Z
  obtain ⟨M, hM⟩ : ∃ M, popF 63 Z = M := ⟨_, rfl⟩
  rw [hM] at hM63
  have HM := hid hM
  clear hM hz
  go_enter Tryd.func3, Tryd.ntmps3
  go_wp2_with fail
  refine (landed_c w).mono ?_
  rintro e wB ⟨rfl, eB⟩
  have EB := hid eB
  clear eB
  go_wp2_with (first | (go_at_call 6; refine (hfo.out _).mono ?_; rintro e w' ⟨rfl, rfl⟩))
  go_loopw [7, 8] (fun x y wr => ∃ (f k q : Nat), f ≤ 63 ∧ k < 9223372036854775808 ∧ k < 2 ^ f ∧ x = .int .i64 (q : Int) ∧ y = .int .i64 (k : Int) ∧ q + popF f k = M ∧ wr = wB) (fun _ y _ => (intOf y).toNat)
  case atStart => exact ⟨63, Z, 0, Nat.le_refl _, hZ, hZ, rfl, rfl, by rw [HM.out]; omega, by first | trivial | rfl⟩
  case round =>
    obtain ⟨f, k, q, hf, hk, hkf, rfl, rfl, hq, rfl⟩ := hrel
    have HQ := hid hq
    have hqM : q ≤ M := by omega
    clear hq
    by_cases h0 : k = 0
    · subst h0
      have hq : q = M := by have := HQ.out; rw [popF_zero] at this; omega
      subst hq
      clear HQ HM hk hkf
      go_wp2
      go_ret
      exact ⟨rfl, EB.out⟩
    · obtain ⟨f', rfl⟩ : ∃ f', f = f' + 1 := ⟨f - 1, by
        cases f with
        | zero => simp at hkf; omega
        | succ f => rfl⟩
      have hst : popF (f' + 1) k = k % 2 + popF f' (k / 2) := popF_succ _ _
      have hq2 := HQ.out
      rw [hst] at hq2
      have hk2 : k / 2 < 2 ^ f' := by rw [Nat.pow_succ] at hkf; omega
      have HQ2 := hid hq2
      have hand := and_one64 k hk
      have hb : k % 2 < 2 := Nat.mod_lt _ (by omega)
      have g1 : decide ((k : Int) > 0) = true := decide_eq_true (by omega)
      have g2 : decide ((0 : Int) < (k : Int)) = true := decide_eq_true (by omega)
      have g3 : decide (0 < k) = true := decide_eq_true (by omega)
      have hadd : IntKind.i64.wrap ((q : Int) + ((k % 2 : Nat) : Int)) = ((q + k % 2 : Nat) : Int) := by rw [IntWalk.i64_in _ (by omega)]; omega
      have hquo : IntKind.i64.wrap ((k : Int).tdiv 2) = ((k / 2 : Nat) : Int) := by rw [show (k : Int).tdiv 2 = ((k / 2 : Nat) : Int) by rw [Int.tdiv_eq_ediv_of_nonneg (by omega)]; omega, IntWalk.i64_in _ (by omega)]
      generalize hkm : k % 2 = km at *
      generalize hkd : k / 2 = kd at *
      have HKD := hid hkd
      clear hst hq2 HQ hkm hkd
      go_wp2_with fail
      go_roundw
      case rel => exact ⟨f', kd, q + km, by omega, by have := HKD.out; omega, hk2, by first | rfl | go_num, by have := HKD.out; first | rfl | (congr 1; omega), by have := HQ2.out; omega, by first | trivial | rfl⟩
      case measure => have := HKD.out; first | (simp [intOf]; done) | (simp [intOf]; omega)

set_option maxRecDepth 100000 in
set_option maxHeartbeats 1000000 in
theorem frontiersCheck_form (Z : Nat) (a : Option Addr) (n c : Nat) (w : World) (hz : Z ≤ 65536) (hn : n ≠ popF 63 Z) :
    Calls Tryd.prog 3 #[.int .i64 (Z : Int), .slice a n c] w fun e w' => e = .returned (.bool true) ∧ Ext w w' := by
  have hfo := hid (fun w' => frontierOf_form Z a n c w' hz hn)
  have hZ : Z < 9223372036854775808 := by omega
  have j1 : decide ((Z : Int) < 0) = false := decide_eq_false (by omega)
  have j2 : decide ((Z : Int) > 65536) = false := decide_eq_false (by omega)
  have j3 : decide (65536 < (Z : Int)) = false := decide_eq_false (by omega)
  have j4 : decide (65536 < Z) = false := decide_eq_false (by omega)
  have hM63 := popF_le 63 Z
  obtain ⟨M, hM⟩ : ∃ M, popF 63 Z = M := ⟨_, rfl⟩
  rw [hM] at hM63 hn
  have HM := hid hM
  have j5 : ((M : Int) != (n : Int)) = true := by simp; omega
  have j6 : (M != n) = true := by simp; omega
  clear hM hz hn
  go_enter Tryd.func3, Tryd.ntmps3
  go_wp2_with fail
  refine (landed_c w).mono ?_
  rintro e wB ⟨rfl, eB⟩
  have EB := hid eB
  clear eB
  go_wp2_with (first | (go_at_call 6; refine (hfo.out _).mono ?_; rintro e w' ⟨rfl, rfl⟩))
  go_loopw [7, 8] (fun x y wr => ∃ (f k q : Nat), f ≤ 63 ∧ k < 9223372036854775808 ∧ k < 2 ^ f ∧ x = .int .i64 (q : Int) ∧ y = .int .i64 (k : Int) ∧ q + popF f k = M ∧ wr = wB) (fun _ y _ => (intOf y).toNat)
  case atStart => exact ⟨63, Z, 0, Nat.le_refl _, hZ, hZ, rfl, rfl, by rw [HM.out]; omega, by first | trivial | rfl⟩
  case round =>
    obtain ⟨f, k, q, hf, hk, hkf, rfl, rfl, hq, rfl⟩ := hrel
    have HQ := hid hq
    have hqM : q ≤ M := by omega
    clear hq
    by_cases h0 : k = 0
    · subst h0
      have hq : q = M := by have := HQ.out; rw [popF_zero] at this; omega
      subst hq
      clear HQ HM hk hkf
      go_wp2
      go_ret
      exact ⟨rfl, EB.out⟩
    · obtain ⟨f', rfl⟩ : ∃ f', f = f' + 1 := ⟨f - 1, by
        cases f with
        | zero => simp at hkf; omega
        | succ f => rfl⟩
      have hst : popF (f' + 1) k = k % 2 + popF f' (k / 2) := popF_succ _ _
      have hq2 := HQ.out
      rw [hst] at hq2
      have hk2 : k / 2 < 2 ^ f' := by rw [Nat.pow_succ] at hkf; omega
      have HQ2 := hid hq2
      have hand := and_one64 k hk
      have hb : k % 2 < 2 := Nat.mod_lt _ (by omega)
      have g1 : decide ((k : Int) > 0) = true := decide_eq_true (by omega)
      have g2 : decide ((0 : Int) < (k : Int)) = true := decide_eq_true (by omega)
      have g3 : decide (0 < k) = true := decide_eq_true (by omega)
      have hadd : IntKind.i64.wrap ((q : Int) + ((k % 2 : Nat) : Int)) = ((q + k % 2 : Nat) : Int) := by rw [IntWalk.i64_in _ (by omega)]; omega
      have hquo : IntKind.i64.wrap ((k : Int).tdiv 2) = ((k / 2 : Nat) : Int) := by rw [show (k : Int).tdiv 2 = ((k / 2 : Nat) : Int) by rw [Int.tdiv_eq_ediv_of_nonneg (by omega)]; omega, IntWalk.i64_in _ (by omega)]
      generalize hkm : k % 2 = km at *
      generalize hkd : k / 2 = kd at *
      have HKD := hid hkd
      clear hst hq2 HQ hkm hkd
      go_wp2_with fail
      go_roundw
      case rel => exact ⟨f', kd, q + km, by omega, by have := HKD.out; omega, hk2, by first | rfl | go_num, by have := HKD.out; first | rfl | (congr 1; omega), by have := HQ2.out; omega, by first | trivial | rfl⟩
      case measure => have := HKD.out; first | (simp [intOf]; done) | (simp [intOf]; omega)

set_option maxRecDepth 100000 in
set_option maxHeartbeats 1000000 in
theorem frontiersCheck_ok (Z : Nat) (ls : List (List UInt8)) (a : Option Addr) (n c : Nat) (w : World) (hz : Z ≤ 65536) (hl : ls.length = n) (h32 : All32 ls) (hcl : Cells w a (rows ls)) (hn : n = popF 63 Z) :
    Calls Tryd.prog 3 #[.int .i64 (Z : Int), .slice a n c] w fun e w' => e = .returned (.bool true) ∧ Ext w w' := by
  have hfo := hid (fun w' h => frontierOf_c Z ls a n c w' hz hl h32 h hn)
  have hZ : Z < 9223372036854775808 := by omega
  have hM63 := popF_le 63 Z
  have hpk := hid (fun g a' c' w' hb h => peaks_c g Z 48 ls a' n c' w' hb hl h32 (by omega) h)
  have heq := hid (fun b d' w' hx hy => equalS_c ls ls b a n n d' c w' hl hl (by omega) h32 h32 hx hy)
  have hsame : (ls == ls) = true := by simp
  have HC := hid hcl
  have j1 : decide ((Z : Int) < 0) = false := decide_eq_false (by omega)
  have j2 : decide ((Z : Int) > 65536) = false := decide_eq_false (by omega)
  have j3 : decide (65536 < (Z : Int)) = false := decide_eq_false (by omega)
  have j4 : decide (65536 < Z) = false := decide_eq_false (by omega)
  obtain ⟨M, hM⟩ : ∃ M, popF 63 Z = M := ⟨_, rfl⟩
  rw [hM] at hM63 hn
  have HM := hid hM
  subst hn
  have j5 : ((n : Int) != (n : Int)) = false := by simp
  have j6 : (n != n) = false := by simp
  have HZ := hid hz
  clear hM hl h32 hcl
  go_enter Tryd.func3, Tryd.ntmps3
  go_wp2_with fail
  refine (landed_c w).mono ?_
  rintro e wB ⟨rfl, eB⟩
  have EB := hid eB
  clear eB
  go_wp2_with fail
  refine (hfo.out wB (HC.out.ext EB.out)).mono ?_
  rintro e wC ⟨g, v, rfl, hg, hb, own, hvg, eC⟩
  have BC := hid hb
  have OC := hid own
  have EC := hid (EB.out.ext eC)
  have c0 : wC.cell? ⟨g, 0, none⟩ = some (.int .i64 (Z : Int)) := hb.cell' rfl
  obtain ⟨va, vc, rfl, -, -, -, hvl⟩ := own_sliceT (by decide) own
  have HVL := hid hvl
  have HC0 := hid c0
  clear hb own eC hvg hfo hvl c0
  go_wp2_with fail
  go_loopw [7, 8] (fun x y wr => ∃ (f k q : Nat), f ≤ 63 ∧ k < 9223372036854775808 ∧ k < 2 ^ f ∧ x = .int .i64 (q : Int) ∧ y = .int .i64 (k : Int) ∧ q + popF f k = n ∧ wr = wC) (fun _ y _ => (intOf y).toNat)
  case atStart => exact ⟨63, Z, 0, Nat.le_refl _, hZ, hZ, rfl, rfl, by rw [HM.out]; omega, by first | trivial | rfl⟩
  case round =>
    obtain ⟨f, k, q, hf, hk, hkf, rfl, rfl, hq, rfl⟩ := hrel
    have HQ := hid hq
    have hqM : q ≤ n := by omega
    clear hq
    by_cases h0 : k = 0
    · subst h0
      have hq : q = n := by have := HQ.out; rw [popF_zero] at this; omega
      subst hq
      clear HQ HM hk hkf
      have hsz := hid (fun w' => size_c g Z (.slice va q vc) 48 w')
      have hle : q ≤ q := Nat.le_refl _
      clear hM63 hqM hle hf
      by_cases h6 : Z = 65536
      · have HAD := hid (fun w' (hb : Blk w' g (frL Z (.slice va q vc)) 48) => add_large g (.slice va q vc) zero32 48 w' (by rw [← h6]; exact hb))
        have k1 : decide ((Z : Int) < 65536) = false := decide_eq_false (by omega)
        have k2 : decide (Z < 65536) = false := decide_eq_false (by omega)
        have H6 := hid h6
        clear h6
        go_wp2_with (first | (go_at_call 7; refine (hsz.out _ BC.out).mono ?_; rintro e w' ⟨rfl, rfl⟩))
        refine (hpk.out g va vc _ BC.out HVL.out).mono ?_
        rintro e wD ⟨v2, rfl, own2, eD⟩
        obtain ⟨pa, pc, rfl, -, -, -, hpl⟩ := own_sliceT (by decide) own2
        have HPL := hid hpl
        have ED := hid (EC.out.ext eD)
        have BD := hid (BC.out.ext eD)
        clear own2 hpl eD
        go_wp2_with fail
        refine (heq.out pa pc _ HPL.out (HC.out.ext ED.out)).mono ?_
        rintro e wE ⟨rfl, eE⟩
        have EE := hid (ED.out.ext eE)
        have BE := hid (BD.out.ext eE)
        clear eE
        rw [hsame]
        go_wp2_with fail
        refine (HAD.out _ BE.out).mono ?_
        rintro e wF ⟨rfl, eF⟩
        have EF := hid (EE.out.ext eF)
        clear eF
        go_wp2_with fail
        go_ret
        exact ⟨rfl, EF.out⟩
      · have k1 : decide ((Z : Int) < 65536) = true := decide_eq_true (by omega)
        have k2 : decide (Z < 65536) = true := decide_eq_true (by omega)
        go_wp2_with (first | (go_at_call 7; refine (hsz.out _ BC.out).mono ?_; rintro e w' ⟨rfl, rfl⟩))
        refine (hpk.out g va vc _ BC.out HVL.out).mono ?_
        rintro e wD ⟨v2, rfl, own2, eD⟩
        obtain ⟨pa, pc, rfl, -, -, -, hpl⟩ := own_sliceT (by decide) own2
        have HPL := hid hpl
        have ED := hid (EC.out.ext eD)
        have BD := hid (BC.out.ext eD)
        clear own2 hpl eD
        go_wp2_with fail
        refine (heq.out pa pc _ HPL.out (HC.out.ext ED.out)).mono ?_
        rintro e wE ⟨rfl, eE⟩
        have EE := hid (ED.out.ext eE)
        clear eE
        rw [hsame]
        go_wp2_with fail
        go_ret
        exact ⟨rfl, EE.out⟩
    · obtain ⟨f', rfl⟩ : ∃ f', f = f' + 1 := ⟨f - 1, by
        cases f with
        | zero => simp at hkf; omega
        | succ f => rfl⟩
      have hst : popF (f' + 1) k = k % 2 + popF f' (k / 2) := popF_succ _ _
      have hq2 := HQ.out
      rw [hst] at hq2
      have hk2 : k / 2 < 2 ^ f' := by rw [Nat.pow_succ] at hkf; omega
      have HQ2 := hid hq2
      have hand := and_one64 k hk
      have hb : k % 2 < 2 := Nat.mod_lt _ (by omega)
      have g1 : decide ((k : Int) > 0) = true := decide_eq_true (by omega)
      have g2 : decide ((0 : Int) < (k : Int)) = true := decide_eq_true (by omega)
      have g3 : decide (0 < k) = true := decide_eq_true (by omega)
      have hadd : IntKind.i64.wrap ((q : Int) + ((k % 2 : Nat) : Int)) = ((q + k % 2 : Nat) : Int) := by rw [IntWalk.i64_in _ (by omega)]; omega
      have hquo : IntKind.i64.wrap ((k : Int).tdiv 2) = ((k / 2 : Nat) : Int) := by rw [show (k : Int).tdiv 2 = ((k / 2 : Nat) : Int) by rw [Int.tdiv_eq_ediv_of_nonneg (by omega)]; omega, IntWalk.i64_in _ (by omega)]
      generalize hkm : k % 2 = km at *
      generalize hkd : k / 2 = kd at *
      have HKD := hid hkd
      clear hst hq2 HQ hkm hkd
      go_wp2_with fail
      go_roundw
      case rel => exact ⟨f', kd, q + km, by omega, by have := HKD.out; omega, hk2, by first | rfl | go_num, by have := HKD.out; first | rfl | (congr 1; omega), by have := HQ2.out; omega, by first | trivial | rfl⟩
      case measure => have := HKD.out; first | (simp [intOf]; done) | (simp [intOf]; omega)

theorem frontiersCheck_c (z : Int) (ls : List (List UInt8)) (a : Option Addr) (n c : Nat) (w : World) (hz : z < 9223372036854775808) (hl : ls.length = n) (h32 : All32 ls) (hcl : Cells w a (rows ls)) :
    Calls Tryd.prog 3 #[.int .i64 z, .slice a n c] w fun e w' => e = .returned (.bool true) ∧ Ext w w' := by
  by_cases h0 : z < 0
  · exact frontiersCheck_neg z a n c w h0
  · obtain ⟨Z, rfl⟩ : ∃ Z : Nat, z = (Z : Int) := ⟨z.toNat, by omega⟩
    by_cases h1 : 65536 < Z
    · exact frontiersCheck_high Z a n c w (by omega) h1
    · by_cases h2 : n = popF 63 Z
      · exact frontiersCheck_ok Z ls a n c w (by omega) hl h32 hcl h2
      · exact frontiersCheck_form Z a n c w (by omega) h2
end

section
open Go Go.RowKit Go.ChangeShapes Go.WideShapes Go.ChangeAt Go.Deep

theorem cells?_at {w : World} {base : Nat} {p : Addr} {k : Nat} {cs : List Value} (h : w.cells? base p k = some cs) : cs.length = k ∧ CellsAt w p cs := by
  unfold World.cells? at h
  split at h
  · refine ⟨by simpa using mapM_some_length h, fun j u hu => ?_⟩
    have hj : j < k := by
      have h1 := (List.getElem?_eq_some_iff.1 hu).1
      have h2 := mapM_some_length h
      simp at h2; omega
    have := mapM_some_get h j j (by simp [hj])
    rw [hu] at this
    exact this
  · cases h

section
variable {H : Type} {enc : TypeId × Value → H} {P : Program} {w : World}
theorem octets_of_trod {base : Nat} {sp : Nat → Bool} {held : Bool} {t e : TypeId} {n f : Nat} {cs : List Value} {x : DataW H × List MemPlace} (ht : P.underlying t = some (.array n e)) (he : P.underlying e = some (.int .u8)) (hce : P.cellsOf e = 1) (hct : P.cellsOf t = n)
    (hf : DataW.trod enc P w base sp held f t cs = some x) : ∃ l : List UInt8, l.length = n ∧ cs = l.map u8v := by
  obtain ⟨xs, m, _, _, hlen, hxl, hel⟩ := DataW.trod_array ht hf
  have hcl : cs.length = n := by rw [hlen, hct]
  obtain ⟨l, hl⟩ := u8s_of cs fun i u hu => by
    have hi : i < n := by
      have := (List.getElem?_eq_some_iff.1 hu).1
      omega
    have h1 := hel i hi
    rw [hce, Nat.mul_one] at h1
    have hx : xs[i]? = some xs[i] := by simp
    have h2 : (cs.drop i).take 1 = [u] := by
      have h3 := List.getElem?_drop (xs := cs) (i := i) (j := 0)
      rw [Nat.add_zero, hu] at h3
      cases hd : cs.drop i with
      | nil => rw [hd] at h3; simp at h3
      | cons y r => rw [hd] at h3; simp at h3; simp [h3]
    have h4 : DataW.trod enc P w base sp held m e [u] = some xs[i] := by
      rw [← h2, ← hx]; exact h1
    obtain ⟨k, hk, _, hw⟩ := DataW.trod_int he h4
    have hu' : u = .int .u8 k := by simpa using hk
    rw [hu']; exact u8_of hw
  refine ⟨l, ?_, hl⟩
  have := congrArg List.length hl
  rw [hcl, List.length_map] at this; exact this.symm

/-- a slice of rows, its cell read -/
theorem sums_of_trod {base f : Nat} {held : Bool} {t e q : TypeId} {cs : List Value} {x : DataW H × List MemPlace} (ht : P.underlying t = some (.slice e)) (he : P.underlying e = some (.array 32 q)) (hq : P.underlying q = some (.int .u8)) (cq : P.cellsOf q = 1) (ce : P.cellsOf e = 32)
    (hf : DataW.trod enc P w base (fun _ => true) held f t cs = some x) :
    ∃ (a : Option Addr) (n c : Nat) (ls : List (List UInt8)) (es sp : List (DataW H)), cs = [.slice a n c] ∧ ls.length = n ∧ All32 ls ∧ n ≤ c ∧ c ≤ maxLen ∧ (a = none → c = 0) ∧ Cells w a (rows ls) ∧ ((x.1 = .nil ∧ c = 0) ∨ (x.1 = .slice es sp ∧ es.length + sp.length = c)) := by
  rcases DataW.trod_slice ht hf with ⟨h0, h1⟩ | ⟨a, len, cap, elems, rest, n, _, rfl, rfl, hb, hl, hm, hlen, hel, hsp, hns⟩
  · exact ⟨none, 0, 0, [], [], [], h0, rfl, All32.nil, Nat.le_refl _, Nat.zero_le _, fun _ => rfl, .inl rfl, .inl ⟨by rw [h1], rfl⟩⟩
  · have each : ∀ i, i < len → ∃ l : List UInt8, l.length = 32 ∧ CellsAt w (a.add (i * 32)) (l.map u8v) := by
      intro i hi
      have h1 := hel i hi
      have hx : elems[i]? = some (elems[i]'(by omega)) := by simp
      rw [ce, hx, Option.bind_eq_some_iff] at h1
      obtain ⟨cs', hcs, hy⟩ := h1
      obtain ⟨l, hl1, rfl⟩ := octets_of_trod he hq cq ce hy
      exact ⟨l, hl1, (cells?_at hcs).2⟩
    obtain ⟨g, hg⟩ := choose_lt each
    have h32 : All32 ((List.range len).map g) := fun l hl => by
      obtain ⟨i, hi, rfl⟩ := List.mem_map.1 hl
      exact (hg i (List.mem_range.1 hi)).1
    obtain ⟨hrl, _⟩ := hsp rfl
    refine ⟨some a, len, cap, (List.range len).map g, _, _, rfl, by simp, h32, hl, hm, (fun h => by cases h), ?_, .inr ⟨rfl, by simp; omega⟩⟩
    by_cases h0 : len = 0
    · left; subst h0; rfl
    · obtain ⟨hl0, hc0⟩ := hg 0 (by omega)
      obtain ⟨b, off, spot⟩ := a
      have hspot : spot = none := by
        have := hc0 0 (u8v ((g 0)[0]'(by omega))) (by simp [hl0])
        simpa [Addr.add] using World.cell?_spot this
      subst hspot
      refine .inr ⟨b, off, rfl, fun i u hu => ?_⟩
      have hi : i < 32 * len := by
        have := (List.getElem?_eq_some_iff.1 hu).1
        rw [rows_length h32] at this; simpa using this
      obtain ⟨_, hcr⟩ := hg (i / 32) (by omega)
      have hrow : ((List.range len).map g)[i / 32]? = some (g (i / 32)) := by
        rw [List.getElem?_map, List.getElem?_range (by omega)]; rfl
      have h2 := rows_at h32 hrow
      have h3 : ((g (i / 32)).map u8v)[i % 32]? = some u := by
        rw [← h2, List.getElem?_take_of_lt (Nat.mod_lt _ (by omega)), List.getElem?_drop, Nat.div_add_mod]; exact hu
      have h4 := hcr _ _ h3
      rw [addr_add, addr_add] at h4
      rw [show off + i / 32 * 32 + i % 32 = off + i by omega] at h4
      exact h4

/-- a struct of two ints and a slice of rows -/
theorem open_proof {r : Reach} {b0 base : Nat} {held : Bool} {t e q : TypeId} {f0 f1 f2 : Field} {v : Value} {d : DataW H} {ps : List MemPlace} (ht : P.underlying t = some (.struct #[f0, f1, f2])) (h0 : P.underlying f0.type = some (.int .i64)) (h1 : P.underlying f1.type = some (.int .i64))
    (h2 : P.underlying f2.type = some (.slice e)) (he : P.underlying e = some (.array 32 q)) (hq : P.underlying q = some (.int .u8)) (cq : P.cellsOf q = 1) (ce : P.cellsOf e = 32) (c0 : P.cellsOf f0.type = 1) (c1 : P.cellsOf f1.type = 1) (c2 : P.cellsOf f2.type = 1) (ct : P.cellsOf t = 3)
    (o0 : f0.offset = 0) (o1 : f1.offset = 1) (o2 : f2.offset = 2)
    (hval : Value.okWide P w r b0 t v) (hd : DataW.Trod enc P w base (fun _ => true) held t v d ps) :
    ∃ (I Z : Int) (a : Option Addr) (n c : Nat) (ls : List (List UInt8)), v = .agg #[.int .i64 I, .int .i64 Z, .slice a n c] ∧ ls.length = n ∧ All32 ls ∧ n ≤ c ∧ c ≤ maxLen ∧ (a = none → c = 0) ∧ Cells w a (rows ls) ∧
      ∃ (D : DataW H) (es sp : List (DataW H)), d = .agg [.lit (.int .i64 I), .lit (.int .i64 Z), D] ∧ ((D = .nil ∧ c = 0) ∨ (D = .slice es sp ∧ es.length + sp.length = c)) ∧ (Lit.int .i64 I).wf = true ∧ (Lit.int .i64 Z).wf = true := by
  obtain ⟨cs, rfl, hs⟩ := okWide_struct ht hval
  obtain ⟨fuel, hf⟩ := hd
  obtain ⟨y0, y1, y2, m, hx, hl, g0, g1, g2⟩ := trod_struct3 ht hf
  rw [c0, o0] at g0
  rw [c1, o1] at g1
  rw [c2, o2] at g2
  obtain ⟨I, hI, hI2, wI⟩ := DataW.trod_int h0 g0
  obtain ⟨Z, hZ, hZ2, wZ⟩ := DataW.trod_int h1 g1
  obtain ⟨a, n, c, ls, es, sp, hsl, hln, h32, hnc, hcm, hnil, hcl, hdd⟩ := sums_of_trod h2 he hq cq ce g2
  have hcs : cs = #[.int .i64 I, .int .i64 Z, .slice a n c] := by
    have hsz : cs.size = 3 := by rw [hs, ct]
    obtain ⟨l⟩ := cs
    match l, hsz with
    | [p0, p1, p2], _ =>
      simp [Value.cells] at hI hZ hsl
      rw [hI, hZ, hsl]
  refine ⟨I, Z, a, n, c, ls, by rw [hcs], hln, h32, hnc, hcm, hnil, hcl, y2.1, es, sp, ?_, hdd, wI, wZ⟩
  simp only [Prod.mk.injEq] at hx
  rw [hx.1, hI2, hZ2]
end
end

section
open Go Go.RowKit Go.ChangeShapes Go.WideShapes Go.ChangeAt Go.Deep

section
variable {H : Type} {enc : TypeId × Value → H} {P : Program} {w : World}
theorem open_sums {r : Reach} {b0 base : Nat} {held : Bool} {t e q : TypeId} {v : Value} {d : DataW H} {ps : List MemPlace} (ht : P.underlying t = some (.slice e)) (he : P.underlying e = some (.array 32 q)) (hq : P.underlying q = some (.int .u8)) (cq : P.cellsOf q = 1) (ce : P.cellsOf e = 32)
    (hval : Value.okWide P w r b0 t v) (hd : DataW.Trod enc P w base (fun _ => true) held t v d ps) :
    ∃ (a : Option Addr) (n c : Nat) (ls : List (List UInt8)) (es sp : List (DataW H)), v = .slice a n c ∧ ls.length = n ∧ All32 ls ∧ n ≤ c ∧ c ≤ maxLen ∧ (a = none → c = 0) ∧ Cells w a (rows ls) ∧ ((d = .nil ∧ c = 0) ∨ (d = .slice es sp ∧ es.length + sp.length = c)) := by
  obtain ⟨a, n, c, rfl⟩ := okWide_slice ht hval
  obtain ⟨fuel, hf⟩ := hd
  obtain ⟨a2, n2, c2, ls, es, sp, hcs, hl, h32, hnc, hcm, hnil, hcl, hdd⟩ := sums_of_trod ht he hq cq ce hf
  simp [Value.cells] at hcs
  obtain ⟨rfl, rfl, rfl⟩ := hcs
  exact ⟨a, n, c, ls, es, sp, rfl, hl, h32, hnc, hcm, hnil, hcl, hdd⟩
end
end
end Go.Proofs.YtfiigjdiohmkmaaDoor
