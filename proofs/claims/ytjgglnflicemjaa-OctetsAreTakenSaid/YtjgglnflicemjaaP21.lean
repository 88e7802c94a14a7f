/- partMatches: it returns true; conditions: the row is one's own. -/
import Derived.Test.YtjgglnflicemjaaP20
namespace Go.Proofs.Ytjgglnflicemjaa
open Go Go.RowKit

section
variable {ops : Array Oper} {rest : List Oper} {o : Oper} {a : Act} {w : World} {Q : Exit → Act → World → Prop}
/-- b[k:h], whether behind a guard or not -/
theorem wpg_slice2 {P : Program} {ops : Array Oper} {rest : List Oper} {o : Oper} {a : Act} {w : World} {Q : Exit → Act → World → Prop} (hw : Region.wanted o (yielded ops a.tmps) = true) (t e : TypeId) (x y z : Operand) (ho : o.op = .slice t x (some y) (some z) none) {p : Option Addr} {n c k h : Nat}
    (hx : a.eval x = .slice p n c) (hy : a.eval y = .int .i64 (k : Int)) (hz : a.eval z = .int .i64 (h : Int)) (hu : P.underlying t = some (.slice e)) (hs : (P.info? e).map (·.size) = some 1) (hk : k ≤ h) (hh : h ≤ c)
    (hq : wpList P ops Q rest (a.put o.dst (.slice (shift p c k) (h - k) (c - k))) w) : wpList P ops Q (o :: rest) a w :=
  wpList_want hw fun K hK => by
    cases hq2 : P.info? e with
    | none => simp [hq2] at hs
    | some i =>
      have hi : i.size = 1 := by simpa [hq2] using hs
      have hr : (Instr.sliceAt t (.slice p n c) (some (.int .i64 (k : Int))) (some (.int .i64 (h : Int))) none).run P w = .ok (.slice (shift p c k) (h - k) (c - k)) w := by
        simp [Instr.sliceAt, Instr.slice, Instr.sliceBounds, Instr.sliceBound, asIntOf, run_underlying hu, sizeOf, typeInfo, hq2, hi, hk, hh, shift]
      unfold Oper.wp execOp
      simp only [ho, hx, hy, hz, Option.map_some, Option.map_none, hr, Result.andThen_ok, Sem.run_bind, Sem.run_pure]
      exact hK _ _ hq

/-- append onto a slice that has no room -/
theorem wpl_append_full (hgd : o.guard = none) (s x : Operand)
    (ho : o.op = .call { callee := .builtin .append, args := #[s, x], argTypes := #[26, 26] }) {p : Option Addr} {m k c : Nat} {xs ys : List UInt8} {y : Addr}
    (hs : a.eval s = .slice p m m) (hx : a.eval x = .slice (some y) k c) (hxs : xs.length = m) (hp : p = none → m = 0) (hcx : Cells w p (xs.map u8v)) (hys : ys.length = k) (hk : 0 < k) (hcy : Cells w (some y) (ys.map u8v)) (hb : m + k ≤ 140737488355328)
    (h : ∀ C w', Ext w w' → Cells w' (some ⟨w.heap.size, 0, none⟩) ((xs ++ ys).map u8v) → w.heap.size < w'.heap.size → m + k ≤ C → wpList Try.prog ops Q rest (a.put o.dst (.slice (some ⟨w.heap.size, 0, none⟩) (m + k) C)) w') : wpList Try.prog ops Q (o :: rest) a w := by
  obtain ⟨i0, hi, hz, hsz, hb1⟩ := info_parts info_u8
  have fin : ∀ (arr : Array Value) (zs : List Value), arr.toList = (xs ++ ys).map u8v ++ zs → Ext w (w.drew.alloc (.cells arr 5)) ∧ Cells (w.drew.alloc (.cells arr 5)) (some ⟨w.heap.size, 0, none⟩) ((xs ++ ys).map u8v) ∧ w.heap.size < (w.drew.alloc (.cells arr 5)).heap.size := by
    intro arr zs harr
    have hB : Blk (w.drew.alloc (.cells arr 5)) w.heap.size ((xs ++ ys).map u8v ++ zs) 5 := Blk.mk_alloc rfl (by rw [← harr])
    refine ⟨(Ext.refl w).drew.alloc _, ?_, hB.lt⟩
    refine .inr ⟨_, 0, rfl, fun i u hu => ?_⟩
    rw [Nat.zero_add]
    refine hB.cell' ?_
    rw [List.getElem?_append_left (by exact (List.getElem?_eq_some_iff.1 hu).1)]
    exact hu
  cases p with
  | none =>
    have hm0 := hp rfl
    subst hm0
    have hx0 : xs = [] := List.length_eq_zero_iff.1 hxs
    subst hx0
    have hr := run_append_nil (P := Try.prog) w 26 o.type 5 i0 (.int .u8 0) Try.underlying26 hi hz y k c (ys.map u8v) (by rw [List.length_map, hys, hsz, Nat.mul_one]) (news_cells hcy) hk (by omega) (by rw [hb1]; omega)
    obtain ⟨f1, f2, f3⟩ := fin _ (Builtin.zeroCells (Value.int .u8 0).cells (grownCap w k 0 5 - k)).toList (show ((ys.map u8v).toArray ++ Builtin.zeroCells (Value.int .u8 0).cells (grownCap w k 0 5 - k)).toList = _ by simp)
    have hge := grownCap_ge w k 0 5
    rw [Nat.zero_add] at h
    exact Lib.wpList_append_run w hgd s x _ _ ho _ _ hs hx _ _ hr (h _ _ f1 f2 f3 hge)
  | some ad =>
    have hr := run_append_grow (P := Try.prog) w 26 o.type 5 i0 (.int .u8 0) Try.underlying26 hi hz ad m m (xs.map u8v) (by rw [List.length_map, hxs, hsz, Nat.mul_one]) (news_cells hcx) y k c (ys.map u8v) (by rw [List.length_map, hys, hsz, Nat.mul_one]) (news_cells hcy) (by omega) (by omega) (growslice_fits (by omega) (by rw [hb1]; omega))
    obtain ⟨f1, f2, f3⟩ := fin _ (Builtin.zeroCells (Value.int .u8 0).cells (grownCap w (m + k) m 5 - (m + k))).toList (show ((xs.map u8v).toArray ++ (ys.map u8v).toArray ++ Builtin.zeroCells (Value.int .u8 0).cells (grownCap w (m + k) m 5 - (m + k))).toList = _ by simp)
    have hge := grownCap_ge w (m + k) m 5
    exact Lib.wpList_append_run w hgd s x _ _ ho _ _ hs hx _ _ hr (h _ _ f1 f2 f3 hge)
end

theorem up8 (x : UInt8) : IntKind.u8.wrap ((x.toNat : Int) + 1) = (((x + 1 : UInt8)).toNat : Int) ∧ IntKind.u8.wrap ((((x + 1 : UInt8)).toNat : Int) - 1) = (x.toNat : Int) := by
  have h := x.toNat_lt
  have h1 : (x + 1).toNat = (x.toNat + 1) % 256 := by rw [UInt8.toNat_add]; rfl
  rw [IntKind.wrap_u8', IntKind.wrap_u8', h1]
  omega

set_option maxRecDepth 100000 in
set_option maxHeartbeats 2000000 in
theorem partMatches_c (l : List UInt8) (a : Option Addr) (n c B : Nat) (f t : Int) (w : World) (hn : n ≤ 140737488355320) (hc : n ≤ c) (hc2 : c ≤ 9223372036854775807) (hnl : l.length = n) (own : w.ownsRow B 5 1 (.slice a n c) n (l.map u8v)) (hcl : Cells w a (l.map u8v)) (h0 : a = none → c = 0) :
    Calls Try.prog 25 #[.slice a n c, .int .i64 f, .int .i64 t] w fun e w' => e = .returned (.bool true) ∧ w.grownBy w' (Value.slice a n c).ownBlock := by
  have hpart := hid (part_c a n c f t w (by omega) hc)
  have HO := hid own
  have HC := hid hcl
  have HNL := hid hnl
  have H0 := hid h0
  clear own hcl hnl h0
  by_cases h1 : f < 0 ∨ t < f
  · have hv : partV a n f t = .tuple #[.slice none 0 0, .int .i64 4] := by unfold partV; rw [if_pos h1]
    rw [hv] at hpart
    clear hv
    by_cases h2 : f < 0
    · have d1 : decide (f < 0) = true := decide_eq_true h2
      clear h1
      go_enter Try.func25, Try.ntmps25
      go_wp2_with fail
      refine hpart.out.mono ?_
      rintro e w1 ⟨rfl, rfl⟩
      go_wp2
      go_ret
      exact ⟨rfl, grown_refl _ _⟩
    · have d1 : decide (f < 0) = false := decide_eq_false h2
      have d2 : decide (t < f) = true := decide_eq_true (by omega)
      clear h1
      go_enter Try.func25, Try.ntmps25
      go_wp2_with fail
      refine hpart.out.mono ?_
      rintro e w1 ⟨rfl, rfl⟩
      go_wp2
      go_ret
      exact ⟨rfl, grown_refl _ _⟩
  · have d1 : decide (f < 0) = false := decide_eq_false (by omega)
    have d2 : decide (t < f) = false := decide_eq_false (by omega)
    by_cases h3 : (n : Int) < t
    · have hv : partV a n f t = .tuple #[.slice none 0 0, .int .i64 1] := by unfold partV; rw [if_neg h1, if_pos h3]
      rw [hv] at hpart
      have d3 : decide ((n : Int) < t) = true := decide_eq_true h3
      clear hv h1
      go_enter Try.func25, Try.ntmps25
      go_wp2_with fail
      refine hpart.out.mono ?_
      rintro e w1 ⟨rfl, rfl⟩
      go_wp2
      go_ret
      exact ⟨rfl, grown_refl _ _⟩
    · have hv : partV a n f t = .tuple #[.slice (shift a t.toNat f.toNat) (t.toNat - f.toNat) (t.toNat - f.toNat), .int .i64 0] := by unfold partV; rw [if_neg h1, if_neg h3]
      rw [hv] at hpart
      have d3 : decide ((n : Int) < t) = false := decide_eq_false h3
      obtain ⟨F, rfl⟩ := Int.eq_ofNat_of_zero_le (show 0 ≤ f by omega)
      obtain ⟨T, rfl⟩ := Int.eq_ofNat_of_zero_le (show 0 ≤ t by omega)
      simp only [Int.toNat_natCast] at hpart
      have hFT : F ≤ T := by omega
      have hTn : T ≤ n := by omega
      have hTc : T ≤ c := by omega
      have dn2 : decide (T < F) = false := decide_eq_false (by omega)
      have dn3 : decide (n < T) = false := decide_eq_false (by omega)
      obtain ⟨m, hm⟩ : ∃ m, T - F = m := ⟨_, rfl⟩
      have hw1 : IntKind.i64.wrap ((T : Int) - F) = (m : Int) := by rw [IntWalk.i64_in _ (by omega)]; omega
      have hxl : ((l.drop F).take m).length = m := by rw [List.length_take, List.length_drop, HNL.out]; omega
      have hq1 := HC.out.shift T F m (by omega)
      have hq2 := HC.out.shift c F m (by omega)
      simp only [← List.map_drop, ← List.map_take] at hq1 hq2
      have hqn : shift a T F = none → m = 0 := by
        intro e
        have := H0.out (shift_nil.1 e)
        omega
      have hx0 : 0 < m → ((l.drop F).take m)[0]?.getD 0 = l[F]?.getD 0 := by
        intro hm0
        rw [List.getElem?_take_of_lt hm0, List.getElem?_drop, Nat.add_zero]
      have hsh : ∀ g, a = some ⟨g, 0, none⟩ → 0 < m → shift a T F = some ⟨g, F, none⟩ := by
        intro g hg hm0
        rw [hg, shift_some g 0 T F (by omega), Nat.zero_add]
      rw [hm] at hpart
      generalize (l.drop F).take m = xs at *
      generalize hsq : shift a T F = sq at *
      generalize hsc : shift a c F = sc at *
      have HM := hid hm
      have HXL := hid hxl
      have HQ1 := hid hq1
      have HQ2 := hid hq2
      have HQN := hid hqn
      have HX0 := hid hx0
      have HSH := hid hsh
      have HSC := hid hsc
      clear hv h1 h3 hxl hq1 hq2 hqn hx0 hsh hsq hsc
      go_enter Try.func25, Try.ntmps25
      go_wp2_with fail
      refine hpart.out.mono ?_
      rintro e w1 ⟨rfl, rfl⟩
      go_wp2_with (first | (refine wpg_slice2 (by rfl) _ _ _ _ _ rfl (k := F) (h := T) rfl rfl rfl Try.underlying26 size_u8 hFT hTc ?_; rw [HSC.out, HM.out]))
      refine (equal_c xs xs sq sc m m m (c - F) w HXL.out.symm HXL.out.symm HQ1.out HQ2.out).mono ?_
      rintro e w2 ⟨rfl, rfl⟩
      rw [beq_self_eq_true]
      go_wp2_with fail
      refine (clone_c l a n c w HNL.out hn HC.out).mono ?_
      rintro e w3 ⟨vo, rfl, own3, -, e3⟩
      obtain ⟨ao, co, rfl, -, -, -, hco⟩ := own_slice own3
      have HB3 := hid (own_block_ge own3)
      have HAO := hid (own_away own3)
      have HCO := hid hco
      have zB : Blk (w3.alloc (.cells #[.int .u8 1, .int .u8 2, .int .u8 3] 5)) w3.heap.size (([1, 2, 3] : List UInt8).map u8v) 5 := Blk.mk_alloc rfl rfl
      have eB : Ext w (w3.alloc (.cells #[.int .u8 1, .int .u8 2, .int .u8 3] 5)) := e3.alloc _
      have eB3 : Ext w3 (w3.alloc (.cells #[.int .u8 1, .int .u8 2, .int .u8 3] 5)) := (Ext.refl w3).alloc _
      have ZB := hid zB
      have EB := hid eB
      have HCO3 := hid (HCO.out.ext eB3)
      have hw3 : w.heap.size ≤ w3.heap.size := e3.size
      clear own3 hco e3 zB eB eB3 HCO
      go_wp2_with (first | (at_builtin; refine wpl_append_full rfl _ _ rfl rfl rfl HXL.out HQN.out (HQ1.out.ext EB.out) rfl (by omega) (Cells.of_blk0 ZB.out) (by omega) ?_))
      generalize w3.alloc (.cells #[.int .u8 1, .int .u8 2, .int .u8 3] 5) = w4 at *
      intro C w5 e5 hc5 hl5 hC5
      have HE5 := hid (EB.out.ext e5)
      have HC5 := hid hc5
      have HCO5 := hid (HCO3.out.ext e5)
      clear e5 hc5 HCO3
      obtain ⟨g4, hg4⟩ : ∃ g4, w3.heap.size + 1 = g4 := ⟨_, rfl⟩
      rw [hg4] at HC5 hl5
      rw [hg4]
      have hw4 : w.heap.size ≤ g4 := by omega
      clear hg4
      by_cases hm0 : m = 0
      · have HM0 := hid hm0
        have d5 : decide ((0 : Int) < (m : Int)) = false := decide_eq_false (by omega)
        have dn5 : decide (0 < m) = false := decide_eq_false (by omega)
        clear hm0
        go_wp2_with fail
        refine (equal_c l l a ao n n c co w5 HNL.out.symm HNL.out.symm (HC.out.ext HE5.out) HCO5.out).mono ?_
        rintro e w6 ⟨rfl, rfl⟩
        rw [beq_self_eq_true]
        go_wp2
        go_ret
        exact ⟨rfl, grown_none HE5.out _⟩
      · have hmp : 0 < m := by omega
        have d5 : decide ((0 : Int) < (m : Int)) = true := decide_eq_true (by omega)
        have dn5 : decide (0 < m) = true := decide_eq_true hmp
        obtain ⟨g, cap, hv, hg, hncap, hcapm⟩ := own_some HO.out (by omega)
        have hae : a = some ⟨g, 0, none⟩ := by injection hv
        have hcc : c = cap := by injection hv
        subst hcc
        have hsq2 := HSH.out g hae hmp
        subst hae
        subst hsq2
        have hFn : F < n := by omega
        have hx1 := HX0.out hmp
        have ow5 := ownsRow_ext HO.out HE5.out
        have hgl : g < w.heap.size := own_block_lt HO.out g rfl
        obtain ⟨x, hx⟩ : ∃ x, l[F]?.getD 0 = x := ⟨_, rfl⟩
        rw [hx] at hx1
        have c1 : w5.cell? ⟨g, F, none⟩ = some (.int .u8 (x.toNat : Int)) := by
          rw [ow5.cellAt F (by omega), u8_at (by rw [HNL.out]; omega), hx]
        have f1 := ow5.frozenAt F
        obtain ⟨u1, u2⟩ := up8 x
        obtain ⟨y, hy⟩ : ∃ y, x + 1 = y := ⟨_, rfl⟩
        rw [hy] at u1 u2
        obtain ⟨go, oo, hgo, hcello⟩ := HCO5.out.some_of (by rw [List.length_map, HNL.out]; omega)
        have c2 := hcello F _ (u8_at (by rw [HNL.out]; omega))
        rw [hx] at c2
        obtain ⟨g5, o5, hg5, hcell5⟩ := HC5.out.some_of (by simp)
        have c3 : w5.cell? ⟨g4, 0, none⟩ = some (.int .u8 (x.toNat : Int)) := by
          cases hg5
          have h5 := hcell5 0 (.int .u8 (x.toNat : Int)) (by
            rw [List.getElem?_append_left (by rw [List.length_map, HXL.out]; exact hmp), u8_at (by rw [HXL.out]; exact hmp), hx1])
          rwa [Nat.add_zero] at h5
        have hgo2 : w.heap.size ≤ go := by have := HAO.out _ hgo; simpa using this
        have hne1 : g ≠ go := by omega
        have hne2 : g ≠ g4 := by omega
        subst hgo
        have i0 : (0 : Int) ≤ (F : Int) := by omega
        have i1 : (F : Int) < (n : Int) := by omega
        have i2 : (0 : Int) < (m : Int) := by omega
        have i3 : (0 : Int) < (m : Int) + 3 := by omega
        have HHX := hid hx
        clear hcello hcell5 hg5 hx hy hx1 hm0 hv HQ1 HQ2 HSH HX0 hpart
        go_wp2
        have hs := ow5.stored F (u8v y)
        have hcs : ∀ q : Nat, q = F → (w5.setCell ⟨g, F, none⟩ (.int .u8 (y.toNat : Int))).cell? ⟨g, q, none⟩ = some (.int .u8 (y.toNat : Int)) := by
          intro q hq
          subst hq
          exact World.cell?_setCell_same _ _ _ c1
        have c1' := hcs F rfl
        have f1' := hs.1.frozenAt F
        have c2' : (w5.setCell ⟨g, F, none⟩ (.int .u8 (y.toNat : Int))).cell? ⟨go, oo + F, none⟩ = some (.int .u8 (x.toNat : Int)) := by
          rw [← c2, World.cell?_setCell_other _ _ _ _ (by intro e; simp only [Addr.mk.injEq] at e; omega)]
        have c3' : (w5.setCell ⟨g, F, none⟩ (.int .u8 (y.toNat : Int))).cell? ⟨g4, 0, none⟩ = some (.int .u8 (x.toNat : Int)) := by
          rw [← c3, World.cell?_setCell_other _ _ _ _ (by intro e; simp only [Addr.mk.injEq] at e; omega)]
        have haw : ∀ z : Addr, some (⟨go, oo, none⟩ : Addr) = some z → some z.block ≠ some g := by
          intro z hz
          cases hz
          intro e
          injection e with e
          exact hne1 e.symm
        have HCO6 := hid (HCO5.out.grown hs.2 haw)
        have HG6 := hid ((grown_none HE5.out (some g)).andThen hs.2 (by intro j hj; right; exact hj))
        have HO6 := hid hs.1
        have HAW := hid haw
        clear hs hcs c1 c2 c3 f1 HCO5 HE5 ow5 haw
        change Hid (Cells (w5.setCell ⟨g, F, none⟩ (.int .u8 (y.toNat : Int))) _ _) at HCO6
        change Hid (World.grownBy w (w5.setCell ⟨g, F, none⟩ (.int .u8 (y.toNat : Int))) _) at HG6
        change Hid (World.ownsRow (w5.setCell ⟨g, F, none⟩ (.int .u8 (y.toNat : Int))) _ _ _ _ _ _) at HO6
        change (w5.setCell ⟨g, F, none⟩ (.int .u8 (y.toNat : Int))).frozen? _ = _ at f1'
        generalize w5.setCell ⟨g, F, none⟩ (.int .u8 (y.toNat : Int)) = w6 at *
        refine wp_region_cls (C := fun w' => ∃ n, w' = w6.drewN n) 20 (by kernel_rfl) (by kernel_rfl) ⟨1, rfl⟩ ?_
        simp only [List.take_succ_cons, List.take_zero, List.drop_succ_cons, List.drop_zero]
        iterate 20 quiet_step (fail)
        refine wpQuiet_nil ?_
        rintro _ ⟨nq, rfl⟩
        go_wp2_with fail
        have on6 : (w6.drewN nq).ownsRow B 5 1 (.slice (some ⟨g, 0, none⟩) n c) n ((l.map u8v).set F (u8v y)) := HO6.out
        have hs := on6.stored F (u8v x)
        have hset : ((l.map u8v).set F (u8v y)).set F (u8v x) = l.map u8v := by
          rw [List.set_set]
          apply List.ext_getElem?
          intro j
          rw [List.getElem?_set]
          by_cases hj : F = j
          · subst hj
            rw [if_pos rfl, if_pos (by rw [List.length_map, HNL.out]; exact hFn), u8_at (by rw [HNL.out]; exact hFn), HHX.out]; rfl
          · rw [if_neg hj]
        rw [hset] at hs
        obtain ⟨a9, c9, hv9, -, -, -, hc9⟩ := own_slice hs.1
        injection hv9 with h91 h92 h93
        subst h91
        have HC9 := hid hc9
        have HCO9 := hid ((show Cells (w6.drewN nq) (some ⟨go, oo, none⟩) (l.map u8v) from HCO6.out).grown hs.2 HAW.out)
        have HG9 := hid ((show w.grownBy (w6.drewN nq) (some g) from grown_drewN HG6.out nq).andThen hs.2 (by intro j hj; right; exact hj))
        clear hs hset on6 hc9 HO6 HCO6 HG6 c1' c2' c3' f1' u1 u2 h92 h93
        change Hid (Cells ((w6.drewN nq).setCell ⟨g, F, none⟩ (.int .u8 (x.toNat : Int))) _ _) at HC9
        change Hid (Cells ((w6.drewN nq).setCell ⟨g, F, none⟩ (.int .u8 (x.toNat : Int))) _ _) at HCO9
        change Hid (World.grownBy w ((w6.drewN nq).setCell ⟨g, F, none⟩ (.int .u8 (x.toNat : Int))) _) at HG9
        generalize (w6.drewN nq).setCell ⟨g, F, none⟩ (.int .u8 (x.toNat : Int)) = w7 at *
        refine (equal_c l l (some ⟨g, 0, none⟩) (some ⟨go, oo, none⟩) n n c co w7 HNL.out.symm HNL.out.symm HC9.out HCO9.out).mono ?_
        rintro e w8 ⟨rfl, rfl⟩
        rw [beq_self_eq_true]
        go_wp2
        go_ret
        exact ⟨rfl, HG9.out⟩
end Go.Proofs.Ytjgglnflicemjaa
