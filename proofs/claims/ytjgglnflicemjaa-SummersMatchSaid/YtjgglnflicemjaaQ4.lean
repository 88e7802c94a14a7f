/- The law SummersMatch, walked; conditions: the sizes. -/
import Derived.Test.YtjgglnflicemjaaP19
namespace Go.Proofs.Ytjgglnflicemjaa
open Go Go.RowKit

theorem neq_self {t : TypeId} {n : Nat} (ht : Try.prog.underlying t = some (.array n 5)) (xs : List UInt8) (hx : xs.length = n) (w : World) :
    (binOp .neq t (.agg (xs.map u8v).toArray) (.agg (xs.map u8v).toArray)).run Try.prog w = .ok (.bool false) w := by
  rw [neq_arr ht xs xs hx hx]; simp

theorem sumL_eq (d : Int) (t : List UInt8) : (finL (initS d) t t.length).take 32 = sumL d t := rfl
theorem size_bs : (Try.prog.info? 26).map (·.size) = some 1 := by kernel_rfl

/-- what is written of parts -/
def catT (its : List Item) : List UInt8 := (its.map fun it => it.2.2.take 500).flatten
theorem catT_succ {its : List Item} {k : Nat} {it : Item} (h : its[k]? = some it) : catT (its.take (k + 1)) = catT (its.take k) ++ it.2.2.take 500 := by
  unfold catT
  rw [List.take_add_one, h]; simp
theorem catT_le (its : List Item) : (catT its).length ≤ 500 * its.length := by
  unfold catT
  induction its with
  | nil => simp
  | cons it its ih => simp only [List.map_cons, List.flatten_cons, List.length_append, List.length_take, List.length_cons]; omega

/-- the copy and its text, if there is one -/
def CO (d : Int) (g0 : Nat) (vt vo vc : Value) (w : World) : Prop :=
  (vc = .pointer none ∧ vo = .slice none 0 0) ∨ ∃ (gc : Nat) (old : List UInt8), vc = .pointer (some ⟨gc, 0, none⟩) ∧ g0 < gc ∧ Holds w gc SmT (initS d) old (old.length : Nat) ∧ old.length ≤ 10000 ∧
    w.ownsRow (g0 + 1) 5 1 vo old.length (old.map u8v) ∧ vt.ownBlock ≠ some gc ∧ vo.ownBlock ≠ some gc ∧ (vo.ownBlock = none ∨ vo.ownBlock ≠ vt.ownBlock)
theorem CO.ext {d : Int} {g0 : Nat} {vt vo vc : Value} {w w' : World} (h : CO d g0 vt vo vc w) (k : Ext w w') : CO d g0 vt vo vc w' := by
  rcases h with h | ⟨gc, old, h1, h2, h3, h4, h5, h6, h7, h8⟩
  · exact .inl h
  · exact .inr ⟨gc, old, h1, h2, h3.ext k, h4, ownsRow_ext h5 k, h6, h7, h8⟩
theorem CO.turned {d : Int} {g0 : Nat} {vt vo vc : Value} {w w' : World} (h : CO d g0 vt vo vc w) (k : w.grownBy w' (some g0)) : CO d g0 vt vo vc w' := by
  rcases h with h | ⟨gc, old, h1, h2, h3, h4, h5, h6, h7, h8⟩
  · exact .inl h
  · exact .inr ⟨gc, old, h1, h2, h3.grown k (by intro e; injection e with e; omega), h4, h5.kept k (.inr fun e => by have := own_block_ge h5 _ e; omega), h6, h7, h8⟩
theorem CO.appended {d : Int} {g0 : Nat} {vt vt' vo vc : Value} {w w' : World} (h : CO d g0 vt vo vc w) (k : w.grownBy w' vt.ownBlock) (hb : vt'.ownBlock = vt.ownBlock ∨ vt'.ownBlock = some w.heap.size)
    (_ : ∀ g, vt.ownBlock = some g → g < w.heap.size) : CO d g0 vt' vo vc w' := by
  rcases h with h | ⟨gc, old, h1, h2, h3, h4, h5, h6, h7, h8⟩
  · exact .inl h
  · have hl := h3.lt
    have hlo := own_block_lt h5
    refine .inr ⟨gc, old, h1, h2, h3.grown k (Ne.symm h6), h4, h5.kept k h8, ?_, h7, ?_⟩
    · rcases hb with hb | hb
      · rw [hb]; exact h6
      · rw [hb]; intro e; injection e with e; omega
    · rcases hb with hb | hb
      · rw [hb]; exact h8
      · rw [hb]
        refine .inr fun e => ?_
        have := hlo _ e
        omega

set_option maxRecDepth 100000 in
set_option maxHeartbeats 400000 in
theorem summers_c (its : List Item) (d cp : Int) (n c : Nat) (a : Option Addr) (w : World) (hil : its.length = n) (hnc : n ≤ c) (hc : c ≤ 140737488351232) (hcl : Cells w a (its.map itemV))
    (hits : ∀ it ∈ its, Cells w it.1 (it.2.2.map u8v) ∧ (it.1 = none → it.2.1 = 0) ∧ it.2.2.length ≤ it.2.1 ∧ it.2.1 ≤ 140737488351232) :
    Calls Try.prog 8 #[.int .i64 d, .slice a n c, .int .i64 cp] w fun e w' => e = .returned (.bool true) ∧ Ext w w' := by
  have HIL := hid hil
  have HCL := hid hcl
  have HITS := hid hits
  clear hil hcl hits
  go_enter Try.func8, Try.ntmps8
  go_wp2_with fail
  refine (landed_c _).mono ?_
  rintro e w1 ⟨rfl, e1⟩
  go_wp2_with fail
  refine (newSummer_c d w1).mono ?_
  intro e w2 h
  unfold newPost at h
  by_cases hd : d < 0 ∨ 255 < d
  · rw [if_pos hd] at h
    obtain ⟨rfl, rfl⟩ := h
    by_cases hd0 : d < 0
    · have d1 : decide (d < 0) = true := decide_eq_true hd0
      clear hd
      go_wp2
      go_ret
      exact ⟨rfl, e1⟩
    · have d1 : decide (d < 0) = false := decide_eq_false hd0
      have d2 : decide (255 < d) = true := decide_eq_true (by omega)
      clear hd
      go_wp2
      go_ret
      exact ⟨rfl, e1⟩
  · rw [if_neg hd] at h
    obtain ⟨rfl, h2, e2⟩ := h
    have hd0 : 0 ≤ d := by omega
    have hd255 : d ≤ 255 := by omega
    have d1 : decide (d < 0) = false := decide_eq_false (by omega)
    have d2 : decide (255 < d) = false := decide_eq_false (by omega)
    obtain ⟨N, hN, hNn, hN20⟩ : ∃ N : Nat, min (n : Int) 20 = (N : Int) ∧ N ≤ n ∧ N ≤ 20 := ⟨min n 20, by omega, by omega, by omega⟩
    have hNc : N ≤ c := by omega
    have HH2 := hid h2
    have HE2 := hid (e1.ext e2)
    have hg0w : w.heap.size ≤ w1.heap.size := e1.size
    clear hd h2 e2 e1
    generalize w1.heap.size = g0 at *
    go_wp2_with (first | (refine wpl_slice_high rfl 68 _ _ _ rfl (k := N) rfl rfl Try.underlying68 size_bs hNc ?_))
    have hlt2 := HH2.out.lt
    go_loopw [45, 9, 10, 11] (fun x vt vo vc wr => ∃ k : Nat, k ≤ N ∧ x = .int .i64 k ∧ Hid (wr.ownsRow (g0 + 1) 5 1 vt (catT (its.take k)).length ((catT (its.take k)).map u8v)) ∧
        Hid (Holds wr g0 SmT (initS d) (catT (its.take k)) ((catT (its.take k)).length : Nat)) ∧ Hid (Ext w wr) ∧ Hid (CO d g0 vt vo vc wr))
      (fun x _ _ _ _ => N - (intOf x).toNat)
    case atStart => exact ⟨0, by omega, rfl, hid (World.ownsRow_nil _ _ _ _), HH2, HE2, hid (.inl ⟨rfl, rfl⟩)⟩
    case round =>
      obtain ⟨k, hk, rfl, ho, hh, he, hco⟩ := hrel
      have hcl500 : (catT (its.take k)).length ≤ 10000 := by
        have h1 := catT_le (its.take k)
        have h2 : (its.take k).length ≤ k := by rw [List.length_take]; omega
        omega
      by_cases hlt : k < N
      · have hdk : decide ((k : Int) < (N : Int)) = true := decide_eq_true (by omega)
        obtain ⟨it, hit⟩ : ∃ it, its[k]? = some it := ⟨_, List.getElem?_eq_getElem (by rw [HIL.out]; omega)⟩
        obtain ⟨b, off, rfl, hcell⟩ := (HCL.out.ext he.out).some_of (by rw [List.length_map, HIL.out]; omega)
        have hcb : off + k = off + k := rfl
        have hc1 := hcell k (itemV it) (by rw [List.getElem?_map, hit]; rfl)
        have HIT := hid (HITS.out it (List.mem_of_getElem? hit))
        have hstep : ∀ (q : List UInt8) (lk : Nat), q = it.2.2.take 500 → catT (its.take (k + 1)) = catT (its.take k) ++ q := fun q _ hq => by rw [hq]; exact catT_succ hit
        obtain ⟨ai, ci, l⟩ := it
        simp only [itemV] at hc1
        simp only at HIT hstep
        generalize hli : l.length = li at *
        generalize catT (its.take k) = tk at *
        have i0 : (0 : Int) ≤ (k : Int) := by omega
        have i1 : (k : Int) < (N : Int) := by omega
        have hlic : li ≤ ci := HIT.out.2.2.1
        clear hcell hcb hit
        by_cases hkc : (k : Int) = cp
        · have hkb : ((k : Int) == cp) = true := by rw [beq_iff_eq]; exact hkc
          have HKC := hid hkc
          clear hkc
          obtain ⟨a3, c3, rfl, -, -, -, hcl3⟩ := own_slice ho.out
          go_wp2_with fail
          refine (copy_c (initS d) tk (tk.length : Nat) g0 SmT wr (initS_length d) hh.out).mono ?_
          rintro e w3 ⟨rfl, h3, e3⟩
          have H3 := hid h3
          have C3 := hid (hcl3.ext e3)
          have hh3 := hid (hh.out.ext e3)
          have he3 := hid (he.out.ext e3)
          have ho3 := hid (ownsRow_ext ho.out e3)
          have hlt3 := h3.lt
          have hobl := hid (own_block_lt ho.out)
          have hgl := hh.out.lt
          clear h3 hcl3 e3 hh he ho
          generalize wr.heap.size = gc at *
          go_wp2_with fail
          refine (clone_c tk a3 tk.length c3 w3 rfl (by omega) C3.out).mono ?_
          rintro e W5 ⟨vo, rfl, own5, -, e5⟩
          have hh5 := hid (hh3.out.ext e5)
          have he5 := hid (he3.out.ext e5)
          have ho5 := hid (ownsRow_ext ho3.out e5)
          have hco5 : Hid (CO d g0 (.slice a3 tk.length c3) vo (.pointer (some ⟨gc, 0, none⟩)) W5) := hid (.inr ⟨gc, tk, rfl, hgl, H3.out.ext e5, hcl500, own_lower own5 (by omega), fun e => by have := hobl.out _ e; omega, fun e => by have := own_block_ge own5 _ e; omega,
            by
              rcases hvb : vo.ownBlock with _ | g3
              · exact .inl rfl
              · refine .inr fun e => ?_
                have h1 := hobl.out _ e.symm
                have h2 := own_block_ge own5 _ hvb
                omega⟩)
          clear own5 e5 H3 C3 hh3 he3 ho3 hobl hco
          generalize Value.pointer (some ⟨gc, 0, none⟩) = vc at *
          generalize Value.slice a3 tk.length c3 = vt at *
          obtain ⟨lk, hlk, hlk1, hlk2⟩ : ∃ lk : Nat, min (li : Int) 500 = (lk : Int) ∧ lk ≤ li ∧ lk ≤ 500 := ⟨min li 500, by omega, by omega, by omega⟩
          have hlkc : lk ≤ ci := by omega
          have htr : (l.take 500).length = lk := by rw [List.length_take, hli]; omega
          have hct : Cells w ai ((l.take 500).map u8v) := by rw [List.map_take]; exact HIT.out.1.take 500
          have hTk : tk.length ≤ 10000 := by omega
          have HCT := hid hct
          have HTR := hid htr
          have HNIL := hid (nil0 hct htr HIT.out.2.1)
          have haw := hid (away_of (n := lk) (g := g0) hct (by rw [List.length_map]; exact htr) hg0w)
          clear hct htr
          generalize l.take 500 = pt at *
          go_wp2_with (first | (refine wpl_slice_high rfl 26 _ _ _ rfl (k := lk) rfl rfl Try.underlying26 size_u8 hlkc ?_))
          refine (write_c (initS d) tk pt (tk.length : Nat) g0 lk ci ai SmT W5 (initS_length d) HTR.out (by omega) (by omega) hh5.out (by omega) hlkc (by have := HIT.out.2.2.2; omega) (fun e => (HNIL.out e).1) (HCT.out.ext he5.out) haw.out).mono ?_
          intro e w6 h
          unfold writePost at h
          rw [HTR.out, if_pos (by omega)] at h
          obtain ⟨rfl, h6, g6⟩ := h
          have hlen6 : (tk ++ pt).length = tk.length + lk := by rw [List.length_append, HTR.out]
          have hh6 : Hid (Holds w6 g0 SmT (initS d) (tk ++ pt) ((tk ++ pt).length : Nat)) := hid (by rw [hlen6, Int.natCast_add]; exact h6)
          have he6 := hid (he5.out.grown g6 (by intro x hx; cases hx; exact hg0w))
          have hb6 : g0 + 1 ≤ w6.heap.size := h6.lt
          have hov := fun x h => own_block_ge ho5.out x h
          have ho6 := hid (ho5.out.kept g6 (.inr fun e => by have := hov _ e; omega))
          have hco6 := hid (hco5.out.turned g6)
          have HLEN6 := hid hlen6
          clear h6 g6 hov hlen6 hh5 he5 ho5 hco5
          go_wp2_with (first | (at_builtin; refine wpg_append8 (by rfl) _ _ rfl (g0 + 1) (ys := pt) rfl rfl ho6.out HTR.out HNIL.out (HCT.out.ext he6.out) (by omega) hb6 ?_))
          intro v7 w7 own7 g7 hbk7
          have hov := fun x h => own_block_ge ho6.out x h
          have hh7 := hid (hh6.out.grown g7 (by intro h; have := hov _ h.symm; omega))
          have he7 := hid (he6.out.grown g7 (by intro x hx; have := hov _ hx; omega))
          have hco7 := hid (hco6.out.appended g7 hbk7 (own_block_lt ho6.out))
          have ho7 : w7.ownsRow (g0 + 1) 5 1 v7 (tk ++ pt).length ((tk ++ pt).map u8v) := by rw [HLEN6.out, List.map_append]; exact own7
          obtain ⟨a8, c8, rfl, -, -, -, hcl8⟩ := own_slice ho7
          have ho8 := hid ho7
          have HL8 := hid hcl8
          have hsm := sum_c (initS d) (tk ++ pt) (tk ++ pt).length g0 SmT w7 (initS_length d) (by rw [HLEN6.out]; omega) hh7.out
          rw [sumL_eq] at hsm
          have hrs := fun w h => rsum_c d (tk ++ pt) (tk ++ pt).length c8 a8 w (by omega) (by omega) rfl (by rw [HLEN6.out]; omega) h
          have HSU := hid (sumL_length d (tk ++ pt))
          have HLK : Hid ((tk ++ pt).length = tk.length + lk) := HLEN6
          clear own7 g7 hbk7 hov ho7 hcl8 hh6 he6 ho6 hco6
          generalize sumL d (tk ++ pt) = su at *
          have HRS := hid hrs
          have HSM := hid hsm
          have HTN := hid (hstep pt lk rfl)
          generalize hnew : tk ++ pt = tn at *
          clear hrs hsm
          have HNEQ := hid (fun w => neq_self Try.underlying65 su HSU.out w)
          go_wp2_with fail
          refine HSM.out.mono ?_
          rintro e w9 ⟨rfl, e9⟩
          go_wp2_with fail
          refine (HRS.out w9 (HL8.out.ext e9)).mono ?_
          rintro e w10 ⟨rfl, e10⟩
          have e11 := e9.ext e10
          have hh11 := hid (hh7.out.ext e11)
          have he11 := hid (he7.out.ext e11)
          have ho11 := hid (ownsRow_ext ho8.out e11)
          have hco11 := hid (hco7.out.ext e11)
          clear hh7 he7 ho8 hco7 e9 e10 e11 HRS HSM HL8
          go_wp2_with (first | (refine wpg_cmp (by rfl) .neq 65 _ _ _ rfl rfl rfl guard_sum HNEQ.out ?_))
          go_roundw
          case rel => exact ⟨k + 1, by omega, by go_num, by rw [HTN.out]; exact ho11, by rw [HTN.out]; exact hh11, he11, by exact hco11⟩
          case measure => simp [intOf]; omega
        · have hkb : ((k : Int) == cp) = false := by rw [beq_eq_false_iff_ne]; exact hkc
          have HKC := hid hkc
          clear hkc
          have hh5 := hh
          have he5 := he
          have ho5 := ho
          have hco5 := hco
          clear hh he ho hco
          generalize hW : wr = W5 at *
          obtain ⟨lk, hlk, hlk1, hlk2⟩ : ∃ lk : Nat, min (li : Int) 500 = (lk : Int) ∧ lk ≤ li ∧ lk ≤ 500 := ⟨min li 500, by omega, by omega, by omega⟩
          have hlkc : lk ≤ ci := by omega
          have htr : (l.take 500).length = lk := by rw [List.length_take, hli]; omega
          have hct : Cells w ai ((l.take 500).map u8v) := by rw [List.map_take]; exact HIT.out.1.take 500
          have hTk : tk.length ≤ 10000 := by omega
          have HCT := hid hct
          have HTR := hid htr
          have HNIL := hid (nil0 hct htr HIT.out.2.1)
          have haw := hid (away_of (n := lk) (g := g0) hct (by rw [List.length_map]; exact htr) hg0w)
          clear hct htr
          generalize l.take 500 = pt at *
          go_wp2_with (first | (refine wpl_slice_high rfl 26 _ _ _ rfl (k := lk) rfl rfl Try.underlying26 size_u8 hlkc ?_))
          refine (write_c (initS d) tk pt (tk.length : Nat) g0 lk ci ai SmT W5 (initS_length d) HTR.out (by omega) (by omega) hh5.out (by omega) hlkc (by have := HIT.out.2.2.2; omega) (fun e => (HNIL.out e).1) (HCT.out.ext he5.out) haw.out).mono ?_
          intro e w6 h
          unfold writePost at h
          rw [HTR.out, if_pos (by omega)] at h
          obtain ⟨rfl, h6, g6⟩ := h
          have hlen6 : (tk ++ pt).length = tk.length + lk := by rw [List.length_append, HTR.out]
          have hh6 : Hid (Holds w6 g0 SmT (initS d) (tk ++ pt) ((tk ++ pt).length : Nat)) := hid (by rw [hlen6, Int.natCast_add]; exact h6)
          have he6 := hid (he5.out.grown g6 (by intro x hx; cases hx; exact hg0w))
          have hb6 : g0 + 1 ≤ w6.heap.size := h6.lt
          have hov := fun x h => own_block_ge ho5.out x h
          have ho6 := hid (ho5.out.kept g6 (.inr fun e => by have := hov _ e; omega))
          have hco6 := hid (hco5.out.turned g6)
          have HLEN6 := hid hlen6
          clear h6 g6 hov hlen6 hh5 he5 ho5 hco5
          go_wp2_with (first | (at_builtin; refine wpg_append8 (by rfl) _ _ rfl (g0 + 1) (ys := pt) rfl rfl ho6.out HTR.out HNIL.out (HCT.out.ext he6.out) (by omega) hb6 ?_))
          intro v7 w7 own7 g7 hbk7
          have hov := fun x h => own_block_ge ho6.out x h
          have hh7 := hid (hh6.out.grown g7 (by intro h; have := hov _ h.symm; omega))
          have he7 := hid (he6.out.grown g7 (by intro x hx; have := hov _ hx; omega))
          have hco7 := hid (hco6.out.appended g7 hbk7 (own_block_lt ho6.out))
          have ho7 : w7.ownsRow (g0 + 1) 5 1 v7 (tk ++ pt).length ((tk ++ pt).map u8v) := by rw [HLEN6.out, List.map_append]; exact own7
          obtain ⟨a8, c8, rfl, -, -, -, hcl8⟩ := own_slice ho7
          have ho8 := hid ho7
          have HL8 := hid hcl8
          have hsm := sum_c (initS d) (tk ++ pt) (tk ++ pt).length g0 SmT w7 (initS_length d) (by rw [HLEN6.out]; omega) hh7.out
          rw [sumL_eq] at hsm
          have hrs := fun w h => rsum_c d (tk ++ pt) (tk ++ pt).length c8 a8 w (by omega) (by omega) rfl (by rw [HLEN6.out]; omega) h
          have HSU := hid (sumL_length d (tk ++ pt))
          have HLK : Hid ((tk ++ pt).length = tk.length + lk) := HLEN6
          clear own7 g7 hbk7 hov ho7 hcl8 hh6 he6 ho6 hco6
          generalize sumL d (tk ++ pt) = su at *
          have HRS := hid hrs
          have HSM := hid hsm
          have HTN := hid (hstep pt lk rfl)
          generalize hnew : tk ++ pt = tn at *
          clear hrs hsm
          have HNEQ := hid (fun w => neq_self Try.underlying65 su HSU.out w)
          go_wp2_with fail
          refine HSM.out.mono ?_
          rintro e w9 ⟨rfl, e9⟩
          go_wp2_with fail
          refine (HRS.out w9 (HL8.out.ext e9)).mono ?_
          rintro e w10 ⟨rfl, e10⟩
          have e11 := e9.ext e10
          have hh11 := hid (hh7.out.ext e11)
          have he11 := hid (he7.out.ext e11)
          have ho11 := hid (ownsRow_ext ho8.out e11)
          have hco11 := hid (hco7.out.ext e11)
          clear hh7 he7 ho8 hco7 e9 e10 e11 HRS HSM HL8
          go_wp2_with (first | (refine wpg_cmp (by rfl) .neq 65 _ _ _ rfl rfl rfl guard_sum HNEQ.out ?_))
          go_roundw
          case rel => exact ⟨k + 1, by omega, by go_num, by rw [HTN.out]; exact ho11, by rw [HTN.out]; exact hh11, he11, by exact hco11⟩
          case measure => simp [intOf]; omega
      · have hkN : k = N := by omega
        subst hkN
        have hfl : catT (its.take k) = catT (its.take k) := rfl
        generalize catT (its.take k) = tk at *
        clear hfl hlt HITS HCL
        rcases hco.out with ⟨rfl, rfl⟩ | ⟨gc, old, rfl, hgc, hgh, hol, hoo, hvt, hvo, hne⟩
        · go_wp2
          go_ret
          exact ⟨rfl, he.out⟩
        · have hgl := hgh.lt
          obtain ⟨a3, c3, rfl, -, -, -, hcl3⟩ := own_slice ho.out
          obtain ⟨a4, c4, rfl, -, -, -, hcl4⟩ := own_slice hoo
          have hsm := sum_c (initS d) old old.length gc SmT wr (initS_length d) (by omega) hgh
          rw [sumL_eq] at hsm
          have HRS := hid (fun w h => rsum_c d old old.length c4 a4 w hd0 hd255 rfl (by omega) h)
          have HSU := hid (sumL_length d old)
          generalize sumL d old = su at *
          have HEQ := hid (fun w => eq_self Try.underlying65 su HSU.out w)
          have HSM := hid hsm
          have C4 := hid hcl4
          have HGC := hid hgh
          have HOO := hid hoo
          have HNE := hid hne
          have HVT := hid hvt
          have HVO := hid hvo
          clear hsm hcl4 hcl3 hgh hoo hne hvt hvo hco
          go_wp2_with fail
          refine HSM.out.mono ?_
          rintro e w3 ⟨rfl, e3⟩
          go_wp2_with fail
          refine (HRS.out w3 (C4.out.ext e3)).mono ?_
          rintro e w4 ⟨rfl, e4⟩
          have e34 := e3.ext e4
          have G4 := hid (HGC.out.ext e34)
          have S4 := hid (hh.out.ext e34)
          have T4 := hid (ownsRow_ext ho.out e34)
          have O4 := hid (ownsRow_ext HOO.out e34)
          have E4 := hid (he.out.ext e34)
          clear e3 e4 e34 HSM HRS C4 HGC HOO hh ho he
          have zB : Blk (w4.alloc (.cells #[.int .u8 7] 5)) w4.heap.size (([7] : List UInt8).map u8v) 5 := Blk.mk_alloc rfl rfl
          have eB : Ext w4 (w4.alloc (.cells #[.int .u8 7] 5)) := (Ext.refl w4).alloc _
          have lB := G4.out.lt
          go_wp2_with (first | (refine wpg_cmp (by rfl) .eql 65 _ _ _ rfl rfl rfl guard_sum HEQ.out ?_))
          generalize w4.alloc (.cells #[.int .u8 7] 5) = wB at *
          refine (write_c (initS d) old [7] (old.length : Nat) gc 1 1 (some ⟨w4.heap.size, 0, none⟩) SmT wB (initS_length d) rfl (by omega) (by omega) (G4.out.ext eB) (by omega) (Nat.le_refl _) (by omega) (by intro h; cases h) (Cells.of_blk0 zB) (.inr (by intro x hx; cases hx; intro e; injection e with e; simp only at e; omega))).mono ?_
          intro e w5 h
          unfold writePost at h
          rw [if_pos (by simp only [List.length_cons, List.length_nil]; omega)] at h
          obtain ⟨rfl, h5, g5⟩ := h
          have hl7 : (old ++ [7]).length = old.length + 1 := by rw [List.length_append]; rfl
          have h5' : Holds w5 gc SmT (initS d) (old ++ [7]) ((old ++ [7]).length : Nat) := by rw [hl7, Int.natCast_add]; exact h5
          have hov := fun x h => own_block_ge O4.out x h
          have htv := fun x h => own_block_ge T4.out x h
          have G5 := hid h5'
          have S5 := hid ((S4.out.ext eB).grown g5 (by intro e; injection e with e; omega))
          have T5 := hid ((ownsRow_ext T4.out eB).kept g5 (.inr HVT.out))
          have O5 := hid ((ownsRow_ext O4.out eB).kept g5 (.inr HVO.out))
          have E5 := hid ((E4.out.ext eB).grown g5 (by intro x hx; cases hx; omega))
          have HL7 := hid hl7
          clear zB eB lB h5 h5' g5 G4 S4 T4 O4 E4 hov htv hl7
          generalize h07 : old ++ [7] = o7 at *
          have hsm := sum_c (initS d) o7 o7.length gc SmT w5 (initS_length d) (by rw [HL7.out]; omega) G5.out
          rw [sumL_eq] at hsm
          have HRS := hid (fun c a w h => rsum_c d o7 (old.length + 1) c a w hd0 hd255 HL7.out (by omega) h)
          have HSU2 := hid (sumL_length d o7)
          generalize sumL d o7 = su2 at *
          have HEQ2 := hid (fun w => eq_self Try.underlying65 su2 HSU2.out w)
          have HSM := hid hsm
          clear hsm
          have H07 := hid h07
          clear h07
          go_wp2_with fail
          refine HSM.out.mono ?_
          rintro e w6 ⟨rfl, e6⟩
          have S6 := hid (S5.out.ext e6)
          have T6 := hid (ownsRow_ext T5.out e6)
          have O6 := hid (ownsRow_ext O5.out e6)
          have E6 := hid (E5.out.ext e6)
          have hb6 : g0 + 1 ≤ w6.heap.size := S6.out.lt
          clear e6 HSM G5 S5 T5 O5 E5
          have zC : Blk (w6.alloc (.cells #[.int .u8 7] 5)) w6.heap.size (([7] : List UInt8).map u8v) 5 := Blk.mk_alloc rfl rfl
          have eC : Ext w6 (w6.alloc (.cells #[.int .u8 7] 5)) := (Ext.refl w6).alloc _
          have ZC := hid zC
          have S7 := hid (S6.out.ext eC)
          have T7 := hid (ownsRow_ext T6.out eC)
          have O7 := hid (ownsRow_ext O6.out eC)
          have E7 := hid (E6.out.ext eC)
          have hb7 : g0 + 1 ≤ (w6.alloc (.cells #[.int .u8 7] 5)).heap.size := Nat.le_trans hb6 eC.size
          clear zC eC S6 T6 O6 E6
          go_wp2_with (first | (at_builtin; refine wpg_append8 (by rfl) _ _ rfl (g0 + 1) (ys := [7]) rfl rfl O7.out rfl (by intro h; cases h) (Cells.of_blk0 ZC.out) (by omega) hb7 ?_))
          generalize w6.alloc (.cells #[.int .u8 7] 5) = wC at *
          intro v8 w8 own8 g8 hbk8
          have hov := fun x h => own_block_ge O7.out x h
          have S8 := hid (S7.out.grown g8 (by intro h; have := hov _ h.symm; omega))
          have T8 := hid (T7.out.kept g8 (by
            rcases HNE.out with h | h
            · rcases hvb : (Value.slice a3 tk.length c3).ownBlock with _ | x
              · exact .inl rfl
              · rw [h]; exact .inr (by simp)
            · exact .inr (Ne.symm h)))
          have E8 := hid (E7.out.grown g8 (by intro x hx; have := hov _ hx; omega))
          have own8' : w8.ownsRow (g0 + 1) 5 1 v8 (old.length + 1) (o7.map u8v) := by rw [← H07.out, List.map_append]; exact own8
          obtain ⟨a9, c9, rfl, -, -, -, hcl9⟩ := own_slice own8'
          have hrs := HRS.out c9 a9 w8 hcl9
          have HR8 := hid hrs
          clear own8 own8' hbk8 g8 hov hcl9 hrs S7 T7 O7 E7 ZC hb7 HRS
          go_wp2_with fail
          refine HR8.out.mono ?_
          rintro e w9 ⟨rfl, e9⟩
          have S9 := hid (S8.out.ext e9)
          have T9 := hid (ownsRow_ext T8.out e9)
          have E9 := hid (E8.out.ext e9)
          clear e9 S8 T8 E8 HR8
          have hsm := sum_c (initS d) tk tk.length g0 SmT w9 (initS_length d) (by omega) S9.out
          rw [sumL_eq] at hsm
          have HRS := hid (fun c a w h => rsum_c d tk tk.length c a w hd0 hd255 rfl (by omega) h)
          have HSU3 := hid (sumL_length d tk)
          generalize sumL d tk = su3 at *
          have HEQ3 := hid (fun w => eq_self Try.underlying65 su3 HSU3.out w)
          have HSM := hid hsm
          clear hsm
          go_wp2_with (first | (refine wpg_cmp (by rfl) .eql 65 _ _ _ rfl rfl rfl guard_sum HEQ2.out ?_))
          refine HSM.out.mono ?_
          rintro e w10 ⟨rfl, e10⟩
          obtain ⟨a5, c5, hv5, -, -, -, hcl5⟩ := own_slice T9.out
          injection hv5 with h1 h2 h3
          subst h1
          have HR10 := hid (HRS.out c3 a3 w10 (hcl5.ext e10))
          have E10 := hid (E9.out.ext e10)
          clear hcl5 e10 h2 h3 HRS HSM S9 T9 E9
          go_wp2_with fail
          refine HR10.out.mono ?_
          rintro e w11 ⟨rfl, e11⟩
          have E11 := hid (E10.out.ext e11)
          clear e11 HR10 E10
          go_wp2_with (first | (refine wpg_cmp (by rfl) .eql 65 _ _ _ rfl rfl rfl guard_sum HEQ3.out ?_))
          go_ret
          exact ⟨rfl, E11.out⟩
end Go.Proofs.Ytjgglnflicemjaa
