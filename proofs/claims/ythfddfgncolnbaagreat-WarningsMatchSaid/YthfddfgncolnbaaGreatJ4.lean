/- Contracts and laws that the claim's row leans on (14 texts, joined): policy.roleSets: the sets of roles of a world; conditions: the policy's memory, as many rules as a checked policy has. policy.roleSets: the sets of roles of a world; conditions: the policy's memory, as many rules and roles as a checked policy has. policy.labels and policy.hoursOf; conditions: the policy's memory, as many rules and labels as a checked policy has, its labels are patterns. Texts are joined; no condition. policy.labels; conditions: the policy's memory, as many rules and labels as a checked policy has, its labels are patterns. A slice of one value of several cells is built; a slice is made with room; asks as a row; conditions: the sizes. policy.world: the world of a policy that is right; conditions: the policy's memory, its check says OK. policy.world: the world of a policy that is right; conditions: the policy's memory, its check says OK. slices.Clone of strings; asks with their memory; policy.worldOf and World; conditions: the policy's memory. policy.worldOf and World; conditions: the policy's memory. policy.World; conditions: the policy's memory. Append of what stands behind any slice; three rows that grow side by side; conditions: the sizes. slices.Grow (of nil) and Concat at rules; conditions: the lengths. keyref1.Decide; conditions: the memory of both, and that both are right. -/
import Derived.Test.YthfddfgncolnbaaGreatJ3
import Derived.Laws.MakeOwn
import Derived.Great.BuildSlice
namespace Go.Proofs.YthfddfgncolnbaaGreat
section
open Go Go.RowKit Go.Maps Go.MapKept Go.WideShapes

theorem own_mkS {w : World} {B q : Nat} {e : TypeId} {z n cap : Nat} {xs rest : List Value} (hb : Blk w q (xs ++ rest) e) (hl : (xs ++ rest).length = cap * z) (hx : xs.length = n * z) (hB : B ≤ q) (hn : n ≤ cap) (hc : cap ≤ maxLen) :
    w.ownsRow B e z (.slice (some ⟨q, 0, none⟩) n cap) n xs :=
  ⟨hx, .inr ⟨q, cap, (xs ++ rest).toArray, rfl, hB, hb, hn, hc, by simpa using hl, by simp [← hx]⟩⟩
structure SetR.Own (w : World) (s : SetR) : Prop where
  row : ∃ B, w.ownsRow B 9 1 s.v s.n (s.roles.map sv)
  sz : ∀ x ∈ s.roles, x.length ≤ 140737488355328
theorem SetR.Own.ok {w : World} {s : SetR} (h : s.Own w) (hn : s.n ≤ 140737488355328) : s.Ok w := by
  obtain ⟨B, hr⟩ := h.row
  have hl := hr.1
  obtain ⟨ad, c, hv, hnc, _, hc⟩ := own_cellsA hr
  unfold SetR.v at hv
  injection hv with h1 h2 h3
  exact ⟨by rw [List.length_map] at hl; omega, by omega, hn, by rw [h1]; exact hc, h.sz⟩
theorem ext_grown {w w' : World} (e : Ext w w') (r : Option Nat) : w.grownBy w' r := ⟨e.os, e.tape, e.output, e.size, fun i hi _ => e.block i hi⟩
theorem SetR.Own.ext {w w' : World} {s : SetR} (h : s.Own w) (e : Ext w w') : s.Own w' := by
  obtain ⟨B, hr⟩ := h.row
  exact ⟨⟨B, own_beside hr (ext_grown e none) (fun g _ => by simp)⟩, h.sz⟩
theorem SetR.Own.beside {w w' : World} {s : SetR} {B n : Nat} {v : Value} {xs : List Value} (h : s.Own w) (hr : w.ownsRow B 36 1 v n xs) (k : w.grownBy w' v.ownBlock) : s.Own w' := by
  obtain ⟨B2, h2⟩ := h.row
  exact ⟨⟨B2, Apart.keep (Apart.of_ty hr h2 (by decide)) h2 k⟩, h.sz⟩
theorem SetR.Own.nil (w : World) : SetR.Own w ⟨none, 0, 0, []⟩ := ⟨⟨0, rfl, .inl ⟨rfl, rfl⟩⟩, by simp⟩
theorem SetR.Own.made {w : World} {g : Nat} {l : List (List UInt8)} (h : Blk w g (l.map sv) 9) (hl : ∀ x ∈ l, x.length ≤ 140737488355328) (hn : l.length ≤ 1000000) : SetR.Own w ⟨some ⟨g, 0, none⟩, l.length, l.length, l⟩ :=
  ⟨⟨0, own_mkS (rest := []) (by simpa using h) (by simp) (by simp) (Nat.zero_le _) (Nat.le_refl _) (by show l.length ≤ maxLen; unfold maxLen; omega)⟩, hl⟩
/-- a slice of sets that may grow, and the sets -/
structure OutI (w : World) (B : Nat) (v : Value) (ss : List SetR) : Prop where
  row : w.ownsRow B 36 1 v ss.length (ss.map SetR.v)
  own : ∀ s ∈ ss, s.Own w
theorem OutI.ext {w w' : World} {B : Nat} {v : Value} {ss : List SetR} (h : OutI w B v ss) (e : Ext w w') : OutI w' B v ss :=
  ⟨own_beside h.row (ext_grown e none) (fun g _ => by simp), fun s hs => (h.own s hs).ext e⟩
theorem OutI.push {w w' : World} {B : Nat} {v v' : Value} {ss : List SetR} {s : SetR} (h : OutI w B v ss) (hs : s.Own w) (ho : w'.ownsRow B 36 1 v' (ss.length + 1) (ss.map SetR.v ++ [s.v])) (hg : w.grownBy w' v.ownBlock) : OutI w' B v' (ss ++ [s]) := by
  refine ⟨by simpa using ho, fun x hx => ?_⟩
  rcases List.mem_append.1 hx with hx | hx
  · exact (h.own x hx).beside h.row hg
  · rw [List.mem_singleton] at hx
    subst hx
    exact hs.beside h.row hg
theorem OutI.grownExt {w0 w w' : World} {B : Nat} {v : Value} {ss : List SetR} (h : OutI w B v ss) (e : Ext w0 w) (hg : w.grownBy w' v.ownBlock) (hB : w0.heap.size ≤ B) : Ext w0 w' :=
  e.grown hg (fun q hq => Nat.le_trans hB (h.row.lt q hq).1)
theorem one_setv (s : SetR) : s.v.oneCell' = true := rfl
theorem elem_sets : ElemT Tryz.prog 75 36 1 24 := ⟨Tryz.underlying75, ⟨_, _, (info_parts (show (Tryz.prog.info? 36).map (fun i => (i.zero, i.size, i.bytes)) = some (some (.slice none 0 0), 1, 24) by kernel_rfl)).choose_spec.1, (info_parts (show (Tryz.prog.info? 36).map (fun i => (i.zero, i.size, i.bytes)) = some (some (.slice none 0 0), 1, 24) by kernel_rfl)).choose_spec.2.1, (info_parts (show (Tryz.prog.info? 36).map (fun i => (i.zero, i.size, i.bytes)) = some (some (.slice none 0 0), 1, 24) by kernel_rfl)).choose_spec.2.2.1, (info_parts (show (Tryz.prog.info? 36).map (fun i => (i.zero, i.size, i.bytes)) = some (some (.slice none 0 0), 1, 24) by kernel_rfl)).choose_spec.2.2.2, rfl⟩, by decide⟩
theorem cells_one {w : World} {a : Option Addr} {xs : List Value} {k : Nat} {u : Value} (h : Cells w a xs) (hx : xs[k]? = some u) : ∃ A, a = some A ∧ w.cell? (A.add (k * 1)) = some u := by
  obtain ⟨g, o, rfl, h2⟩ := h.some_of (by have := (List.getElem?_eq_some_iff.1 hx).1; omega)
  exact ⟨_, rfl, by rw [addr_add, Nat.mul_one]; exact h2 k _ hx⟩
theorem roleWords_len (r : RuleR) : (roleWords r).length ≤ r.roles.length + 1 := by
  unfold roleWords
  rw [List.length_append, List.length_map]
  split <;> simp
theorem rolesW_succ {rs : List RuleR} {k : Nat} {r : RuleR} (h : rs[k]? = some r) : rolesW (rs.take (k + 1)) = rolesW (rs.take k) ++ roleWords r := by
  unfold rolesW
  rw [List.take_add_one, h, List.flatMap_append]
  simp
end

section
open Go Go.RowKit Go.Maps Go.MapKept Go.WideShapes

theorem wpl_updS {P : Program} {ops : Array Oper} {rest : List Oper} {o : Oper} {a : Act} {w : World} {Q : Exit → Act → World → Prop} {K : Type} [DecidableEq K] {kv : K → Value} {good : K → Prop} {g : Nat} {ks : List K} {k : K}
    (hgd : o.guard = none) (t : TypeId) (m x y : Operand) (ho : o.op = .mapUpdate t m x y ∨ o.op = .insert t m x y) {tk te : TypeId} (KV : KeyV P tk kv good) (ht : P.underlying t = some (.map tk te)) (hm : a.eval m = .map (some g)) (hx : a.eval x = kv k) (hy : a.eval y = .bool true) (hs : SetOf kv good w g ks) (hk : good k)
    (h : ∀ w' ks', Upd w g w' → SetOf kv good w' g ks' → (∀ y, y ∈ ks' ↔ y = k ∨ y ∈ ks) → ks'.length ≤ ks.length + 1 → wpList P ops Q rest (a.put o.dst undef) w') : wpList P ops Q (o :: rest) a w := by
  obtain ⟨w', ks', hr, hu, hS, hmem, hl⟩ := hs.add KV ht hk
  refine wpList_plain hgd fun K hK => ?_
  have := hK _ _ (h w' ks' hu hS hmem hl)
  rcases ho with ho | ho
  · unfold Oper.wp execOp
    simp only [ho, hm, hx, hy, Sem.run_bind, hr, Result.andThen_ok, Sem.run_pure]
    exact this
  · unfold Oper.wp execOp
    simp only [ho, hm, hx, hy, Sem.run_bind, hr, Result.andThen_ok, Sem.run_pure]
    exact this

theorem size_allocW (w : World) (o : Obj) : (w.alloc o).heap.size = w.heap.size + 1 := by show (w.heap.push _).size = _; simp
theorem blk_two (w : World) (o : Obj) (v : Value) (T : TypeId) : Blk ((w.alloc o).alloc (.cells #[v] T)) (w.heap.size + 1) [v] T := by
  rw [← size_allocW w o]
  exact Blk.mk_alloc rfl rfl
theorem OutI.made {w w' : World} {B N : Nat} {v v' : Value} {ss : List SetR} {l : List (List UInt8)} {o2 : Obj} (h : OutI w B v ss) (hN : l.length = N) (hl : ∀ x ∈ l, x.length ≤ 140737488355328) (hn : N ≤ 1000000)
    (ho : w'.ownsRow B 36 1 v' (ss.length + 1) (ss.map SetR.v ++ [.slice (some ⟨w.heap.size, 0, none⟩) N N])) (hg : ((w.alloc (.cells (l.map sv).toArray 9)).alloc o2).grownBy w' v.ownBlock) : OutI w' B v' (ss ++ [⟨some ⟨w.heap.size, 0, none⟩, N, N, l⟩]) := by
  subst hN
  refine (h.ext (((Ext.refl w).alloc _).alloc _)).push (s := ⟨some ⟨w.heap.size, 0, none⟩, l.length, l.length, l⟩) (SetR.Own.made ?_ hl hn) ho hg
  exact (Blk.mk_alloc (by simp) rfl).alloc _
theorem OutI.madeExt {w0 w w' : World} {B : Nat} {v : Value} {ss : List SetR} {o1 o2 : Obj} (h : OutI w B v ss) (e : Ext w0 w) (hB : w0.heap.size ≤ B) (hg : ((w.alloc o1).alloc o2).grownBy w' v.ownBlock) : Ext w0 w' :=
  ((e.alloc _).alloc _).grown hg (fun q hq => Nat.le_trans hB (h.row.lt q hq).1)
theorem SetR.Own.mades {w w' : World} {s : SetR} {B : Nat} {v : Value} {ss : List SetR} {o1 o2 : Obj} (h : s.Own w) (ho : OutI w B v ss) (hg : ((w.alloc o1).alloc o2).grownBy w' v.ownBlock) : s.Own w' :=
  (h.ext (((Ext.refl w).alloc _).alloc _)).beside (ho.ext (((Ext.refl w).alloc _).alloc _)).row hg
theorem pairsW_at {ro : List (List UInt8)} {k : Nat} {x : List UInt8} (h : ro[k]? = some x) : pairsW (ro.drop k) = (ro.drop (k + 1)).map (fun t => [x, t]) ++ pairsW (ro.drop (k + 1)) := by
  have hk := (List.getElem?_eq_some_iff.1 h).1
  rw [List.drop_eq_getElem_cons hk, (List.getElem?_eq_some_iff.1 h).2]
  rfl
theorem pairsW_end {ro : List (List UInt8)} {k : Nat} (h : ro.length ≤ k) : pairsW (ro.drop k) = [] := by rw [List.drop_of_length_le h]; rfl
theorem Cells.drop1 {w : World} {a : Option Addr} {xs : List Value} (h : Cells w a xs) (c k : Nat) (hc : xs.length ≤ c) : Cells w (shiftz a c k 1) (xs.drop k) := by
  unfold shiftz
  split
  · exact .inl (List.drop_of_length_le (by omega))
  · rcases h with h | ⟨b, off, rfl, h⟩
    · exact .inl (by rw [h]; simp)
    · refine .inr ⟨b, off + k, by rw [Option.map_some, addr_add, Nat.mul_one], fun i u hu => ?_⟩
      rw [List.getElem?_drop] at hu
      rw [Nat.add_assoc]
      exact h _ u hu
theorem exec_lowW {P : Program} {o : Oper} {a : Act} {t e : TypeId} {x y : Operand} {p q : Option Addr} {n c k z m d : Nat} (hq : shiftz p c k z = q) (hm : n - k = m) (hd : c - k = d) (ho : o.op = .slice t x (some y) none none) (hx : a.eval x = .slice p n c) (hy : a.eval y = .int .i64 (k : Int)) (hu : P.underlying t = some (.slice e)) (hs : (P.info? e).map (·.size) = some z) (hk : k ≤ n) (w : World) :
    (execOp a.eval o).run P w = .ok (.value (.slice q m d)) w := by
  subst hq; subst hm; subst hd
  exact exec_low ho hx hy hu hs hk w
set_option maxRecDepth 100000 in
set_option maxHeartbeats 4000000 in
theorem roleSets_c (pa : Option Addr) (pn pc : Nat) (rs : List RuleR) (w : World) (hp : PolOk w pa pn pc rs) (h100 : pn ≤ 100) (h16 : ∀ r ∈ rs, r.rn ≤ 16) :
    Calls Tryz.prog 79 #[.agg #[.slice pa pn pc]] w fun e w' => ∃ v ss, e = .returned v ∧ OutI w' w.heap.size v ss ∧ ss.map SetR.roles = setsW (canL (rolesW rs)) ∧ Ext w w' := by
  have HPO := hid hp
  have H16 := hid h16
  clear hp h16
  have hmk := fun w => run_makeMapU (P := Tryz.prog) 142 w
  go_enter Tryz.func79, Tryz.ntmps79
  go_upto_region 2 with (fail)
  obtain ⟨G, hG⟩ : ∃ G, w.heap.size + 1 = G := ⟨_, rfl⟩
  have hGw : w.heap.size ≤ G := by omega
  generalize hwA : World.alloc (World.alloc w _) _ = wA
  have bA : Blk wA w.heap.size [.slice pa pn pc] 24 := by rw [← hwA]; exact (Blk.mk_alloc rfl rfl).alloc _
  have sA : SetOf sv goodS wA G [] := by
    rw [← hwA, ← hG]
    have := SetOf.new (kv := sv) (good := goodS) (w.alloc (.cells #[.slice pa pn pc] 24))
    rwa [show (w.alloc (.cells #[.slice pa pn pc] 24)).heap.size = w.heap.size + 1 by show (w.heap.push _).size = _; simp] at this
  have eA : Ext w wA := by rw [← hwA]; exact ((Ext.refl w).alloc _).alloc _
  have SA := hid sA
  have EA := hid eA
  have c0 := bA.cell' (i := 0) rfl
  rw [hG]
  clear hwA bA sA eA hmk hG
  go_wp2
  go_loopw [20] (fun i wr => ∃ (k : Nat) (ks : List (List UInt8)), k ≤ pn ∧ i = .int .i64 (k : Int) ∧ SetOf sv goodS wr G ks ∧ (∀ y, y ∈ ks ↔ y ∈ rolesW (rs.take k)) ∧ ks.length ≤ k * 17 ∧ Ext w wr) (fun i _ => pn - (intOf i).toNat)
  case atStart => exact ⟨0, [], by omega, rfl, SA.out, fun y => by simp [rolesW], by simp, EA.out⟩
  case round =>
    obtain ⟨k, ks, hk, rfl, hset, hmem, hlen, e1⟩ := hrel
    have E1 := hid e1
    have HSET := hid hset
    have HMEM := hid hmem
    have HLEN := hid hlen
    clear e1 hset hmem hlen SA EA
    by_cases hlt : k < pn
    · obtain ⟨r, hrk⟩ : ∃ r, rs[k]? = some r := ⟨rs[k]'(by rw [HPO.out.hl]; exact hlt), by simp⟩
      obtain ⟨A, rfl, hca⟩ := (HPO.out.ext E1.out).at hrk
      have HCA := hid hca
      have HOK := hid (HPO.out.ok r (List.mem_of_getElem? hrk))
      have hr16 := H16.out r (List.mem_of_getElem? hrk)
      have HRL := hid (RuleR.len r)
      have HRK := hid hrk
      clear hca hrk
      have hro := ruleV_one r
      have HAG := hid agg_rule
      go_wp2_with (first | (refine wpl_run rfl (exec_index (i := k) rfl rfl rfl Tryz.underlying22 size_rule hlt _) ?_) | (refine wpl_run rfl (exec_load_at rfl rfl HCA.out HAG.out HRL.out) ?_) | (refine wpl_storew rfl _ (.tmp 5) _ rfl rfl rfl (Blk.mk_alloc (vs := zeroRule) rfl rfl) HAG.out rfl HRL.out hro ?_))
      intro wB bB uB
      have eB : Ext wr wB := uB.ext ((Ext.refl wr).alloc _) (Nat.le_refl _)
      have BB := hid bB
      have EB := hid (E1.out.ext eB)
      have SETB := hid (HSET.out.ext eB)
      have hgr : G < wr.heap.size := HSET.out.lt
      clear bB uB eB HCA HSET E1
      generalize wr.heap.size = gr at *
      have c1 := BB.out.cell' (i := 1) rfl
      go_wp2
      go_loopw [27] (fun i wr2 => ∃ (j : Nat) (ks2 : List (List UInt8)), j ≤ r.rn ∧ i = .int .i64 (j : Int) ∧ SetOf sv goodS wr2 G ks2 ∧ (∀ y, y ∈ ks2 ↔ y ∈ rolesW (rs.take k) ++ (r.roles.take j).map bs) ∧ ks2.length ≤ k * 17 + j ∧ Blk wr2 gr r.v 50 ∧ Ext w wr2) (fun i _ => r.rn - (intOf i).toNat)
      case atStart => exact ⟨0, ks, by omega, rfl, SETB.out, fun y => by rw [HMEM.out y]; simp, HLEN.out, BB.out, EB.out⟩
      case round =>
        obtain ⟨j, ks2, hj, rfl, hset, hmem2, hlen2, hbb, e2⟩ := hrel
        have E2 := hid e2
        have SET2 := hid hset
        have MEM2 := hid hmem2
        have LEN2 := hid hlen2
        have BB2 := hid hbb
        have OK2 := hid (HOK.out.ext E2.out)
        clear e2 hset hmem2 hlen2 hbb SETB BB EB
        by_cases hjt : j < r.rn
        · obtain ⟨s, hsj⟩ : ∃ s, r.roles[j]? = some s := ⟨r.roles[j]'(by rw [OK2.out.rl]; exact hjt), by simp⟩
          obtain ⟨A2, hA2, hcs⟩ := strs_at OK2.out.rcell hsj
          rw [Nat.mul_one] at hcs
          have hsz := OK2.out.rs s (List.mem_of_getElem? hsj)
          have hgs : goodS (bs s) := by unfold goodS; rw [bs_len]; exact hsz
          rw [hA2]
          have HSJ := hid hsj
          clear hsj
          go_wp2_with (refine wpl_updS (k := bs s) rfl 142 _ _ _ (.inl rfl) keyS Tryz.underlying142 rfl (bs_str s).symm rfl SET2.out hgs ?_)
          intro wU ks3 hU hS3 hm3 hl3
          have EU := hid (hU.ext E2.out hGw)
          have S3 := hid hS3
          have M3 : Hid (∀ y, y ∈ ks3 ↔ y ∈ rolesW (rs.take k) ++ (r.roles.take (j + 1)).map bs) := hid (fun y => by
            rw [hm3 y, MEM2.out y, List.take_add_one, HSJ.out]
            simp only [List.mem_append, List.map_append, Option.toList_some, List.map_cons, List.map_nil, List.mem_singleton]
            constructor
            · rintro (h | h | h)
              · exact .inr (.inr h)
              · exact .inl h
              · exact .inr (.inl h)
            · rintro (h | h | h)
              · exact .inr (.inl h)
              · exact .inr (.inr h)
              · exact .inl h)
          have L3 : Hid (ks3.length ≤ k * 17 + (j + 1)) := hid (by have := LEN2.out; omega)
          have BU := hid (BB2.out.upd hU (by omega))
          clear hU hS3 hm3 hl3
          go_wp2
          go_roundw
          case rel => exact ⟨j + 1, ks3, by omega, by go_num, S3.out, M3.out, L3.out, BU.out, EU.out⟩
          case measure => simp [intOf]; omega
        · obtain rfl : j = r.rn := by omega
          have hM : ∀ y, y ∈ ks2 ↔ y ∈ rolesW (rs.take k) ++ r.roles.map bs := fun y => by
            rw [MEM2.out y, show r.roles.take r.rn = r.roles from List.take_of_length_le (by rw [OK2.out.rl]; exact Nat.le_refl _)]
          have HM := hid hM
          have c7 := BB2.out.cell' (i := 7) rfl
          have hos : goodS (bs r.ow) := by unfold goodS; rw [bs_len]; exact OK2.out.os
          have hro2 := rolesW_succ HRK.out
          clear hM MEM2
          cases hem : emptyB r.ow with
          | true =>
            have HM3 : Hid (∀ y, y ∈ ks2 ↔ y ∈ rolesW (rs.take (k + 1))) := hid (fun y => by rw [HM.out y, hro2]; unfold roleWords; rw [hem]; simp)
            have L3 : Hid (ks2.length ≤ (k + 1) * 17) := hid (by have := LEN2.out; omega)
            clear hro2
            unfold emptyB at hem
            go_wp2
            go_roundw
            case rel => exact ⟨k + 1, ks2, by omega, by go_num, SET2.out, HM3.out, L3.out, E2.out⟩
            case measure => simp [intOf]; omega
          | false =>
            have HRO : Hid (rolesW (rs.take (k + 1)) = (rolesW (rs.take k) ++ r.roles.map bs) ++ [bs r.ow]) := hid (by rw [hro2]; unfold roleWords; rw [hem]; simp)
            clear hro2
            unfold emptyB at hem
            go_wp2_with (refine wpl_updS (k := bs r.ow) rfl 142 _ _ _ (.inl rfl) keyS Tryz.underlying142 rfl (bs_str r.ow).symm rfl SET2.out hos ?_)
            intro wU ks3 hU hS3 hm3 hl3
            have EU := hid (hU.ext E2.out hGw)
            have S3 := hid hS3
            have M3 : Hid (∀ y, y ∈ ks3 ↔ y ∈ rolesW (rs.take (k + 1))) := hid (fun y => by
              rw [hm3 y, HM.out y, HRO.out]
              simp only [List.mem_append, List.mem_singleton]
              constructor
              · rintro (h | h | h)
                · exact .inr h
                · exact .inl (.inl h)
                · exact .inl (.inr h)
              · rintro ((h | h) | h)
                · exact .inr (.inl h)
                · exact .inr (.inr h)
                · exact .inl h)
            have L3 : Hid (ks3.length ≤ (k + 1) * 17) := hid (by have := LEN2.out; omega)
            clear hU hS3 hm3 hl3
            go_wp2
            go_roundw
            case rel => exact ⟨k + 1, ks3, by omega, by go_num, S3.out, M3.out, L3.out, EU.out⟩
            case measure => simp [intOf]; omega
    · obtain rfl : k = pn := by omega
      have HM : Hid (∀ y, y ∈ ks ↔ y ∈ rolesW rs) := hid (fun y => by rw [HMEM.out y, List.take_of_length_le (by rw [HPO.out.hl]; exact Nat.le_refl _)])
      have HL : Hid (ks.length ≤ 1700) := hid (by have := HLEN.out; omega)
      clear HMEM HLEN
      go_wp2_with fail
      refine (strBkeys_c G wr).mono ?_
      rintro e w1 ⟨rfl, hw1⟩
      have hb1 : Blk w1 wr.heap.size [.map (some G)] 142 := by rw [hw1]; exact Blk.mk_alloc rfl rfl
      have e1 : Ext wr w1 := by rw [hw1]; exact (Ext.refl wr).alloc _
      have S1 := hid (HSET.out.ext e1)
      have EA := hid (E1.out.ext e1)
      have hsrt := hid (sortedStr_c wr.heap.size G (yesL ks) w1 hb1.lt (hb1.cell' (i := 0) rfl) S1.out.map (by unfold yesL; rw [List.length_map]; have := HL.out; omega))
      clear hb1 e1 hw1 E1 HSET
      go_wp2_with fail
      refine hsrt.out.mono ?_
      rintro e w2 ⟨v, ks', rfl, hp, ho, e2⟩
      rw [yesL_keys] at hp
      have hcan : sortL ks' = canL (rolesW rs) := canL_of (hp.nodup_iff.2 S1.out.nodup) (fun x => by rw [hp.mem_iff, HM.out x])
      have hkl : ks'.length = (canL (rolesW rs)).length := by rw [← hcan, sortL_len]
      rw [hcan, hkl] at ho
      have hl17 : (canL (rolesW rs)).length ≤ 1700 := by rw [← hkl, hp.length_eq]; exact HL.out
      have hsz : ∀ x ∈ canL (rolesW rs), x.length ≤ 140737488355328 := by
        intro x hx
        rw [canL_mem] at hx
        exact S1.out.ents.good (x, .yes) (by unfold yesL; simpa using (HM.out x).2 hx)
      obtain ⟨a, c, rfl, hnc, ha0, hcells⟩ := own_cellsA ho
      have HO := hid ho
      have HSZ := hid hsz
      have E2 := hid (EA.out.ext e2)
      generalize hRO : canL (rolesW rs) = ro at *
      have HRO := hid hRO
      have hB : w.heap.size ≤ w1.heap.size := EA.out.size
      clear hp ho e2 hcan hkl hsrt S1 HM HL hsz EA c0 hRO
      have RO : Hid (SetR.Own w2 ⟨a, ro.length, c, ro⟩) := hid ⟨⟨_, HO.out⟩, HSZ.out⟩
      clear hcells HO
      have HT := hid elem_sets
      go_upto_region 15 with (fail)
      generalize hwC : World.alloc w2 _ = wC
      have bC : Blk wC w2.heap.size [.slice none 0 0] 36 := by rw [← hwC]; exact Blk.mk_alloc rfl rfl
      have eC : Ext w2 wC := by rw [← hwC]; exact (Ext.refl w2).alloc _
      have hw2 : w.heap.size ≤ w2.heap.size := E2.out.size
      have OC : Hid (OutI wC w.heap.size (.slice (some ⟨w2.heap.size, 0, none⟩) 1 1) [⟨none, 0, 0, []⟩]) := hid ⟨own_mkS (rest := []) (by simpa [SetR.v] using bC) (by simp) (by simp) hw2 (Nat.le_refl _) (by decide), fun s hs => by rw [List.mem_singleton] at hs; subst hs; exact SetR.Own.nil _⟩
      have RC := hid (RO.out.ext eC)
      have EC := hid (E2.out.ext eC)
      clear hwC bC eC RO E2 hw2
      go_wp2
      go_loopw [9, 47] (fun v i wr => ∃ (k : Nat) (ss : List SetR), k ≤ ro.length ∧ i = .int .i64 (k : Int) ∧ OutI wr w.heap.size v ss ∧ ss.map SetR.roles = [] :: (ro.take k).map (fun r => [r]) ∧ SetR.Own wr ⟨a, ro.length, c, ro⟩ ∧ Ext w wr) (fun _ i _ => ro.length - (intOf i).toNat)
      case atStart => exact ⟨0, _, by omega, rfl, OC.out, rfl, RC.out, EC.out⟩
      case round =>
        obtain ⟨k, ss, hk, rfl, hout, hss, hro, e1⟩ := hrel
        have E1 := hid e1
        have OUT := hid hout
        have HSS := hid hss
        have ROW := hid hro
        clear e1 hout hss hro OC RC EC
        by_cases hlt : k < ro.length
        · obtain ⟨x, hxk⟩ : ∃ x, ro[k]? = some x := ⟨ro[k]'hlt, by simp⟩
          obtain ⟨A2, hA2, hcs⟩ := cells_one (ROW.out.ok (by show ro.length ≤ _; omega)).cell (show (ro.map sv)[k]? = some (sv x) by rw [List.getElem?_map, hxk]; rfl)
          rw [Nat.mul_one] at hcs
          have hA3 : a = some A2 := hA2
          have HXK := hid hxk
          rw [hA3]
          clear hxk
          have hsl : ss.length + 1 ≤ 140737488355328 := by have := congrArg List.length HSS.out; simp at this; omega
          have hsb : (ss.length + 1) * 24 ≤ 140737488355328 := by have := congrArg List.length HSS.out; simp at this; omega
          have hwr : w.heap.size ≤ wr.heap.size := E1.out.size
          have hwr2 : w.heap.size ≤ wr.heap.size + 1 + 1 := by omega
          go_wp2_with (refine wpl_appendA (m := 1) (c := 1) (news := [.slice (some ⟨wr.heap.size, 0, none⟩) 1 1]) HT.out rfl _ _ rfl w.heap.size rfl rfl (OUT.out.ext (((Ext.refl wr).alloc _).alloc _)).row rfl (by decide) (fun h => by cases h) (Cells.of_blk0 (blk_two _ _ _ 36)) (by simp [Value.oneCell']) hsl hsb (by rw [size_allocW, size_allocW]; exact hwr2) ?_)
          intro v' w' ho' hg' _
          have OUT' := hid (OUT.out.made (l := [x]) rfl (fun y hy => by rw [List.mem_singleton] at hy; subst hy; exact HSZ.out _ (List.mem_of_getElem? HXK.out)) (by show (1 : Nat) ≤ _; decide) ho' hg')
          have E' := hid (OUT.out.madeExt E1.out (Nat.le_refl _) hg')
          have ROW' := hid (ROW.out.mades OUT.out hg')
          have HSS' : Hid ((ss ++ [(⟨some ⟨wr.heap.size, 0, none⟩, 1, 1, [x]⟩ : SetR)]).map SetR.roles = [] :: (ro.take (k + 1)).map (fun r => [r])) := hid (by
            rw [List.map_append, HSS.out, List.take_add_one, HXK.out]
            simp)
          rw [hA3] at ROW'
          clear ho' hg' hcs HXK hsl hsb hwr hwr2 OUT HSS ROW E1
          go_wp2
          go_roundw
          case rel => exact ⟨k + 1, _, by omega, by go_num, OUT'.out, HSS'.out, ROW'.out, E'.out⟩
          case measure => simp [intOf]; omega
        · obtain rfl : k = ro.length := by omega
          have HS0 : Hid (ss.map SetR.roles = ([] :: ro.map (fun r => [r]))) := hid (by rw [HSS.out, List.take_length])
          obtain ⟨S0, hS0⟩ : ∃ S0, ([] :: ro.map (fun r => [r])) ++ pairsW ro = S0 := ⟨_, rfl⟩
          have HSI : Hid (ss.map SetR.roles ++ pairsW (ro.drop 0) = S0) := hid (by rw [HS0.out, List.drop_zero, hS0])
          have hlenS : S0.length ≤ 1500000 := by
            have := setsW_le ro hl17
            unfold setsW at this
            rw [hS0, List.length_append] at this
            omega
          have HS := hid hS0
          clear HS0 HSS hS0
          go_wp2
          go_loopw [9, 59] (fun v i wr => ∃ (k : Nat) (ss : List SetR), k ≤ ro.length ∧ i = .int .i64 (k : Int) ∧ OutI wr w.heap.size v ss ∧ ss.map SetR.roles ++ pairsW (ro.drop k) = S0 ∧ SetR.Own wr ⟨a, ro.length, c, ro⟩ ∧ Ext w wr) (fun _ i _ => ro.length - (intOf i).toNat)
          case atStart => exact ⟨0, _, by omega, rfl, OUT.out, HSI.out, ROW.out, E1.out⟩
          case round =>
            obtain ⟨k, ss, hk, rfl, hout, hss, hro, e1⟩ := hrel
            have E1 := hid e1
            have OUT := hid hout
            have HSS := hid hss
            have ROW := hid hro
            clear e1 hout hss hro HSI
            by_cases hlt : k < ro.length
            · obtain ⟨x, hxk⟩ : ∃ x, ro[k]? = some x := ⟨ro[k]'hlt, by simp⟩
              obtain ⟨A2, hA2, hcs⟩ := cells_one (ROW.out.ok (by show ro.length ≤ _; omega)).cell (show (ro.map sv)[k]? = some (sv x) by rw [List.getElem?_map, hxk]; rfl)
              rw [Nat.mul_one] at hcs
              have hA3 : a = some A2 := hA2
              have HXK := hid hxk
              subst hA3
              have hk1 : k + 1 ≤ ro.length := hlt
              have hwk : IntKind.i64.wrap ((k : Int) + 1) = ((k + 1 : Nat) : Int) := by rw [IntWalk.i64_in _ (by omega)]; omega
              clear hxk hA2
              obtain ⟨q, hq⟩ : ∃ q, shiftz (some A2) c (k + 1) 1 = q := ⟨_, rfl⟩
              obtain ⟨M, hM⟩ : ∃ M, ro.length - (k + 1) = M := ⟨_, rfl⟩
              obtain ⟨D, hD⟩ : ∃ D, c - (k + 1) = D := ⟨_, rfl⟩
              obtain ⟨rest, hrest⟩ : ∃ rest, ro.drop (k + 1) = rest := ⟨_, rfl⟩
              have hrl : rest.length = M := by rw [← hrest, List.length_drop]; exact hM
              have hMD : M ≤ D := by omega
              have HQC : Hid (∀ W, SetR.Own W ⟨some A2, ro.length, c, ro⟩ → Cells W q (rest.map sv)) := hid (fun W hW => by
                have := Cells.drop1 (hW.ok (by show ro.length ≤ _; omega)).cell c (k + 1) (by show (ro.map sv).length ≤ c; rw [List.length_map]; exact hnc)
                rw [← hq, ← hrest, List.map_drop]
                exact this)
              have HRZ : Hid (∀ x ∈ rest, x.length ≤ 140737488355328) := hid (fun y hy => HSZ.out y (List.mem_of_mem_drop (by rw [hrest]; exact hy)))
              have HXZ := hid (HSZ.out x (List.mem_of_getElem? HXK.out))
              have HSI : Hid (ss.map SetR.roles ++ ((rest.drop 0).map (fun t => [x, t]) ++ pairsW rest) = S0) := hid (by
                have := HSS.out
                rw [pairsW_at HXK.out, hrest] at this
                rw [List.drop_zero]
                exact this)
              have hM17 : M ≤ 1700 := by omega
              have hst := size_str
              go_wp2_with (refine wpl_run rfl (exec_lowW hq hM hD rfl rfl rfl Tryz.underlying36 size_str hk1 _) ?_)
              go_loopw [9, 69] (fun v i wr => ∃ (j : Nat) (ss : List SetR), j ≤ M ∧ i = .int .i64 (j : Int) ∧ OutI wr w.heap.size v ss ∧ ss.map SetR.roles ++ ((rest.drop j).map (fun t => [x, t]) ++ pairsW rest) = S0 ∧ SetR.Own wr ⟨some A2, ro.length, c, ro⟩ ∧ Ext w wr) (fun _ i _ => M - (intOf i).toNat)
              case atStart => exact ⟨0, _, by omega, rfl, OUT.out, HSI.out, ROW.out, E1.out⟩
              case round =>
                obtain ⟨j, ss, hj, rfl, hout, hss, hro, e1⟩ := hrel
                have E1 := hid e1
                have OUT := hid hout
                have HSS := hid hss
                have ROW := hid hro
                clear e1 hout hss hro HSI
                by_cases hjt : j < M
                · obtain ⟨y, hyj⟩ : ∃ y, rest[j]? = some y := ⟨rest[j]'(by omega), by simp⟩
                  obtain ⟨A3, hA3, hcy⟩ := cells_one (HQC.out wr ROW.out) (show (rest.map sv)[j]? = some (sv y) by rw [List.getElem?_map, hyj]; rfl)
                  rw [Nat.mul_one] at hcy
                  have HYJ := hid hyj
                  rw [hA3]
                  have hsl : ss.length + 1 ≤ 140737488355328 := by
                    have := congrArg List.length HSS.out
                    rw [List.length_append, List.length_map] at this
                    omega
                  have hsb : (ss.length + 1) * 24 ≤ 140737488355328 := by
                    have := congrArg List.length HSS.out
                    rw [List.length_append, List.length_map] at this
                    omega
                  have hwr : w.heap.size ≤ wr.heap.size := E1.out.size
                  have hwr2 : w.heap.size ≤ wr.heap.size + 1 + 1 := by omega
                  clear hyj
                  go_wp2_with (refine wpl_appendA (m := 1) (c := 1) (news := [.slice (some ⟨wr.heap.size, 0, none⟩) 2 2]) HT.out rfl _ _ rfl w.heap.size rfl rfl (OUT.out.ext (((Ext.refl wr).alloc _).alloc _)).row rfl (by decide) (fun h => by cases h) (Cells.of_blk0 (blk_two _ _ _ 36)) (by simp [Value.oneCell']) hsl hsb (by rw [size_allocW, size_allocW]; exact hwr2) ?_)
                  intro v' w' ho' hg' _
                  have OUT' := hid (OUT.out.made (l := [x, y]) rfl (fun z hz => by
                    simp only [List.mem_cons, List.not_mem_nil, or_false] at hz
                    rcases hz with rfl | rfl
                    · exact HXZ.out
                    · exact HRZ.out _ (List.mem_of_getElem? HYJ.out)) (by show (2 : Nat) ≤ _; decide) ho' hg')
                  have E' := hid (OUT.out.madeExt E1.out (Nat.le_refl _) hg')
                  have ROW' := hid (ROW.out.mades OUT.out hg')
                  have HSS' : Hid ((ss ++ [(⟨some ⟨wr.heap.size, 0, none⟩, 2, 2, [x, y]⟩ : SetR)]).map SetR.roles ++ ((rest.drop (j + 1)).map (fun t => [x, t]) ++ pairsW rest) = S0) := hid (by
                    have := HSS.out
                    rw [List.drop_eq_getElem_cons (by omega : j < rest.length), (List.getElem?_eq_some_iff.1 HYJ.out).2] at this
                    rw [← this]
                    simp)
                  clear ho' hg' hcy HYJ hsl hsb hwr hwr2 OUT HSS ROW E1
                  go_wp2
                  go_roundw
                  case rel => exact ⟨j + 1, _, by omega, by go_num, OUT'.out, HSS'.out, ROW'.out, E'.out⟩
                  case measure => simp [intOf]; omega
                · obtain rfl : j = M := by omega
                  have HSS' : Hid (ss.map SetR.roles ++ pairsW (ro.drop (k + 1)) = S0) := hid (by
                    have := HSS.out
                    rw [List.drop_of_length_le (by omega : rest.length ≤ j)] at this
                    rw [hrest]
                    simpa using this)
                  clear HSS HQC HRZ
                  go_wp2
                  go_roundw
                  case rel => exact ⟨k + 1, _, by omega, by go_num, OUT.out, HSS'.out, ROW.out, E1.out⟩
                  case measure => simp [intOf]; omega
            · obtain rfl : k = ro.length := by omega
              have HS1 : Hid (ss.map SetR.roles = S0) := hid (by have := HSS.out; rw [pairsW_end (Nat.le_refl _)] at this; simpa using this)
              have HSW : Hid (setsW ro = S0 ++ (if 3 ≤ ro.length then [ro] else [])) := hid (by unfold setsW; rw [HS.out])
              clear HSS HS
              by_cases h3 : 3 ≤ ro.length
              · have d3 : decide ((3 : Int) ≤ (ro.length : Int)) = true := decide_eq_true (by omega)
                have hsl : ss.length + 1 ≤ 140737488355328 := by
                  have := congrArg List.length HS1.out
                  rw [List.length_map] at this
                  omega
                have hsb : (ss.length + 1) * 24 ≤ 140737488355328 := by
                  have := congrArg List.length HS1.out
                  rw [List.length_map] at this
                  omega
                have hwr : w.heap.size ≤ wr.heap.size := E1.out.size
                have hwr2 : w.heap.size ≤ wr.heap.size + 1 := by omega
                go_wp2_with (refine wpl_appendA (m := 1) (c := 1) (news := [.slice a ro.length c]) HT.out rfl _ _ rfl w.heap.size rfl rfl (OUT.out.ext ((Ext.refl wr).alloc _)).row rfl (by decide) (fun h => by cases h) (Cells.of_blk0 (Blk.mk_alloc (T := 36) rfl rfl)) (by simp [Value.oneCell']) hsl hsb (by rw [size_allocW]; exact hwr2) ?_)
                intro v' w' ho' hg' _
                have OUT' := hid ((OUT.out.ext ((Ext.refl wr).alloc _)).push (s := ⟨a, ro.length, c, ro⟩) (ROW.out.ext ((Ext.refl wr).alloc _)) ho' hg')
                have E' := hid ((E1.out.alloc _).grown hg' (fun q hq => (OUT.out.row.lt q hq).1))
                clear ho' hg' hsl hsb hwr hwr2 OUT
                go_wp2
                go_ret
                exact ⟨_, _, rfl, OUT'.out, by rw [HRO.out, HSW.out, if_pos h3, List.map_append, HS1.out]; rfl, E'.out⟩
              · have d3 : decide ((3 : Int) ≤ (ro.length : Int)) = false := decide_eq_false (by omega)
                go_wp2
                go_ret
                exact ⟨_, _, rfl, OUT.out, by rw [HRO.out, HSW.out, if_neg h3, HS1.out]; simp, E1.out⟩
end

section
open Go Go.RowKit Go.Maps Go.MapKept Go.WideShapes

theorem own_monoW {w : World} {B B' : Nat} {e : TypeId} {z n : Nat} {v : Value} {xs : List Value} (h : w.ownsRow B e z v n xs) (hb : B' ≤ B) : w.ownsRow B' e z v n xs :=
  ⟨h.1, h.2.imp id fun ⟨g, c, cur, h1, h2, r⟩ => ⟨g, c, cur, h1, Nat.le_trans hb h2, r⟩⟩
theorem mem_snoc {α : Type} {ks ks' F : List α} {x : α} (h : ∀ y, y ∈ ks' ↔ y = x ∨ y ∈ ks) (hm : ∀ y, y ∈ ks ↔ y ∈ F) : ∀ y, y ∈ ks' ↔ y ∈ F ++ [x] := by
  intro y
  rw [h y, hm y]
  simp only [List.mem_append, List.mem_singleton]
  exact or_comm
theorem houW_succ {rs : List RuleR} {k : Nat} {r : RuleR} (h : rs[k]? = some r) : houW (rs.take (k + 1)) = houW (rs.take k) ++ houWords r := by
  unfold houW
  rw [List.take_add_one, h, List.flatMap_append]
  simp

set_option maxRecDepth 100000 in
set_option maxHeartbeats 4000000 in
theorem hoursOf_c (pa : Option Addr) (pn pc : Nat) (rs : List RuleR) (w : World) (hp : PolOk w pa pn pc rs) (h100 : pn ≤ 100) (h24 : ∀ r ∈ rs, (0 ≤ r.fr ∧ r.fr ≤ 24) ∧ (0 ≤ r.tt ∧ r.tt ≤ 24)) :
    Calls Tryz.prog 81 #[.agg #[.slice pa pn pc]] w fun e w' => ∃ v, e = .returned v ∧ w'.ownsRow w.heap.size 3 1 v (canI (houW rs)).length ((canI (houW rs)).map iv) ∧ Ext w w' := by
  have HPO := hid hp
  have H24 := hid h24
  clear hp h24
  have hmk := fun w => run_makeMapU (P := Tryz.prog) 149 w
  go_enter Tryz.func81, Tryz.ntmps81
  go_upto_region 1 with (fail)
  have sA : SetOf iv goodI ((w.alloc (.cells #[.slice pa pn pc] 24)).alloc (.map #[] 0)) (w.heap.size + 1) [] := by
    have := SetOf.new (kv := iv) (good := goodI) (w.alloc (.cells #[.slice pa pn pc] 24))
    rwa [size_allocW] at this
  have bA : Blk ((w.alloc (.cells #[.slice pa pn pc] 24)).alloc (.map #[] 0)) w.heap.size [.slice pa pn pc] 24 := (Blk.mk_alloc rfl rfl).alloc _
  obtain ⟨wA, ks0, hr0, hu0, hs0, hm0, hl0⟩ := SetOf.add keyI Tryz.underlying149 sA (show goodI 0 from by show (Lit.int .i64 0).wf = true; decide)
  have hr1 : (Instr.mapUpdate 149 (.map (some (w.heap.size + 1))) (.int .i64 0) (.bool true)).run Tryz.prog ((w.alloc (.cells #[.slice pa pn pc] 24)).alloc (.map #[] 0)) = .ok () wA := hr0
  have EA := hid (hu0.ext (((Ext.refl w).alloc _).alloc _) (by omega))
  have SA0 := hid hs0
  have MA : Hid (∀ y, y ∈ ks0 ↔ y ∈ houW (rs.take 0)) := hid (fun y => by rw [hm0 y]; simp [houW])
  have LA : Hid (ks0.length ≤ 1) := hid (by simpa using hl0)
  have BA2 := hid (bA.upd hu0 (by omega))
  clear sA bA hr0 hu0 hs0 hm0 hl0
  go_upto_region 2 with (fail)
  have c0 := BA2.out.cell' (i := 0) rfl
  clear hr1 hmk
  obtain ⟨G, hG⟩ : ∃ G, w.heap.size + 1 = G := ⟨_, rfl⟩
  have hGw : w.heap.size ≤ G := by omega
  have SA : Hid (SetOf iv goodI wA G ks0) := hid (by rw [← hG]; exact SA0.out)
  rw [hG]
  clear hG SA0
  go_wp2
  go_loopw [13] (fun i wr => ∃ (k : Nat) (ks : List Int), k ≤ pn ∧ i = .int .i64 (k : Int) ∧ SetOf iv goodI wr G ks ∧ (∀ y, y ∈ ks ↔ y ∈ houW (rs.take k)) ∧ ks.length ≤ k * 2 + 1 ∧ Ext w wr) (fun i _ => pn - (intOf i).toNat)
  case atStart => exact ⟨0, ks0, by omega, rfl, SA.out, MA.out, by have := LA.out; omega, EA.out⟩
  case round =>
    obtain ⟨k, ks, hk, rfl, hset, hmem, hlen, e1⟩ := hrel
    have E1 := hid e1
    have HSET := hid hset
    have HMEM := hid hmem
    have HLEN := hid hlen
    clear e1 hset hmem hlen SA EA MA LA BA2
    by_cases hlt : k < pn
    · obtain ⟨r, hrk⟩ : ∃ r, rs[k]? = some r := ⟨rs[k]'(by rw [HPO.out.hl]; exact hlt), by simp⟩
      obtain ⟨A, rfl, hca⟩ := (HPO.out.ext E1.out).at hrk
      have HCA := hid hca
      have hr24 := H24.out r (List.mem_of_getElem? hrk)
      have HRL := hid (RuleR.len r)
      have HRK := hid hrk
      clear hca hrk
      have hro := ruleV_one r
      have HAG := hid agg_rule
      go_wp2_with (first | (refine wpl_run rfl (exec_index (i := k) rfl rfl rfl Tryz.underlying22 size_rule hlt _) ?_) | (refine wpl_run rfl (exec_load_at rfl rfl HCA.out HAG.out HRL.out) ?_) | (refine wpl_storew rfl _ (.tmp 5) _ rfl rfl rfl (Blk.mk_alloc (vs := zeroRule) rfl rfl) HAG.out rfl HRL.out hro ?_))
      intro wB bB uB
      have eB : Ext wr wB := uB.ext ((Ext.refl wr).alloc _) (Nat.le_refl _)
      have EB := hid (E1.out.ext eB)
      have SETB := hid (HSET.out.ext eB)
      have c4 := bB.cell' (i := 4) rfl
      have c5 := bB.cell' (i := 5) rfl
      clear bB uB eB HCA HSET E1
      generalize wr.heap.size = gr at *
      obtain ⟨⟨f0, f1⟩, t0, t1⟩ := hr24
      have HTW : Hid (houW (rs.take (k + 1)) = houW (rs.take k) ++ houWords r) := hid (houW_succ HRK.out)
      have hwf : ∀ z : Int, 0 ≤ z → z ≤ 24 → goodI z := fun z h1 h2 => by
        show (Lit.int .i64 z).wf = true
        obtain ⟨m, rfl⟩ : ∃ m : Nat, z = (m : Int) := ⟨z.toNat, by omega⟩
        have hm : m < 25 := by omega
        exact (show ∀ m < 25, (Lit.int .i64 ((m : Nat) : Int)).wf = true by decide) m hm
      have hgf := hid (hwf _ f0 f1)
      have hgt := hid (hwf _ t0 t1)
      clear hwf
      go_wp2
      go_loopw [22] (fun i wr2 => ∃ (j : Nat) (ks2 : List Int), j ≤ 2 ∧ i = .int .i64 (j : Int) ∧ SetOf iv goodI wr2 G ks2 ∧ (∀ y, y ∈ ks2 ↔ y ∈ houW (rs.take k) ++ (([r.fr, r.tt] : List Int).take j).filter (fun h => decide (h < 24))) ∧ ks2.length ≤ k * 2 + 1 + j ∧ Ext w wr2) (fun i _ => 2 - (intOf i).toNat)
      case atStart => exact ⟨0, ks, by omega, rfl, SETB.out, fun y => by rw [HMEM.out y]; simp, HLEN.out, EB.out⟩
      case round =>
        obtain ⟨j, ks2, hj, rfl, hset, hmem2, hlen2, e2⟩ := hrel
        have E2 := hid e2
        have SET2 := hid hset
        have MEM2 := hid hmem2
        have LEN2 := hid hlen2
        clear e2 hset hmem2 hlen2 SETB EB
        rcases (show j = 0 ∨ j = 1 ∨ j = 2 by omega) with rfl | rfl | rfl
        · have hri : ∀ W : World, (Instr.index 150 (.agg #[.int .i64 r.fr, .int .i64 r.tt]) (.int .i64 0)).run Tryz.prog W = .ok (.int .i64 r.fr) W := fun W => run_index_arr (n := 2) (i := 0) Tryz.underlying150 one_tI (by decide) rfl W
          by_cases hz : r.fr < 24
          · have dz : decide (r.fr < 24) = true := decide_eq_true hz
            have DZ := hid dz
            go_wp2_with (refine wpl_updS (k := r.fr) rfl 149 _ _ _ (.inl rfl) keyI Tryz.underlying149 rfl rfl rfl SET2.out hgf.out ?_)
            intro wU ks3 hU hS3 hm3 hl3
            have EU := hid (hU.ext E2.out hGw)
            have S3 := hid hS3
            have M3 : Hid (∀ y, y ∈ ks3 ↔ y ∈ houW (rs.take k) ++ (([r.fr, r.tt] : List Int).take (0 + 1)).filter (fun h => decide (h < 24))) := hid (by
              have := mem_snoc hm3 MEM2.out
              rw [List.append_assoc] at this
              rw [show (([r.fr, r.tt] : List Int).take (0 + 1)) = ([r.fr, r.tt] : List Int).take 0 ++ [r.fr] from rfl, List.filter_append, show [r.fr].filter (fun h => decide (h < 24)) = [r.fr] by rw [List.filter_cons, DZ.out]; rfl]
              exact this)
            have L3 : Hid (ks3.length ≤ k * 2 + 1 + (0 + 1)) := hid (by have := LEN2.out; omega)
            clear hU hS3 hm3 hl3
            go_wp2
            go_roundw
            case rel => exact ⟨0 + 1, ks3, by omega, by go_num, S3.out, M3.out, L3.out, EU.out⟩
            case measure => simp [intOf]
          · have dz : decide (r.fr < 24) = false := decide_eq_false hz
            have DZ := hid dz
            have M3 : Hid (∀ y, y ∈ ks2 ↔ y ∈ houW (rs.take k) ++ (([r.fr, r.tt] : List Int).take (0 + 1)).filter (fun h => decide (h < 24))) := hid (by
              have := MEM2.out
              rw [show (([r.fr, r.tt] : List Int).take (0 + 1)) = ([r.fr, r.tt] : List Int).take 0 ++ [r.fr] from rfl, List.filter_append, show [r.fr].filter (fun h => decide (h < 24)) = [] by rw [List.filter_cons, DZ.out]; rfl, List.append_nil]
              exact this)
            have L3 : Hid (ks2.length ≤ k * 2 + 1 + (0 + 1)) := hid (by have := LEN2.out; omega)
            go_wp2
            go_roundw
            case rel => exact ⟨0 + 1, ks2, by omega, by go_num, SET2.out, M3.out, L3.out, E2.out⟩
            case measure => simp [intOf]
        · have hri : ∀ W : World, (Instr.index 150 (.agg #[.int .i64 r.fr, .int .i64 r.tt]) (.int .i64 1)).run Tryz.prog W = .ok (.int .i64 r.tt) W := fun W => run_index_arr (n := 2) (i := 1) Tryz.underlying150 one_tI (by decide) rfl W
          by_cases hz : r.tt < 24
          · have dz : decide (r.tt < 24) = true := decide_eq_true hz
            have DZ := hid dz
            go_wp2_with (refine wpl_updS (k := r.tt) rfl 149 _ _ _ (.inl rfl) keyI Tryz.underlying149 rfl rfl rfl SET2.out hgt.out ?_)
            intro wU ks3 hU hS3 hm3 hl3
            have EU := hid (hU.ext E2.out hGw)
            have S3 := hid hS3
            have M3 : Hid (∀ y, y ∈ ks3 ↔ y ∈ houW (rs.take k) ++ (([r.fr, r.tt] : List Int).take (1 + 1)).filter (fun h => decide (h < 24))) := hid (by
              have := mem_snoc hm3 MEM2.out
              rw [List.append_assoc] at this
              rw [show (([r.fr, r.tt] : List Int).take (1 + 1)) = ([r.fr, r.tt] : List Int).take 1 ++ [r.tt] from rfl, List.filter_append, show [r.tt].filter (fun h => decide (h < 24)) = [r.tt] by rw [List.filter_cons, DZ.out]; rfl]
              exact this)
            have L3 : Hid (ks3.length ≤ k * 2 + 1 + (1 + 1)) := hid (by have := LEN2.out; omega)
            clear hU hS3 hm3 hl3
            go_wp2
            go_roundw
            case rel => exact ⟨1 + 1, ks3, by omega, by go_num, S3.out, M3.out, L3.out, EU.out⟩
            case measure => simp [intOf]
          · have dz : decide (r.tt < 24) = false := decide_eq_false hz
            have DZ := hid dz
            have M3 : Hid (∀ y, y ∈ ks2 ↔ y ∈ houW (rs.take k) ++ (([r.fr, r.tt] : List Int).take (1 + 1)).filter (fun h => decide (h < 24))) := hid (by
              have := MEM2.out
              rw [show (([r.fr, r.tt] : List Int).take (1 + 1)) = ([r.fr, r.tt] : List Int).take 1 ++ [r.tt] from rfl, List.filter_append, show [r.tt].filter (fun h => decide (h < 24)) = [] by rw [List.filter_cons, DZ.out]; rfl, List.append_nil]
              exact this)
            have L3 : Hid (ks2.length ≤ k * 2 + 1 + (1 + 1)) := hid (by have := LEN2.out; omega)
            go_wp2
            go_roundw
            case rel => exact ⟨1 + 1, ks2, by omega, by go_num, SET2.out, M3.out, L3.out, E2.out⟩
            case measure => simp [intOf]
        · have M3 : Hid (∀ y, y ∈ ks2 ↔ y ∈ houW (rs.take (k + 1))) := hid (fun y => by rw [MEM2.out y, HTW.out]; rfl)
          have L3 : Hid (ks2.length ≤ (k + 1) * 2 + 1) := hid (by have := LEN2.out; omega)
          clear MEM2 HTW
          go_wp2
          go_roundw
          case rel => exact ⟨k + 1, ks2, by omega, by go_num, SET2.out, M3.out, L3.out, E2.out⟩
          case measure => simp [intOf]; omega
    · obtain rfl : k = pn := by omega
      have HM : Hid (∀ y, y ∈ ks ↔ y ∈ houW rs) := hid (fun y => by rw [HMEM.out y, List.take_of_length_le (by rw [HPO.out.hl]; exact Nat.le_refl _)])
      have HL : Hid (ks.length ≤ 201) := hid (by have := HLEN.out; omega)
      clear HMEM HLEN
      go_wp2_with fail
      refine (intBkeys_c G wr).mono ?_
      rintro e w1 ⟨rfl, hw1⟩
      have hb1 : Blk w1 wr.heap.size [.map (some G)] 149 := by rw [hw1]; exact Blk.mk_alloc rfl rfl
      have e1 : Ext wr w1 := by rw [hw1]; exact (Ext.refl wr).alloc _
      have S1 := hid (HSET.out.ext e1)
      have EA := hid (E1.out.ext e1)
      have hsrt := hid (sortedInt_c wr.heap.size G (yesL ks) w1 hb1.lt (hb1.cell' (i := 0) rfl) S1.out.map (by unfold yesL; rw [List.length_map]; have := HL.out; omega))
      clear hb1 e1 hw1 E1 HSET
      go_wp2_with fail
      refine hsrt.out.mono ?_
      rintro e w2 ⟨v, ks', rfl, hp, ho, e2⟩
      rw [yesL_keys] at hp
      have hcan : sortI ks' = canI (houW rs) := canI_of (hp.nodup_iff.2 S1.out.nodup) (fun x => by rw [hp.mem_iff, HM.out x])
      have hkl : ks'.length = (canI (houW rs)).length := by rw [← hcan, sortI_len]
      rw [hcan, hkl] at ho
      have HO := hid (own_monoW ho EA.out.size)
      have E2 := hid (EA.out.ext e2)
      clear hp ho e2 hcan hkl hsrt S1 HM HL EA c0
      go_wp2
      go_ret
      exact ⟨_, rfl, HO.out, E2.out⟩
end

section
open Go Go.RowKit

theorem strOf_app (x y : List UInt8) : strOf x ++ strOf y = strOf (x ++ y) := by
  apply ByteArray.ext
  simp [strOf, ByteArray.data_append]

theorem exec_cat {o : Oper} {a : Act} {x y : Operand} {u v : List UInt8} (ho : o.op = .binOp .add 9 x y 9) (hx : a.eval x = .string (strOf u)) (hy : a.eval y = .string (strOf v)) (h : u.length + v.length ≤ 9223372036854775807) (w : World) :
    (execOp a.eval o).run Tryz.prog w = .ok (.value (.string (strOf (u ++ v)))) w := by
  have h2 : ¬ 9223372036854775807 < (strOf u).size + (strOf v).size := by
    show ¬ 9223372036854775807 < u.toArray.size + v.toArray.size
    simp; omega
  unfold execOp
  simp only [ho, hx, hy, Sem.run_bind]
  go_simp
  simp [h2, strOf_app]

/-- the same, the joined text told: the walk keeps texts nested to the right -/
theorem exec_catR {o : Oper} {a : Act} {x y : Operand} {u v r : List UInt8} (hr : u ++ v = r) (ho : o.op = .binOp .add 9 x y 9) (hx : a.eval x = .string (strOf u)) (hy : a.eval y = .string (strOf v)) (h : u.length + v.length ≤ 9223372036854775807) (w : World) :
    (execOp a.eval o).run Tryz.prog w = .ok (.value (.string (strOf r))) w := by
  subst hr
  exact exec_cat ho hx hy h w
end

section
open Go Go.RowKit Go.Maps Go.MapKept Go.WideShapes

theorem labW_succ {f : List UInt8 → List (List UInt8)} {rs : List RuleR} {k : Nat} {r : RuleR} (h : rs[k]? = some r) : labW f (rs.take (k + 1)) = labW f (rs.take k) ++ labWords f r := by
  unfold labW
  rw [List.take_add_one, h, List.flatMap_append]
  simp
theorem sizeOf_str (l : List UInt8) : (strOf l).size = l.length := by show l.toArray.size = _; simp
theorem pat_head {s : List UInt8} (h : patL s = true) : isNameL (headL s) = true ∨ headL s = [] := by
  unfold patL at h
  simp only [Bool.or_eq_true, Bool.and_eq_true, List.isEmpty_iff] at h
  rcases h with h | ⟨_, h⟩
  · exact .inl h
  · exact .inr h
theorem name_len {s : List UInt8} (h : isNameL s = true) : s.length ≤ 32 := by
  unfold isNameL at h
  simp only [Bool.and_eq_true, Bool.or_eq_true, decide_eq_true_eq] at h
  omega
theorem pat_len {s : List UInt8} (h : patL s = true) : (headL s).length ≤ 32 := by
  rcases pat_head h with h | h
  · exact name_len h
  · rw [h]; simp

set_option maxRecDepth 100000 in
set_option maxHeartbeats 4000000 in
theorem labels_c (pa : Option Addr) (pn pc : Nat) (rs : List RuleR) (w : World) (hp : PolOk w pa pn pc rs) (h100 : pn ≤ 100) (h16 : ∀ r ∈ rs, r.ln ≤ 16) (hpat : ∀ r ∈ rs, ∀ s ∈ r.labels, patL (bs s) = true) :
    Calls Tryz.prog 80 #[.agg #[.slice pa pn pc]] w fun e w' => ∃ v, e = .returned v ∧ w'.ownsRow w.heap.size 9 1 v (canL (labW refLab rs)).length ((canL (labW refLab rs)).map sv) ∧ Ext w w' := by
  have HPO := hid hp
  have H16 := hid h16
  have HPAT := hid hpat
  clear hp h16 hpat
  have hmk := fun w => run_makeMapU (P := Tryz.prog) 142 w
  go_enter Tryz.func80, Tryz.ntmps80
  go_upto_region 1 with (fail)
  have sA : SetOf sv goodS ((w.alloc (.cells #[.slice pa pn pc] 24)).alloc (.map #[] 0)) (w.heap.size + 1) [] := by
    have := SetOf.new (kv := sv) (good := goodS) (w.alloc (.cells #[.slice pa pn pc] 24))
    rwa [size_allocW] at this
  have bA : Blk ((w.alloc (.cells #[.slice pa pn pc] 24)).alloc (.map #[] 0)) w.heap.size [.slice pa pn pc] 24 := (Blk.mk_alloc rfl rfl).alloc _
  obtain ⟨wA, ks0, hr0, hu0, hs0, hm0, hl0⟩ := SetOf.add keyS Tryz.underlying142 sA (show goodS [] from by unfold goodS; simp)
  have hr1 : (Instr.mapUpdate 142 (.map (some (w.heap.size + 1))) (.string ⟨#[]⟩) (.bool true)).run Tryz.prog ((w.alloc (.cells #[.slice pa pn pc] 24)).alloc (.map #[] 0)) = .ok () wA := hr0
  obtain ⟨wB, ks1, hr2, hu1, hs1, hm1, hl1⟩ := SetOf.add keyS Tryz.underlying142 hs0 (show goodS [120] from by unfold goodS; simp)
  have hr3 : (Instr.mapUpdate 142 (.map (some (w.heap.size + 1))) (.string ⟨#[120]⟩) (.bool true)).run Tryz.prog wA = .ok () wB := hr2
  have EA := hid (hu1.ext (hu0.ext (((Ext.refl w).alloc _).alloc _) (by omega)) (by omega))
  have SA0 := hid hs1
  have MA : Hid (∀ y, y ∈ ks1 ↔ y ∈ labW ownLab (rs.take 0)) := hid (fun y => by
    rw [mem_snoc hm1 (mem_snoc hm0 (F := []) (fun _ => Iff.rfl)) y]
    simp [labW])
  have LA : Hid (ks1.length ≤ 2) := hid (by simp only [List.length_nil] at hl0; omega)
  have BA2 := hid ((bA.upd hu0 (by omega)).upd hu1 (by omega))
  clear sA bA hr0 hu0 hs0 hm0 hl0 hr2 hu1 hs1 hm1 hl1
  go_upto_region 2 with (fail)
  have c0 := BA2.out.cell' (i := 0) rfl
  clear hr1 hr3 hmk
  obtain ⟨G, hG⟩ : ∃ G, w.heap.size + 1 = G := ⟨_, rfl⟩
  have hGw : w.heap.size ≤ G := by omega
  have SA : Hid (SetOf sv goodS wB G ks1) := hid (by rw [← hG]; exact SA0.out)
  rw [hG]
  clear hG SA0
  go_wp2
  go_loopw [16] (fun i wr => ∃ (k : Nat) (ks : List (List UInt8)), k ≤ pn ∧ i = .int .i64 (k : Int) ∧ SetOf sv goodS wr G ks ∧ (∀ y, y ∈ ks ↔ y ∈ labW ownLab (rs.take k)) ∧ ks.length ≤ k * 32 + 2 ∧ Ext w wr) (fun i _ => pn - (intOf i).toNat)
  case atStart => exact ⟨0, ks1, by omega, rfl, SA.out, MA.out, by have := LA.out; omega, EA.out⟩
  case round =>
    obtain ⟨k, ks, hk, rfl, hset, hmem, hlen, e1⟩ := hrel
    have E1 := hid e1
    have HSET := hid hset
    have HMEM := hid hmem
    have HLEN := hid hlen
    clear e1 hset hmem hlen SA EA MA LA BA2
    by_cases hlt : k < pn
    · obtain ⟨r, hrk⟩ : ∃ r, rs[k]? = some r := ⟨rs[k]'(by rw [HPO.out.hl]; exact hlt), by simp⟩
      obtain ⟨A, rfl, hca⟩ := (HPO.out.ext E1.out).at hrk
      have HCA := hid hca
      have HOK := hid (HPO.out.ok r (List.mem_of_getElem? hrk))
      have hr16 := H16.out r (List.mem_of_getElem? hrk)
      have HPR := hid (HPAT.out r (List.mem_of_getElem? hrk))
      have HRL := hid (RuleR.len r)
      have HRK := hid hrk
      clear hca hrk
      have hro := ruleV_one r
      have HAG := hid agg_rule
      go_wp2_with (first | (refine wpl_run rfl (exec_index (i := k) rfl rfl rfl Tryz.underlying22 size_rule hlt _) ?_) | (refine wpl_run rfl (exec_load_at rfl rfl HCA.out HAG.out HRL.out) ?_) | (refine wpl_storew rfl _ (.tmp 5) _ rfl rfl rfl (Blk.mk_alloc (vs := zeroRule) rfl rfl) HAG.out rfl HRL.out hro ?_))
      intro wB bB uB
      have eB : Ext wr wB := uB.ext ((Ext.refl wr).alloc _) (Nat.le_refl _)
      have EB := hid (E1.out.ext eB)
      have SETB := hid (HSET.out.ext eB)
      have c3 := bB.cell' (i := 3) rfl
      clear bB uB eB HCA HSET E1
      generalize wr.heap.size = gr at *
      have HTW : Hid (labW ownLab (rs.take (k + 1)) = labW ownLab (rs.take k) ++ labWords ownLab r) := hid (labW_succ HRK.out)
      go_wp2
      go_loopw [23] (fun i wr2 => ∃ (j : Nat) (ks2 : List (List UInt8)), j ≤ r.ln ∧ i = .int .i64 (j : Int) ∧ SetOf sv goodS wr2 G ks2 ∧ (∀ y, y ∈ ks2 ↔ y ∈ labW ownLab (rs.take k) ++ (r.labels.take j).flatMap (fun s => ownLab (bs s))) ∧ ks2.length ≤ k * 32 + 2 + 2 * j ∧ Ext w wr2) (fun i _ => r.ln - (intOf i).toNat)
      case atStart => exact ⟨0, ks, by omega, rfl, SETB.out, fun y => by rw [HMEM.out y]; simp, HLEN.out, EB.out⟩
      case round =>
        obtain ⟨j, ks2, hj, rfl, hset, hmem2, hlen2, e2⟩ := hrel
        have E2 := hid e2
        have SET2 := hid hset
        have MEM2 := hid hmem2
        have LEN2 := hid hlen2
        have OK2 := hid (HOK.out.ext E2.out)
        clear e2 hset hmem2 hlen2 SETB EB
        by_cases hjt : j < r.ln
        · obtain ⟨s, hsj⟩ : ∃ s, r.labels[j]? = some s := ⟨r.labels[j]'(by rw [OK2.out.ll]; exact hjt), by simp⟩
          obtain ⟨A2, hA2, hcs⟩ := strs_at OK2.out.lcell hsj
          rw [Nat.mul_one] at hcs
          have hsz := OK2.out.ls s (List.mem_of_getElem? hsj)
          have hps := HPR.out s (List.mem_of_getElem? hsj)
          have HPS := hid hps
          obtain ⟨H, hH⟩ : ∃ H, headL (bs s) = H := ⟨_, rfl⟩
          have hHl : H.length ≤ 32 := by rw [← hH]; exact pat_len hps
          have hHz : (strOf H).size ≤ 140737488355328 := by rw [sizeOf_str]; omega
          have hXz : (strOf (H ++ [120])).size ≤ 140737488355328 := by rw [sizeOf_str, List.length_append]; simp; omega
          have HCUT : Hid (∀ W, Calls Tryz.prog 27 #[.string s, .string ⟨#[42]⟩] W fun e W' => e = .returned (.tuple #[.string (strOf H), .bool (starL (bs s))]) ∧ W' = W) := hid (fun W => by
            rw [← hH]
            exact cutSuffix_c s ⟨#[42]⟩ W (by omega))
          have HN1 : Hid (∀ W, Calls Tryz.prog 124 #[.string (strOf H)] W fun e W' => e = .returned (.bool (isNameL H)) ∧ W = W') := hid (fun W => by
            have := isName_c (strOf H) W hHz
            rwa [show (strOf H).data.toList = H by unfold strOf; simp] at this)
          have HN2 : Hid (∀ W, Calls Tryz.prog 124 #[.string (strOf (H ++ [120]))] W fun e W' => e = .returned (.bool (isNameL (H ++ [120]))) ∧ W = W') := hid (fun W => by
            have := isName_c (strOf (H ++ [120])) W hXz
            rwa [show (strOf (H ++ [120])).data.toList = H ++ [120] by unfold strOf; simp] at this)
          have HHD : Hid (isNameL H = true ∨ H = []) := hid (by rw [← hH]; exact pat_head hps)
          have HTK : Hid ((r.labels.take (j + 1)).flatMap (fun s => ownLab (bs s)) = (r.labels.take j).flatMap (fun s => ownLab (bs s)) ++ ownLab (bs s)) := hid (by
            rw [List.take_add_one, hsj, List.flatMap_append]; simp)
          have HOW : Hid (ownLab (bs s) = H :: (if starL (bs s) && isNameL (H ++ [120]) then [H ++ [120]] else [])) := hid (by unfold ownLab; rw [hH])
          have hgH : goodS H := by unfold goodS; omega
          have hgX : goodS (H ++ [120]) := by unfold goodS; rw [List.length_append]; simp; omega
          have HGH := hid hgH
          have HGX := hid hgX
          have hcl : H.length + ([120] : List UInt8).length ≤ 9223372036854775807 := by simp; omega
          rw [hA2]
          clear hsj hps hH hHz hXz hgH hgX HPS
          go_wp2_with fail
          refine (HCUT.out _).mono ?_
          rintro e w1 ⟨rfl, rfl⟩
          go_wp2_with fail
          refine (HN1.out _).mono ?_
          rintro e w1 ⟨rfl, rfl⟩
          cases hb : isNameL H with
          | true =>
            clear HHD hb
            go_wp2_with (refine wpl_updS (k := H) rfl 142 _ _ _ (.inl rfl) keyS Tryz.underlying142 rfl rfl rfl SET2.out HGH.out ?_)
            intro wU ks3 hU hS3 hm3 hl3
            have EU := hid (hU.ext E2.out hGw)
            have S3 := hid hS3
            have M3 := hid (mem_snoc hm3 MEM2.out)
            have L3 : Hid (ks3.length ≤ k * 32 + 2 + (2 * j + 1)) := hid (by have := LEN2.out; omega)
            clear hU hS3 hm3 hl3 HN1 MEM2 LEN2 SET2 E2 hcs OK2
            cases hst : starL (bs s) with
            | false =>
              have M4 : Hid (∀ y, y ∈ ks3 ↔ y ∈ labW ownLab (rs.take k) ++ (r.labels.take (j + 1)).flatMap (fun s => ownLab (bs s))) := hid (fun y => by
                rw [M3.out y, HTK.out, HOW.out, hst]
                simp)
              have L4 : Hid (ks3.length ≤ k * 32 + 2 + 2 * (j + 1)) := hid (by have := L3.out; omega)
              clear M3 L3 HTK HOW HN2 HCUT
              go_wp2_with (refine wpl_run rfl (exec_cat (u := H) (v := [120]) rfl rfl rfl hcl _) ?_)
              go_roundw
              case rel => exact ⟨j + 1, ks3, by omega, by go_num, S3.out, M4.out, L4.out, EU.out⟩
              case measure => simp [intOf]; omega
            | true =>
              go_wp2_with (refine wpl_run rfl (exec_cat (u := H) (v := [120]) rfl rfl rfl hcl _) ?_)
              refine (HN2.out _).mono ?_
              rintro e w1 ⟨rfl, rfl⟩
              cases hx : isNameL (H ++ [120]) with
              | false =>
                have M4 : Hid (∀ y, y ∈ ks3 ↔ y ∈ labW ownLab (rs.take k) ++ (r.labels.take (j + 1)).flatMap (fun s => ownLab (bs s))) := hid (fun y => by
                  rw [M3.out y, HTK.out, HOW.out, hst, hx]
                  simp)
                have L4 : Hid (ks3.length ≤ k * 32 + 2 + 2 * (j + 1)) := hid (by have := L3.out; omega)
                clear M3 L3 HTK HOW HN2 HCUT hx
                go_wp2
                go_roundw
                case rel => exact ⟨j + 1, ks3, by omega, by go_num, S3.out, M4.out, L4.out, EU.out⟩
                case measure => simp [intOf]; omega
              | true =>
                have HM3 : Hid (∀ y, y ∈ (labW ownLab (rs.take k) ++ (r.labels.take j).flatMap (fun s => ownLab (bs s)) ++ [H]) ++ [H ++ [120]] ↔ y ∈ labW ownLab (rs.take k) ++ (r.labels.take (j + 1)).flatMap (fun s => ownLab (bs s))) := hid (fun y => by
                  rw [HTK.out, HOW.out, hst, hx]
                  simp)
                clear HTK HOW HN2 HCUT hx
                go_wp2_with (refine wpl_updS (k := H ++ [120]) rfl 142 _ _ _ (.inl rfl) keyS Tryz.underlying142 rfl rfl rfl S3.out HGX.out ?_)
                intro wV ks4 hU hS4 hm4 hl4
                have EV := hid (hU.ext EU.out hGw)
                have S4 := hid hS4
                have M4 : Hid (∀ y, y ∈ ks4 ↔ y ∈ labW ownLab (rs.take k) ++ (r.labels.take (j + 1)).flatMap (fun s => ownLab (bs s))) := hid (fun y => (mem_snoc hm4 M3.out y).trans (HM3.out y))
                have L4 : Hid (ks4.length ≤ k * 32 + 2 + 2 * (j + 1)) := hid (by have := L3.out; omega)
                clear hU hS4 hm4 hl4 M3 L3 HM3
                go_wp2
                go_roundw
                case rel => exact ⟨j + 1, ks4, by omega, by go_num, S4.out, M4.out, L4.out, EV.out⟩
                case measure => simp [intOf]; omega
          | false =>
            obtain rfl : H = [] := by
              rcases HHD.out with h | h
              · rw [hb] at h; cases h
              · exact h
            have hem : strOf [] = ⟨#[]⟩ := rfl
            clear HHD hb
            rw [hem]
            go_wp2_with (refine wpl_updS (k := []) rfl 142 _ _ _ (.inl rfl) keyS Tryz.underlying142 rfl rfl rfl SET2.out HGH.out ?_)
            intro wU ks3 hU hS3 hm3 hl3
            have EU := hid (hU.ext E2.out hGw)
            have S3 := hid hS3
            have M3 := hid (mem_snoc hm3 MEM2.out)
            have L3 : Hid (ks3.length ≤ k * 32 + 2 + (2 * j + 1)) := hid (by have := LEN2.out; omega)
            clear hU hS3 hm3 hl3 HN1 MEM2 LEN2 SET2 E2 hcs OK2
            cases hst : starL (bs s) with
            | false =>
              have M4 : Hid (∀ y, y ∈ ks3 ↔ y ∈ labW ownLab (rs.take k) ++ (r.labels.take (j + 1)).flatMap (fun s => ownLab (bs s))) := hid (fun y => by
                rw [M3.out y, HTK.out, HOW.out, hst]
                simp)
              have L4 : Hid (ks3.length ≤ k * 32 + 2 + 2 * (j + 1)) := hid (by have := L3.out; omega)
              clear M3 L3 HTK HOW HN2 HCUT
              go_wp2_with (refine wpl_run rfl (exec_cat (u := []) (v := [120]) rfl rfl rfl hcl _) ?_)
              go_roundw
              case rel => exact ⟨j + 1, ks3, by omega, by go_num, S3.out, M4.out, L4.out, EU.out⟩
              case measure => simp [intOf]; omega
            | true =>
              go_wp2_with (refine wpl_run rfl (exec_cat (u := []) (v := [120]) rfl rfl rfl hcl _) ?_)
              refine (HN2.out _).mono ?_
              rintro e w1 ⟨rfl, rfl⟩
              cases hx : isNameL ([] ++ [120]) with
              | false =>
                have M4 : Hid (∀ y, y ∈ ks3 ↔ y ∈ labW ownLab (rs.take k) ++ (r.labels.take (j + 1)).flatMap (fun s => ownLab (bs s))) := hid (fun y => by
                  rw [M3.out y, HTK.out, HOW.out, hst, hx]
                  simp)
                have L4 : Hid (ks3.length ≤ k * 32 + 2 + 2 * (j + 1)) := hid (by have := L3.out; omega)
                clear M3 L3 HTK HOW HN2 HCUT hx
                go_wp2
                go_roundw
                case rel => exact ⟨j + 1, ks3, by omega, by go_num, S3.out, M4.out, L4.out, EU.out⟩
                case measure => simp [intOf]; omega
              | true =>
                have HM3 : Hid (∀ y, y ∈ (labW ownLab (rs.take k) ++ (r.labels.take j).flatMap (fun s => ownLab (bs s)) ++ [[]]) ++ [[] ++ [120]] ↔ y ∈ labW ownLab (rs.take k) ++ (r.labels.take (j + 1)).flatMap (fun s => ownLab (bs s))) := hid (fun y => by
                  rw [HTK.out, HOW.out, hst, hx]
                  simp)
                clear HTK HOW HN2 HCUT hx
                go_wp2_with (refine wpl_updS (k := [] ++ [120]) rfl 142 _ _ _ (.inl rfl) keyS Tryz.underlying142 rfl rfl rfl S3.out HGX.out ?_)
                intro wV ks4 hU hS4 hm4 hl4
                have EV := hid (hU.ext EU.out hGw)
                have S4 := hid hS4
                have M4 : Hid (∀ y, y ∈ ks4 ↔ y ∈ labW ownLab (rs.take k) ++ (r.labels.take (j + 1)).flatMap (fun s => ownLab (bs s))) := hid (fun y => (mem_snoc hm4 M3.out y).trans (HM3.out y))
                have L4 : Hid (ks4.length ≤ k * 32 + 2 + 2 * (j + 1)) := hid (by have := L3.out; omega)
                clear hU hS4 hm4 hl4 M3 L3 HM3
                go_wp2
                go_roundw
                case rel => exact ⟨j + 1, ks4, by omega, by go_num, S4.out, M4.out, L4.out, EV.out⟩
                case measure => simp [intOf]; omega
        · obtain rfl : j = r.ln := by omega
          have M3 : Hid (∀ y, y ∈ ks2 ↔ y ∈ labW ownLab (rs.take (k + 1))) := hid (fun y => by
            rw [MEM2.out y, HTW.out, show r.labels.take r.ln = r.labels from List.take_of_length_le (by rw [OK2.out.ll]; exact Nat.le_refl _)]
            rfl)
          have L3 : Hid (ks2.length ≤ (k + 1) * 32 + 2) := hid (by have := LEN2.out; omega)
          clear MEM2 HTW
          go_wp2
          go_roundw
          case rel => exact ⟨k + 1, ks2, by omega, by go_num, SET2.out, M3.out, L3.out, E2.out⟩
          case measure => simp [intOf]; omega
    · obtain rfl : k = pn := by omega
      have HMC : Hid (∀ y, y ∈ ks ↔ y ∈ labW refLab rs) := hid (fun y => by
        rw [HMEM.out y, List.take_of_length_le (by rw [HPO.out.hl]; exact Nat.le_refl _)]
        exact (labW_mem HPAT.out y).symm)
      have HL : Hid (ks.length ≤ 3300) := hid (by have := HLEN.out; omega)
      clear HMEM HLEN
      go_wp2_with fail
      refine (deleteNone_c G ks wr HSET.out).mono ?_
      rintro e w0 ⟨rfl, e0⟩
      have S0 := hid (HSET.out.ext e0)
      have E0 := hid (E1.out.ext e0)
      clear e0 E1 HSET
      go_wp2_with fail
      refine (strBkeys_c G w0).mono ?_
      rintro e w1 ⟨rfl, hw1⟩
      have hb1 : Blk w1 w0.heap.size [.map (some G)] 142 := by rw [hw1]; exact Blk.mk_alloc rfl rfl
      have e1 : Ext w0 w1 := by rw [hw1]; exact (Ext.refl w0).alloc _
      have S1 := hid (S0.out.ext e1)
      have EA := hid (E0.out.ext e1)
      have hsrt := hid (sortedStr_c w0.heap.size G (yesL ks) w1 hb1.lt (hb1.cell' (i := 0) rfl) S1.out.map (by unfold yesL; rw [List.length_map]; have := HL.out; omega))
      clear hb1 e1 hw1 E0 S0
      go_wp2_with fail
      refine hsrt.out.mono ?_
      rintro e w2 ⟨v, ks', rfl, hp, ho, e2⟩
      rw [yesL_keys] at hp
      have hcan : sortL ks' = canL (labW refLab rs) := canL_of (hp.nodup_iff.2 S1.out.nodup) (fun x => by rw [hp.mem_iff, HMC.out x])
      have hkl : ks'.length = (canL (labW refLab rs)).length := by rw [← hcan, sortL_len]
      rw [hcan, hkl] at ho
      have HO := hid (own_monoW ho EA.out.size)
      have E2 := hid (EA.out.ext e2)
      clear hp ho e2 hcan hkl hsrt S1 HMC HL EA c0
      go_wp2
      go_ret
      exact ⟨_, rfl, HO.out, E2.out⟩
end

section
open Go Go.RowKit Go.Maps Go.MapKept Go.WideShapes

section
variable {P : Program} {t e : TypeId} {z y : Nat} {ops : Array Oper} {rest : List Oper} {o : Oper} {a : Act} {w : World} {Q : Exit → Act → World → Prop}
theorem wpl_buildOne (T : ElemT P t e z y) (hz1 : z ≤ 100000) (hgd : o.guard = none) {x : Operand} {cs : List Value} (ho : o.op = .buildSlice t 1 #[(0, x)]) (hx : a.eval x = .agg cs.toArray) (hl : cs.length = z)
    (h : wpList P ops Q rest (a.put o.dst (.slice (some ⟨w.heap.size, 0, none⟩) 1 1)) (w.alloc (.cells cs.toArray e))) : wpList P ops Q (o :: rest) a w := by
  obtain ⟨i0, z0, hi, hz, hsz, hb1, hzs⟩ := T.info
  have hpos := T.pos
  refine wpList_plain hgd fun K hK => ?_
  have hf : ∀ cells : Array Value, cells.size = z → Instr.fill (fun i => some (i * z, z)) cells [(0, .agg cs.toArray)] = some cs.toArray := by
    intro cells hc
    have h := Great.fill_whole (s := z) hpos [.agg cs.toArray] cells (by intro v hv; rw [List.mem_singleton.1 hv]; simp [Value.cells, hl]) (by simp [hc])
    simpa [Value.cells] using h
  have hr : (execOp a.eval o).run P w = .ok (.value (.slice (some ⟨w.heap.size, 0, none⟩) 1 1)) (w.alloc (.cells cs.toArray e)) := by
    have h := run_buildSlice (P := P) w t e 1 #[(0, .agg cs.toArray)] cs.toArray i0 _ T.hu hi hz (by rw [hsz]; omega) (by rw [hsz]; omega) (by rw [hsz]; exact hf _ (by simp))
    have he : (#[(0, x)].map fun (p : Nat × Operand) => (p.1, a.eval p.2)) = #[(0, .agg cs.toArray)] := by simp [hx]
    unfold execOp
    simp only [ho, Sem.run_bind]
    have h2 : (Instr.buildSlice t 1 (#[(0, x)].map fun (p : Nat × Operand) => (p.1, a.eval p.2))).run P w = .ok (.slice (some ⟨w.heap.size, 0, none⟩) 1 1) (w.alloc (.cells cs.toArray e)) := by rw [he]; exact h
    rw [h2]
    rfl
  unfold Oper.wp
  rw [hr, Oper.upon_value]
  exact hK _ _ h
theorem wpl_mkRoom (T : ElemT P t e z y) (hgd : o.guard = none) {x c : Operand} (ho : o.op = .makeSlice t x c) (hx : a.eval x = .int .i64 0) {n : Nat} (hc : a.eval c = .int .i64 (n : Int)) (hb : y * n ≤ 281474976710656) (hn : n ≤ 140737488355328) (B : Nat) (hB : B ≤ w.heap.size)
    (h : ∀ w', w'.ownsRow B e z (.slice (some ⟨w.heap.size, 0, none⟩) 0 n) 0 [] → Ext w w' → wpList P ops Q rest (a.put o.dst (.slice (some ⟨w.heap.size, 0, none⟩) 0 n)) w') : wpList P ops Q (o :: rest) a w := by
  obtain ⟨i0, z0, hi, hz, hsz, hb1, hzs⟩ := T.info
  obtain ⟨w', hr, h1, h2⟩ := run_make_own (P := P) w B t e i0 z0 z T.hu hi hz hsz .i64 .i64 n (by rw [hb1]; exact hb) (by unfold maxLen; omega) hB
  refine wpList_plain hgd fun K hK => ?_
  unfold Oper.wp execOp
  simp only [ho, hx, hc, Result.andThen_ok, Sem.run_bind, Sem.run_pure, hr]
  exact hK _ _ (h w' h1 ⟨h2.os, h2.tape, h2.output, h2.size, fun i hi => h2.block i hi (by simp)⟩)
end
def zeroAskV : List Value := AskR.v ⟨zer 16, none, 0, 0, [], 0, ⟨#[]⟩, zer 16, 0, zer 32⟩
theorem info_ask : (Tryz.prog.info? 40).map (fun i => (i.zero, i.size, i.bytes)) = some (some (.agg zeroAskV.toArray), 68, 120) := by kernel_rfl
theorem elem_ask : ElemT Tryz.prog 26 40 68 120 := ⟨Tryz.underlying26, ⟨_, _, (info_parts info_ask).choose_spec.1, (info_parts info_ask).choose_spec.2.1, (info_parts info_ask).choose_spec.2.2.1, (info_parts info_ask).choose_spec.2.2.2, rfl⟩, by decide⟩
theorem built_ask (s : SetR) (act : Int) (l : List UInt8) (h : Int) : Tryz.prog.built 40 [(1, .slice s.a s.n s.c), (2, .int .i64 act), (3, .string (strOf l)), (5, .int .i64 (3600 * h))] = some (askW s act l h).v.toArray := by kernel_rfl
theorem exec_ask {o : Oper} {a : Act} {p1 p2 p3 p5 : Operand} {s : SetR} {act h : Int} {l : List UInt8} (ho : o.op = .build 40 #[(1, p1), (2, p2), (3, p3), (5, p5)]) (h1 : a.eval p1 = s.v) (h2 : a.eval p2 = .int .i64 act) (h3 : a.eval p3 = .string (strOf l)) (h5 : a.eval p5 = .int .i64 (3600 * h)) (w : World) :
    (execOp a.eval o).run Tryz.prog w = .ok (.value (.agg (askW s act l h).v.toArray)) w := by
  have hr := run_build (P := Tryz.prog) w 40 #[(1, .slice s.a s.n s.c), (2, .int .i64 act), (3, .string (strOf l)), (5, .int .i64 (3600 * h))] _ (built_ask s act l h)
  have he : (#[(1, p1), (2, p2), (3, p3), (5, p5)].map fun (r : Nat × Operand) => (r.1, a.eval r.2)) = #[(1, .slice s.a s.n s.c), (2, .int .i64 act), (3, .string (strOf l)), (5, .int .i64 (3600 * h))] := by simp [h1, h2, h3, h5, SetR.v]
  unfold execOp
  simp only [ho, Sem.run_bind]
  have h2 : (Instr.build 40 (#[(1, p1), (2, p2), (3, p3), (5, p5)].map fun (r : Nat × Operand) => (r.1, a.eval r.2))).run Tryz.prog w = .ok (.agg (askW s act l h).v.toArray) w := by rw [he]; exact hr
  rw [h2]
  rfl
def asksV (ls : List AskR) : List Value := ls.flatMap AskR.v
theorem asksV_snoc (ls : List AskR) (x : AskR) : asksV (ls ++ [x]) = asksV ls ++ x.v := by unfold asksV; rw [List.flatMap_append]; simp
theorem askW_len (s : SetR) (act : Int) (l : List UInt8) (h : Int) : (askW s act l h).v.length = 68 := by unfold askW AskR.v zer; simp
theorem askW_one (a : AskR) : ∀ v ∈ a.v, v.oneCell' = true := by
  intro v hv
  unfold AskR.v at hv
  simp only [List.mem_append, List.mem_cons] at hv
  rcases hv with hv | rfl | rfl | rfl | hv | rfl | hv
  · exact one_u8 _ v hv
  · rfl
  · rfl
  · rfl
  · exact one_u8 _ v hv
  · rfl
  · exact one_u8 _ v hv
end

section
open Go Go.RowKit Go.Maps Go.MapKept Go.WideShapes

theorem polE_zero {rs : List RuleR} {pn : Nat} (h : polE rs pn = 0) : pn ≤ 100 ∧ ∀ r ∈ rs, ruleE r = 0 := by
  unfold polE at h
  by_cases h1 : (100 : Int) < (pn : Int)
  · rw [if_pos h1] at h; exact absurd h (by decide)
  · rw [if_neg h1] at h
    exact ⟨by omega, firstE_all h⟩
theorem ruleE_k1 {r : RuleR} (h : ruleE r = 0) : r.rn ≤ 16 ∧ r.an ≤ 16 ∧ r.ln ≤ 16 := by
  cases hk : k1 r with
  | false =>
    unfold k1 at hk
    simp only [Bool.or_eq_false_iff, decide_eq_false_iff_not] at hk
    omega
  | true =>
    exfalso
    unfold ruleE at h
    rw [hk, if_pos rfl] at h
    exact absurd h (by decide)
theorem ruleE_24 {r : RuleR} (h : ruleE r = 0) : (0 ≤ r.fr ∧ r.fr ≤ 24) ∧ (0 ≤ r.tt ∧ r.tt ≤ 24) := by
  have h6 := (ruleE_parts h).2
  unfold k6 at h6
  simp only [Bool.or_eq_false_iff, Bool.and_eq_false_iff, decide_eq_false_iff_not] at h6
  omega
def labsOf (rs : List RuleR) : List (List UInt8) := canL (labW refLab rs)
def hoursW (rs : List RuleR) : List Int := canI (houW rs)
def setsOf (rs : List RuleR) : List (List (List UInt8)) := setsW (canL (rolesW rs))
def szW (rs : List RuleR) : Nat := (setsOf rs).length * 12 * (labsOf rs).length * (hoursW rs).length
theorem labW_len {rs : List RuleR} : ∀ (hr : ∀ r ∈ rs, r.labels.length ≤ 16), (labW refLab rs).length ≤ 2 + rs.length * 32 := by
  intro hr
  unfold labW
  rw [List.length_append]
  have h2 : ∀ s, (refLab s).length ≤ 2 := by
    intro s
    unfold refLab
    split
    · exact Nat.le_trans (List.length_filter_le _ _) (by simp)
    · simp
  have h3 : ∀ ls : List ByteArray, (ls.flatMap fun s => refLab (bs s)).length ≤ 2 * ls.length := by
    intro ls
    induction ls with
    | nil => simp
    | cons x ls ih => rw [List.flatMap_cons, List.length_append, List.length_cons]; have := h2 (bs x); omega
  have h4 : (rs.flatMap (labWords refLab)).length ≤ rs.length * 32 := by
    induction rs with
    | nil => simp
    | cons r rs ih =>
      rw [List.flatMap_cons, List.length_append, List.length_cons]
      have a1 := ih (fun x hx => hr x (by simp [hx]))
      have a2 := h3 r.labels
      have a3 := hr r (by simp)
      unfold labWords at *
      omega
  have h5 : ([[], [120]] : List (List UInt8)).length = 2 := rfl
  omega
theorem labsOf_pos (rs : List RuleR) : 0 < (labsOf rs).length := List.length_pos_of_mem ((canL_mem _ []).2 (by simp [labW]))
theorem hoursW_pos (rs : List RuleR) : 0 < (hoursW rs).length := List.length_pos_of_mem ((canI_mem _ 0).2 (by simp [houW]))
theorem hoursW_in {rs : List RuleR} (h : ∀ r ∈ rs, (0 ≤ r.fr ∧ r.fr ≤ 24) ∧ (0 ≤ r.tt ∧ r.tt ≤ 24)) : ∀ z ∈ hoursW rs, 0 ≤ z ∧ z < 24 := by
  intro z hz
  rw [hoursW, canI_mem] at hz
  unfold houW houWords at hz
  simp only [List.mem_cons, List.mem_flatMap, List.mem_filter, decide_eq_true_eq, List.not_mem_nil, or_false] at hz
  rcases hz with rfl | ⟨r, hr, hz, h24⟩
  · omega
  · have := h r hr
    rcases hz with rfl | rfl <;> omega
theorem hoursW_len {rs : List RuleR} (h : ∀ r ∈ rs, (0 ≤ r.fr ∧ r.fr ≤ 24) ∧ (0 ≤ r.tt ∧ r.tt ≤ 24)) (hn : rs.length ≤ 200) : (hoursW rs).length ≤ 401 := by
  refine Nat.le_trans (canI_len _) ?_
  unfold houW
  have h4 : (rs.flatMap houWords).length ≤ rs.length * 2 := by
    clear h hn
    induction rs with
    | nil => simp
    | cons r rs ih =>
      rw [List.flatMap_cons, List.length_append, List.length_cons]
      have : (houWords r).length ≤ 2 := by unfold houWords; exact Nat.le_trans (List.length_filter_le _ _) (by simp)
      omega
  rw [List.length_cons]
  omega
/-- the state of a world under way -/
structure WInv (w : World) (B : Nat) (v : Value) (xs : List AskR) (vs : Value) (ss : List SetR) (L : SetR) (vh : Value) (hs : List Int) : Prop where
  row : w.ownsRow B 40 68 v xs.length (asksV xs)
  sets : ∃ B2, OutI w B2 vs ss
  labs : L.Own w
  hours : ∃ B2, w.ownsRow B2 3 1 vh hs.length (hs.map iv)
theorem WInv.push {w w' : World} {B : Nat} {v v' vs vh : Value} {xs : List AskR} {ss : List SetR} {L : SetR} {hs : List Int} {o : Obj} {x : AskR} (h : WInv w B v xs vs ss L vh hs)
    (ho : w'.ownsRow B 40 68 v' (xs.length + 1) (asksV xs ++ x.v)) (hg : (w.alloc o).grownBy w' v.ownBlock) : WInv w' B v' (xs ++ [x]) vs ss L vh hs := by
  have hr := h.row.alloc o
  have keep : ∀ {B2 n2 z2 : Nat} {e2 : TypeId} {v2 : Value} {ys : List Value}, 40 ≠ e2 → w.ownsRow B2 e2 z2 v2 n2 ys → w'.ownsRow B2 e2 z2 v2 n2 ys := fun hne h2 =>
    Apart.keep (Apart.of_ty hr (h2.alloc o) hne) (h2.alloc o) hg
  have own : ∀ s : SetR, s.Own w → s.Own w' := fun s hs => by
    obtain ⟨B2, h2⟩ := hs.row
    exact ⟨⟨B2, keep (by decide) h2⟩, hs.sz⟩
  refine ⟨by rw [asksV_snoc]; simpa using ho, ?_, own _ h.labs, ?_⟩
  · obtain ⟨B2, h2⟩ := h.sets
    exact ⟨B2, keep (by decide) h2.row, fun s hs => own s (h2.own s hs)⟩
  · obtain ⟨B2, h2⟩ := h.hours
    exact ⟨B2, keep (by decide) h2⟩
theorem WInv.pushExt {w0 w w' : World} {B : Nat} {v vs vh : Value} {xs : List AskR} {ss : List SetR} {L : SetR} {hs : List Int} {o : Obj} (h : WInv w B v xs vs ss L vh hs) (e : Ext w0 w) (hB : w0.heap.size ≤ B) (hg : (w.alloc o).grownBy w' v.ownBlock) : Ext w0 w' :=
  (e.alloc _).grown hg (fun q hq => Nat.le_trans hB (h.row.lt q hq).1)
theorem askW_ok {w : World} {s : SetR} (h : s.Ok w) {act h0 : Int} {l : List UInt8} (hl : l.length ≤ 140737488355328) : (askW s act l h0).Ok w := by
  refine ⟨by simp [askW, zer], by simp [askW, zer], by simp [askW, zer], ?_, h.nc, h.cm, ?_, ?_, ?_⟩
  · show (s.roles.map strOf).length = s.n
    rw [List.length_map]; exact h.l
  · show Cells w s.a ((s.roles.map strOf).map encStr)
    have : (s.roles.map strOf).map encStr = s.roles.map sv := by rw [List.map_map]; rfl
    rw [this]; exact h.cell
  · intro x hx
    obtain ⟨y, hy, rfl⟩ := List.mem_map.1 hx
    rw [sizeOf_str]; exact h.sz y hy
  · show (strOf l).size ≤ _
    rw [sizeOf_str]; exact hl
def actsW : List Int := (List.range 12).map fun (i : Nat) => ((i + 1 : Nat) : Int)
theorem actsW_drop {j : Nat} (h : j < 12) : actsW.drop j = ((j + 1 : Nat) : Int) :: actsW.drop (j + 1) := by
  have hl : actsW.length = 12 := rfl
  rw [List.drop_eq_getElem_cons (by omega)]
  simp [actsW]
theorem drop_cons {α : Type} {l : List α} {k : Nat} {x : α} (h : l[k]? = some x) : l.drop k = x :: l.drop (k + 1) := by
  obtain ⟨hk, hx⟩ := List.getElem?_eq_some_iff.1 h
  rw [List.drop_eq_getElem_cons hk, hx]
theorem asksA_mem {ss : List SetR} {ls : List (List UInt8)} {hs : List Int} {a : AskR} (h : a ∈ asksA ss ls hs) : ∃ s ∈ ss, ∃ (i : Nat), i < 12 ∧ ∃ l ∈ ls, ∃ z ∈ hs, a = askW s ((i + 1 : Nat) : Int) l z := by
  unfold asksA actsA labsA hoursA at h
  simp only [List.mem_flatMap, List.mem_map, List.mem_range] at h
  obtain ⟨s, hs, b, ⟨i, hi, rfl⟩, l, hl, z, hz, rfl⟩ := h
  exact ⟨s, hs, i, hi, l, hl, z, hz, rfl⟩
end

section
open Go Go.RowKit Go.Maps Go.MapKept Go.WideShapes

theorem agg_polW : AggT Tryz.prog 24 1 := ⟨⟨_, Tryz.underlying24, rfl⟩, by kernel_rfl⟩
set_option maxRecDepth 100000 in
set_option maxHeartbeats 8000000 in
theorem world_c (pa : Option Addr) (pn pc : Nat) (rs : List RuleR) (w : World) (hp : PolOk w pa pn pc rs) (hE : polE rs pn = 0) :
    Calls Tryz.prog 52 #[.agg #[.slice pa pn pc]] w fun e w' => (¬ szW rs ≤ 100000 ∧ e = .returned (.tuple #[.slice none 0 0, .bool false]) ∧ Ext w w') ∨
      (szW rs ≤ 100000 ∧ ∃ v vs vh ss L, e = .returned (.tuple #[v, .bool true]) ∧ ss.map SetR.roles = setsOf rs ∧ WInv w' w.heap.size v (asksA ss (labsOf rs) (hoursW rs)) vs ss L vh (hoursW rs) ∧ Ext w w') := by
  obtain ⟨h100, hz⟩ := polE_zero hE
  have hrl : rs.length ≤ 100 := by rw [hp.hl]; exact h100
  have h24 := fun r hr => ruleE_24 (hz r hr)
  have HRS := hid (fun W (h : Ext w W) => roleSets_c pa pn pc rs W (hp.ext h) h100 (fun r hr => (ruleE_k1 (hz r hr)).1))
  have HLB := hid (fun W (h : Ext w W) => labels_c pa pn pc rs W (hp.ext h) h100 (fun r hr => (ruleE_k1 (hz r hr)).2.2) (fun r hr => ruleE_labels (hz r hr)))
  have HHR := hid (fun W (h : Ext w W) => hoursOf_c pa pn pc rs W (hp.ext h) h100 h24)
  have HH24 := hid (hoursW_in h24)
  have hS15 : (setsOf rs).length ≤ 1500000 := setsW_le _ (by
    refine Nat.le_trans (canL_len _) ?_
    have : ∀ l : List RuleR, (∀ r ∈ l, r.roles.length ≤ 16) → (rolesW l).length ≤ l.length * 17 := by
      intro l hl
      induction l with
      | nil => simp [rolesW]
      | cons x l ih =>
        unfold rolesW at ih ⊢
        rw [List.flatMap_cons, List.length_append, List.length_cons]
        have a1 := ih (fun y hy => hl y (by simp [hy]))
        have a2 := roleWords_len x
        have a3 := hl x (by simp)
        omega
    have := this rs (fun r hr => by rw [(hp.ok r hr).rl]; exact (ruleE_k1 (hz r hr)).1)
    omega)
  have hL15 : (labsOf rs).length ≤ 1500000 := by
    have := canL_len (labW refLab rs)
    have h2 := labW_len (rs := rs) (fun r hr => by rw [(hp.ok r hr).ll]; exact (ruleE_k1 (hz r hr)).2.2)
    unfold labsOf
    omega
  have hH15 : (hoursW rs).length ≤ 1500000 := Nat.le_trans (hoursW_len h24 (by omega)) (by decide)
  have hL0 := labsOf_pos rs
  have hH0 := hoursW_pos rs
  have HSZL : Hid (∀ x ∈ labsOf rs, x.length ≤ 140737488355328) := hid (by
    intro x hx
    unfold labsOf at hx
    rw [canL_mem] at hx
    unfold labW labWords at hx
    simp only [List.mem_append, List.mem_cons, List.mem_flatMap, List.not_mem_nil, or_false] at hx
    rcases hx with (rfl | rfl) | ⟨r, hr, s, hs, hx⟩
    · simp
    · simp
    · have hpt := ruleE_labels (hz r hr) s hs
      have h32 := pat_len hpt
      unfold refLab at hx
      cases hst : starL (bs s) with
      | false =>
        rw [hst] at hx
        simp only [Bool.false_eq_true, if_false, List.mem_singleton] at hx
        rw [hx, ← headL_nostar hst]
        exact Nat.le_trans h32 (by decide)
      | true =>
        rw [hst, if_pos rfl, List.mem_filter] at hx
        have := name_len hx.2
        omega)
  obtain ⟨Sz, hSz⟩ : ∃ n, szW rs = n := ⟨_, rfl⟩
  have hSz2 : (setsOf rs).length * 12 * (labsOf rs).length * (hoursW rs).length = Sz := hSz
  rw [hSz]
  obtain ⟨SS, hSS⟩ : ∃ x, setsOf rs = x := ⟨_, rfl⟩
  obtain ⟨LL, hLL⟩ : ∃ x, labsOf rs = x := ⟨_, rfl⟩
  obtain ⟨HH, hHH⟩ : ∃ x, hoursW rs = x := ⟨_, rfl⟩
  have HSS1 := hid (show setsW (canL (rolesW rs)) = SS from hSS)
  have HLL1 := hid (show canL (labW refLab rs) = LL from hLL)
  have HHH1 := hid (show canI (houW rs) = HH from hHH)
  rw [hSS, hLL, hHH] at hSz2
  rw [hLL, hHH, hSS]
  rw [hSS] at hS15
  rw [hLL] at hL15 hL0 HSZL
  rw [hHH] at hH15 hH0 HH24
  clear hp hE hz h24 hSS hLL hHH hSz
  go_enter Tryz.func52, Tryz.ntmps52
  go_upto_region 1 with (fail)
  generalize hwA : World.alloc w _ = wA
  have bA : Blk wA w.heap.size [.slice pa pn pc] 24 := by rw [← hwA]; exact Blk.mk_alloc rfl rfl
  have eA : Ext w wA := by rw [← hwA]; exact (Ext.refl w).alloc _
  have BA := hid bA
  have EA := hid eA
  clear hwA bA eA
  obtain ⟨C, hC⟩ : ∃ C : World → Prop, C = fun w' => Ext wA w' := ⟨_, rfl⟩
  have hC0 : ∀ w', C w' ↔ Ext wA w' := fun w' => by rw [hC]
  clear hC
  have HCC := hid hC0
  clear hC0
  have hCx : ∀ w w', C w → Ext w w' → C w' := fun w w' h1 h2 => (HCC.out w').2 (((HCC.out w).1 h1).ext h2)
  have hCA : C wA := (HCC.out _).2 (Ext.refl wA)
  refine wp_region_held_drew (S := C) (by kernel_rfl) (hCx _ _ hCA (Ext.refl _).drew) (fun hS0 => ?_)
  refine held_take 0 (v := _) rfl (by kernel_rfl) (by kernel_rfl) (by kernel_rfl) (fun _ _ _ h => h) (yieldsI_loadw rfl 24 _ rfl rfl (fun w1 h => BA.out.ext ((HCC.out w1).1 h)) agg_polW rfl) hS0 ?_
  simp only [Act.put, List.setIfInBounds_toArray, List.set_cons_succ, List.set_cons_zero]
  refine held_take 2 (v := _) rfl (by kernel_rfl) (by kernel_rfl) (by kernel_rfl) (fun _ _ _ h => h) (yieldsI_loadw rfl 24 _ rfl rfl (fun w1 h => BA.out.ext ((HCC.out w1).1 h)) agg_polW rfl) hS0 ?_
  simp only [Act.put, List.setIfInBounds_toArray, List.set_cons_succ, List.set_cons_zero]
  refine held_take 4 (v := _) rfl (by kernel_rfl) (by kernel_rfl) (by kernel_rfl) (fun _ _ _ h => h) (yieldsI_loadw rfl 24 _ rfl rfl (fun w1 h => BA.out.ext ((HCC.out w1).1 h)) agg_polW rfl) hS0 ?_
  simp only [Act.put, List.setIfInBounds_toArray, List.set_cons_succ, List.set_cons_zero]
  refine held_one (i := 1) (by kernel_rfl) rfl ?_
  intro Q' hQ
  have e0 := EA.out.ext ((HCC.out _).1 hS0)
  go_wp2_with fail
  refine (HRS.out _ e0).mono ?_
  rintro e w1 ⟨vs, ss, rfl, hout1, hss1, e1⟩
  have HS1 := hid (hCx _ _ hS0 e1)
  have OUT1 := hid hout1
  have HSS := hid (hss1.trans HSS1.out)
  clear hS0 e0 hout1 hss1 e1 HRS HSS1
  go_wp2_with fail
  refine hQ _ _ HS1.out ?_
  clear hQ Q'
  try dsimp only
  try simp only [Act.put, List.setIfInBounds_toArray, List.set_cons_succ, List.set_cons_zero]
  refine held_one (i := 3) (by kernel_rfl) rfl ?_
  intro Q' hQ
  have e0 := EA.out.ext ((HCC.out _).1 HS1.out)
  go_wp2_with fail
  refine (HLB.out _ e0).mono ?_
  rintro e w2 ⟨vl, rfl, hol, e2⟩
  have HS2 := hid (hCx _ _ HS1.out e2)
  have OUT2 := hid (OUT1.out.ext e2)
  rw [HLL1.out] at hol
  have OL := hid hol
  clear HS1 e0 OUT1 hol e2 HLB
  go_wp2_with fail
  refine hQ _ _ HS2.out ?_
  clear hQ Q'
  try dsimp only
  try simp only [Act.put, List.setIfInBounds_toArray, List.set_cons_succ, List.set_cons_zero]
  refine held_one (i := 5) (by kernel_rfl) rfl ?_
  intro Q' hQ
  have e0 := EA.out.ext ((HCC.out _).1 HS2.out)
  go_wp2_with fail
  refine (HHR.out _ e0).mono ?_
  rintro e w3 ⟨vh, rfl, hoh, e3⟩
  have HS3 := hid (hCx _ _ HS2.out e3)
  have OUT3 := hid (OUT2.out.ext e3)
  have OL3 := hid (own_beside OL.out (ext_grown e3 none) (fun g _ => by simp))
  rw [HHH1.out] at hoh
  have OH3 := hid hoh
  clear HS2 e0 OUT2 OL hoh e3 HHR
  go_wp2_with fail
  refine hQ _ _ HS3.out ?_
  clear hQ Q'
  have E3 := hid (EA.out.ext ((HCC.out _).1 HS3.out))
  have hS0 := HS3.out
  try dsimp only
  try simp only [Act.put, List.setIfInBounds_toArray, List.set_cons_succ, List.set_cons_zero]
  refine held_take 6 (v := ?tv40) rfl (by kernel_rfl) (by kernel_rfl) (by kernel_rfl) (fun _ _ _ h => h) (.inl ⟨rfl, ?ty40⟩) hS0 ?tr40
  case ty40 => (intro _ _; go_simp; try with_reducible rfl)
  case tr40 =>
  simp only [Act.put, List.setIfInBounds_toArray, List.set_cons_succ, List.set_cons_zero]
  refine held_take 7 (v := ?tv41) rfl (by kernel_rfl) (by kernel_rfl) (by kernel_rfl) (fun _ _ _ h => h) (.inl ⟨rfl, ?ty41⟩) hS0 ?tr41
  case ty41 => (intro _ _; go_simp; try with_reducible rfl)
  case tr41 =>
  simp only [Act.put, List.setIfInBounds_toArray, List.set_cons_succ, List.set_cons_zero]
  refine held_take 8 (v := ?tv42) rfl (by kernel_rfl) (by kernel_rfl) (by kernel_rfl) (fun _ _ _ h => h) (.inl ⟨rfl, ?ty42⟩) hS0 ?tr42
  case ty42 => (intro _ _; go_simp; try with_reducible rfl)
  case tr42 =>
  simp only [Act.put, List.setIfInBounds_toArray, List.set_cons_succ, List.set_cons_zero]
  refine wpAnyH_done (by kernel_rfl) ?_ _
  clear hS0 HS3 hCA hCx HCC BA EA
  obtain ⟨sa, sc, rfl, hsc, hx1, hy1⟩ := own_cellsA OUT3.out.row
  obtain ⟨la, lc, rfl, hlc, hx2, hy2⟩ := own_cellsA OL3.out
  obtain ⟨ha, hc, rfl, hhc, hx3, hy3⟩ := own_cellsA OH3.out
  clear hx1 hx2 hx3 hy1 hy2 hy3
  clear HLL1 HHH1
  obtain ⟨nS, hnS⟩ : ∃ n, ss.length = n := ⟨_, rfl⟩
  obtain ⟨nL, hnL⟩ : ∃ n, LL.length = n := ⟨_, rfl⟩
  obtain ⟨nH, hnH⟩ : ∃ n, HH.length = n := ⟨_, rfl⟩
  have hSl : SS.length = nS := by rw [← HSS.out, List.length_map]; exact hnS
  rw [hSl] at hSz2 hS15
  rw [hnL] at hSz2 hL15 hL0 hlc OL3
  rw [hnH] at hSz2 hH15 hH0 hhc OH3
  rw [hnS] at hsc
  have W3 : Hid (∀ B, WInv w3 B (.slice none 0 0) [] (.slice sa nS sc) ss ⟨la, nL, lc, LL⟩ (.slice ha nH hc) HH) := hid (fun B => ⟨⟨rfl, .inl ⟨rfl, rfl⟩⟩, ⟨_, by have := OUT3.out; rwa [hnS] at this⟩, ⟨⟨_, OL3.out⟩, HSZL.out⟩, ⟨_, by rw [hnH]; exact OH3.out⟩⟩)
  rw [hnS, hnL, hnH]
  clear OUT3 OL3 OH3 HSZL
  go_wp2
  go_loopw [7, 31] (fun s i wr => ∃ (j p : Nat), j ≤ 3 ∧ i = .int .i64 (j : Int) ∧ s = .int .i64 (p : Int) ∧ p ≤ 100000 ∧ ((j = 0 → p * (nS * (nL * nH)) = Sz) ∧ (j = 1 → p * (nL * nH) = Sz) ∧ (j = 2 → p * nH = Sz) ∧ (j = 3 → p * 1 = Sz)) ∧ wr = w3) (fun _ i _ => 3 - (intOf i).toNat)
  case atStart => exact ⟨0, 12, by omega, rfl, rfl, by decide, ⟨fun _ => by rw [← hSz2]; simp only [Nat.mul_assoc, Nat.mul_comm, Nat.mul_left_comm], fun h => by omega, fun h => by omega, fun h => by omega⟩, by first | rfl | trivial⟩
  case round =>
    obtain ⟨j, p, hj, rfl, rfl, hp, ⟨hp0, hp1, hp2, hp3⟩, rfl⟩ := hrel
    rcases (show j = 0 ∨ j = 1 ∨ j = 2 ∨ j = 3 by omega) with rfl | rfl | rfl | rfl
    · have hpr := hp0 rfl
      have hri : ∀ W : World, (Instr.index 115 (.agg #[.int .i64 (nS : Int), .int .i64 (nL : Int), .int .i64 (nH : Int)]) (.int .i64 0)).run Tryz.prog W = .ok (.int .i64 (nS : Int)) W := fun W => run_index_arr (n := 3) (i := 0) Tryz.underlying115 one_tI (by decide) rfl W
      have hpn : p * nS ≤ 100000 * 1500000 := Nat.mul_le_mul hp (by omega)
      have hwp : IntKind.i64.wrap ((p : Int) * (nS : Int)) = ((p * nS : Nat) : Int) := by
        rw [show ((p : Int) * (nS : Int)) = ((p * nS : Nat) : Int) by push_cast; rfl]
        exact IntWalk.i64_in _ (by omega)
      have hpp : (p * nS) * (nL * nH) = Sz := by rw [← hpr]; (first | rfl | (simp only [Nat.mul_assoc, Nat.mul_one, Nat.one_mul]))
      have HWP := hid hwp
      obtain ⟨p', hp'⟩ : ∃ p', p * nS = p' := ⟨_, rfl⟩
      rw [hp'] at hwp hpp
      by_cases hgt : 100000 < p'
      · have dg : decide ((100000 : Int) < (p' : Int)) = true := decide_eq_true (by omega)
        have hbig : ¬ Sz ≤ 100000 := by
          have : p' * 1 ≤ p' * (nL * nH) := Nat.mul_le_mul (Nat.le_refl _) (by exact Nat.mul_pos hL0 hH0)
          rw [Nat.mul_one, hpp] at this
          omega
        clear hpn hpp hp' HWP
        go_wp2
        go_ret2
        first | exact .inl ⟨hbig, rfl, E3.out⟩ | exact ⟨rfl, E3.out⟩
      · have dg : decide ((100000 : Int) < (p' : Int)) = false := decide_eq_false (by omega)
        clear hpn hp' HWP
        go_wp2
        go_roundw
        case rel => exact ⟨0 + 1, p', by omega, by go_num, rfl, by omega, ⟨fun h => by omega, fun _ => hpp, fun h => by omega, fun h => by omega⟩, by first | rfl | trivial⟩
        case measure => simp [intOf]
    · have hpr := hp1 rfl
      have hri : ∀ W : World, (Instr.index 115 (.agg #[.int .i64 (nS : Int), .int .i64 (nL : Int), .int .i64 (nH : Int)]) (.int .i64 1)).run Tryz.prog W = .ok (.int .i64 (nL : Int)) W := fun W => run_index_arr (n := 3) (i := 1) Tryz.underlying115 one_tI (by decide) rfl W
      have hpn : p * nL ≤ 100000 * 1500000 := Nat.mul_le_mul hp (by omega)
      have hwp : IntKind.i64.wrap ((p : Int) * (nL : Int)) = ((p * nL : Nat) : Int) := by
        rw [show ((p : Int) * (nL : Int)) = ((p * nL : Nat) : Int) by push_cast; rfl]
        exact IntWalk.i64_in _ (by omega)
      have hpp : (p * nL) * (nH) = Sz := by rw [← hpr]; (first | rfl | (simp only [Nat.mul_assoc, Nat.mul_one, Nat.one_mul]))
      have HWP := hid hwp
      obtain ⟨p', hp'⟩ : ∃ p', p * nL = p' := ⟨_, rfl⟩
      rw [hp'] at hwp hpp
      by_cases hgt : 100000 < p'
      · have dg : decide ((100000 : Int) < (p' : Int)) = true := decide_eq_true (by omega)
        have hbig : ¬ Sz ≤ 100000 := by
          have : p' * 1 ≤ p' * (nH) := Nat.mul_le_mul (Nat.le_refl _) (by exact hH0)
          rw [Nat.mul_one, hpp] at this
          omega
        clear hpn hpp hp' HWP
        go_wp2
        go_ret2
        first | exact .inl ⟨hbig, rfl, E3.out⟩ | exact ⟨rfl, E3.out⟩
      · have dg : decide ((100000 : Int) < (p' : Int)) = false := decide_eq_false (by omega)
        clear hpn hp' HWP
        go_wp2
        go_roundw
        case rel => exact ⟨1 + 1, p', by omega, by go_num, rfl, by omega, ⟨fun h => by omega, fun h => by omega, fun _ => hpp, fun h => by omega⟩, by first | rfl | trivial⟩
        case measure => simp [intOf]
    · have hpr := hp2 rfl
      have hri : ∀ W : World, (Instr.index 115 (.agg #[.int .i64 (nS : Int), .int .i64 (nL : Int), .int .i64 (nH : Int)]) (.int .i64 2)).run Tryz.prog W = .ok (.int .i64 (nH : Int)) W := fun W => run_index_arr (n := 3) (i := 2) Tryz.underlying115 one_tI (by decide) rfl W
      have hpn : p * nH ≤ 100000 * 1500000 := Nat.mul_le_mul hp (by omega)
      have hwp : IntKind.i64.wrap ((p : Int) * (nH : Int)) = ((p * nH : Nat) : Int) := by
        rw [show ((p : Int) * (nH : Int)) = ((p * nH : Nat) : Int) by push_cast; rfl]
        exact IntWalk.i64_in _ (by omega)
      have hpp : (p * nH) * (1) = Sz := by rw [← hpr]; (first | rfl | (simp only [Nat.mul_assoc, Nat.mul_one, Nat.one_mul]))
      have HWP := hid hwp
      obtain ⟨p', hp'⟩ : ∃ p', p * nH = p' := ⟨_, rfl⟩
      rw [hp'] at hwp hpp
      by_cases hgt : 100000 < p'
      · have dg : decide ((100000 : Int) < (p' : Int)) = true := decide_eq_true (by omega)
        have hbig : ¬ Sz ≤ 100000 := by
          omega
        clear hpn hpp hp' HWP
        go_wp2
        go_ret2
        first | exact .inl ⟨hbig, rfl, E3.out⟩ | exact ⟨rfl, E3.out⟩
      · have dg : decide ((100000 : Int) < (p' : Int)) = false := decide_eq_false (by omega)
        clear hpn hp' HWP
        go_wp2
        go_roundw
        case rel => exact ⟨2 + 1, p', by omega, by go_num, rfl, by omega, ⟨fun h => by omega, fun h => by omega, fun h => by omega, fun _ => hpp⟩, by first | rfl | trivial⟩
        case measure => simp [intOf]
    · have hpz : p = Sz := by have := hp3 rfl; omega
      subst hpz
      have hle : p ≤ 100000 := hp
      have HT := hid elem_ask
      obtain ⟨T, hT⟩ : ∃ T, asksA ss LL HH = T := ⟨_, rfl⟩
      have hTl : T.length = p := by rw [← hT, asksA_len, hnS, hnL, hnH]; exact hSz2
      have hwB : w.heap.size ≤ wr.heap.size := E3.out.size
      have HTT := hid hT
      clear hp0 hp1 hp2 hp3 hT
      go_wp2_with (refine wpl_mkRoom HT.out rfl rfl rfl (n := p) rfl (by omega) (by omega) w.heap.size hwB ?_)
      intro wM hrowM eM
      have WM : Hid (WInv wM w.heap.size (.slice (some ⟨wr.heap.size, 0, none⟩) 0 p) [] (.slice sa nS sc) ss ⟨la, nL, lc, LL⟩ (.slice ha nH hc) HH) := hid (by
        have h3 := W3.out 0
        refine ⟨hrowM, ?_, h3.labs.ext eM, ?_⟩
        · obtain ⟨B2, h2⟩ := h3.sets
          exact ⟨B2, h2.ext eM⟩
        · obtain ⟨B2, h2⟩ := h3.hours
          exact ⟨B2, own_beside h2 (ext_grown eM none) (fun g _ => by simp)⟩)
      have EM := hid (E3.out.ext eM)
      clear hrowM eM W3 E3
      go_wp2
      go_loopw [10, 44] (fun v i wr => ∃ (k : Nat) (xs : List AskR), k ≤ nS ∧ i = .int .i64 (k : Int) ∧ WInv wr w.heap.size v xs (.slice sa nS sc) ss ⟨la, nL, lc, LL⟩ (.slice ha nH hc) HH ∧ xs ++ asksA (ss.drop k) LL HH = T ∧ Ext w wr) (fun _ i _ => nS - (intOf i).toNat)
      case atStart => exact ⟨0, [], by omega, rfl, WM.out, by rw [List.drop_zero]; exact HTT.out, EM.out⟩
      case round =>
        obtain ⟨k, xs, hk, rfl, hinv, hxs, e1⟩ := hrel
        have INV := hid hinv
        have HXS := hid hxs
        have E1 := hid e1
        clear hinv hxs e1 WM EM
        by_cases hlt : k < nS
        · obtain ⟨s, hsk⟩ : ∃ s, ss[k]? = some s := ⟨ss[k]'(by omega), by simp⟩
          obtain ⟨B2, hsets⟩ := INV.out.sets
          obtain ⟨a9, c9, hv9, hnc9, h09, hcs9⟩ := own_cellsA hsets.row
          injection hv9 with hv9a hv9b hv9c
          subst hv9a
          obtain ⟨A2, hA2, hcs⟩ := cells_one hcs9 (show (ss.map SetR.v)[k]? = some s.v by rw [List.getElem?_map, hsk]; rfl)
          rw [Nat.mul_one] at hcs
          obtain ⟨R1, hR1⟩ : ∃ x, asksA (ss.drop (k + 1)) LL HH = x := ⟨_, rfl⟩
          have HR1 := hid hR1
          have HX1 : Hid (xs ++ (actsA s (actsW.drop 0) LL HH ++ R1) = T) := hid (by
            have := HXS.out
            rw [drop_cons hsk] at this
            unfold asksA at this
            rw [List.flatMap_cons] at this
            rw [← this, ← hR1]
            rfl)
          subst hA2
          clear hsets hv9b hv9c hnc9 h09 hcs9 hR1
          go_wp2
          go_loopw [10, 13] (fun v i wr => ∃ (j : Nat) (z : Int) (xs : List AskR), j ≤ 12 ∧ z = ((j + 1 : Nat) : Int) ∧ i = .int .i64 z ∧ WInv wr w.heap.size v xs (.slice (some A2) nS sc) ss ⟨la, nL, lc, LL⟩ (.slice ha nH hc) HH ∧ xs ++ (actsA s (actsW.drop j) LL HH ++ R1) = T ∧ Ext w wr) (fun _ i _ => 13 - (intOf i).toNat)
          case atStart => exact ⟨0, 1, xs, by omega, rfl, rfl, INV.out, HX1.out, E1.out⟩
          case round =>
            obtain ⟨j, z, xs, hj, hzj, rfl, hinv, hxs, e1⟩ := hrel
            have INV := hid hinv
            have HXS := hid hxs
            have E1 := hid e1
            have HZJ := hid hzj
            clear hinv hxs e1 HX1 hcs
            by_cases hjt : j < 12
            · have dj : decide (z ≤ 12) = true := decide_eq_true (by omega)
              have hwz : IntKind.i64.wrap (z + 1) = z + 1 := by rw [hzj, show (((j + 1 : Nat) : Int) + 1) = ((j + 2 : Nat) : Int) by omega]; exact IntWalk.i64_in _ (by omega)
              have hz0 : 0 ≤ z := by omega
              have hz12 : z ≤ 12 := by omega
              obtain ⟨R2, hR2⟩ : ∃ x, actsA s (actsW.drop (j + 1)) LL HH ++ R1 = x := ⟨_, rfl⟩
              have HX2 : Hid (xs ++ (labsA s z (LL.drop 0) HH ++ R2) = T) := hid (by
                have := HXS.out
                rw [actsW_drop hjt, ← hzj] at this
                unfold actsA at this
                rw [List.flatMap_cons, List.append_assoc] at this
                rw [← this, ← hR2, List.drop_zero]
                rfl)
              have HR2 := hid hR2
              clear hR2 hzj
              go_wp2
              go_loopw [10, 54] (fun v i wr => ∃ (m : Nat) (xs : List AskR), m ≤ nL ∧ i = .int .i64 (m : Int) ∧ WInv wr w.heap.size v xs (.slice (some A2) nS sc) ss ⟨la, nL, lc, LL⟩ (.slice ha nH hc) HH ∧ xs ++ (labsA s z (LL.drop m) HH ++ R2) = T ∧ Ext w wr) (fun _ i _ => nL - (intOf i).toNat)
              case atStart => exact ⟨0, xs, by omega, rfl, INV.out, HX2.out, E1.out⟩
              case round =>
                obtain ⟨m, xs, hm, rfl, hinv, hxs, e1⟩ := hrel
                have INV := hid hinv
                have HXS := hid hxs
                have E1 := hid e1
                clear hinv hxs e1 HX2
                by_cases hmt : m < nL
                · obtain ⟨l, hlm⟩ : ∃ l, LL[m]? = some l := ⟨LL[m]'(by omega), by simp⟩
                  obtain ⟨A3, hA3, hcl⟩ := cells_one (INV.out.labs.ok (by show nL ≤ _; omega)).cell (show (LL.map sv)[m]? = some (sv l) by rw [List.getElem?_map, hlm]; rfl)
                  rw [Nat.mul_one] at hcl
                  have hA4 : la = some A3 := hA3
                  obtain ⟨R3, hR3⟩ : ∃ x, labsA s z (LL.drop (m + 1)) HH ++ R2 = x := ⟨_, rfl⟩
                  have HX3 : Hid (xs ++ (hoursA s z l (HH.drop 0) ++ R3) = T) := hid (by
                    have := HXS.out
                    rw [drop_cons hlm] at this
                    unfold labsA at this
                    rw [List.flatMap_cons, List.append_assoc] at this
                    rw [← this, ← hR3, List.drop_zero]
                    rfl)
                  have HR3 := hid hR3
                  subst hA4
                  clear hR3 hlm hA3
                  go_wp2
                  go_loopw [10, 60] (fun v i wr => ∃ (q : Nat) (xs : List AskR), q ≤ nH ∧ i = .int .i64 (q : Int) ∧ WInv wr w.heap.size v xs (.slice (some A2) nS sc) ss ⟨some A3, nL, lc, LL⟩ (.slice ha nH hc) HH ∧ xs ++ (hoursA s z l (HH.drop q) ++ R3) = T ∧ Ext w wr) (fun _ i _ => nH - (intOf i).toNat)
                  case atStart => exact ⟨0, xs, by omega, rfl, INV.out, HX3.out, E1.out⟩
                  case round =>
                    obtain ⟨q, xs, hq, rfl, hinv, hxs, e1⟩ := hrel
                    have INV := hid hinv
                    have HXS := hid hxs
                    have E1 := hid e1
                    clear hinv hxs e1 HX3 hcl
                    by_cases hqt : q < nH
                    · obtain ⟨h, hhq⟩ : ∃ h, HH[q]? = some h := ⟨HH[q]'(by omega), by simp⟩
                      obtain ⟨B2, hhours⟩ := INV.out.hours
                      obtain ⟨a9, c9, hv9, hnc9, h09, hcs9⟩ := own_cellsA hhours
                      injection hv9 with hv9a hv9b hv9c
                      obtain ⟨A5, hA5, hch⟩ := cells_one hcs9 (show (HH.map iv)[q]? = some (.int .i64 h) by rw [List.getElem?_map, hhq]; rfl)
                      rw [Nat.mul_one] at hch
                      rw [hA5] at hv9a
                      have h24 := HH24.out h (List.mem_of_getElem? hhq)
                      have hwh : IntKind.i64.wrap (3600 * h) = 3600 * h := by
                        obtain ⟨hN, rfl⟩ := Int.eq_ofNat_of_zero_le h24.1
                        have : (3600 : Int) * (hN : Int) = ((3600 * hN : Nat) : Int) := by push_cast; rfl
                        rw [this]
                        exact IntWalk.i64_in _ (by omega)
                      have HXX : Hid ((xs ++ [askW s z l h]) ++ (hoursA s z l (HH.drop (q + 1)) ++ R3) = T) := hid (by
                        have := HXS.out
                        rw [drop_cons hhq] at this
                        unfold hoursA at this
                        rw [List.map_cons] at this
                        rw [← this]
                        unfold hoursA
                        simp)
                      have hxl : xs.length + 1 ≤ 140737488355328 := by have := congrArg List.length HXX.out; rw [List.length_append, List.length_append, List.length_singleton] at this; omega
                      have hxb : (xs.length + 1) * 120 ≤ 140737488355328 := by have := congrArg List.length HXX.out; rw [List.length_append, List.length_append, List.length_singleton] at this; omega
                      have hwr := E1.out.size
                      have hwr2 : w.heap.size ≤ wr.heap.size + 1 := by omega
                      have HAL := hid (askW_len s z l h)
                      have HA1 := hid (askW_one (askW s z l h))
                      obtain ⟨X, hX⟩ : ∃ X, askW s z l h = X := ⟨_, rfl⟩
                      have HX := hid hX
                      rw [hX] at HXX HAL HA1
                      subst hv9a
                      clear hhours hv9b hv9c hnc9 h09 hcs9 hhq hX
                      go_wp2_with (first | (refine wpl_run rfl (exec_ask (s := s) (act := z) (h := h) (l := l) rfl rfl rfl rfl rfl _) ?_; rw [HX.out]) | (refine wpl_buildOne HT.out (by decide) rfl rfl rfl HAL.out ?_) | (refine wpl_appendA (m := 1) (c := 1) (news := X.v) HT.out rfl _ _ rfl w.heap.size rfl rfl (INV.out.row.alloc _) (by rw [HAL.out]) (by decide) (fun h => by cases h) (Cells.of_blk0 (Blk.mk_alloc (T := 40) rfl rfl)) HA1.out hxl hxb (by rw [size_allocW]; exact hwr2) ?_))
                      intro v' w' ho' hg' _
                      have INV' := hid (INV.out.push ho' hg')
                      have E' := hid (INV.out.pushExt E1.out (Nat.le_refl _) hg')
                      clear ho' hg' INV E1 HXS HAL HA1 HX hwh hxl hxb hwr hwr2 hch
                      go_wp2
                      go_roundw
                      case rel => exact ⟨q + 1, _, by omega, by go_num, INV'.out, HXX.out, E'.out⟩
                      case measure => simp [intOf]; omega
                    · obtain rfl : q = nH := by omega
                      have HXX : Hid (xs ++ (labsA s z (LL.drop (m + 1)) HH ++ R2) = T) := hid (by
                        have := HXS.out
                        rw [List.drop_of_length_le (by omega)] at this
                        unfold hoursA at this
                        rw [HR3.out]
                        simpa using this)
                      clear HXS HR3
                      go_wp2
                      go_roundw
                      case rel => exact ⟨m + 1, _, by omega, by go_num, INV.out, HXX.out, E1.out⟩
                      case measure => simp [intOf]; omega
                · obtain rfl : m = nL := by omega
                  have HXX : Hid (xs ++ (actsA s (actsW.drop (j + 1)) LL HH ++ R1) = T) := hid (by
                    have := HXS.out
                    rw [List.drop_of_length_le (by omega)] at this
                    unfold labsA at this
                    rw [HR2.out]
                    simpa using this)
                  clear HXS HR2
                  go_wp2
                  go_roundw
                  case rel => exact ⟨j + 1, z + 1, _, by omega, by have := HZJ.out; omega, by first | rfl | (rw [hwz]; done) | simp [hwz], INV.out, HXX.out, E1.out⟩
                  case measure => simp [intOf]; omega
            · obtain rfl : j = 12 := by omega
              have dj : decide (z ≤ 12) = false := decide_eq_false (by omega)
              have HXX : Hid (xs ++ asksA (ss.drop (k + 1)) LL HH = T) := hid (by
                have := HXS.out
                rw [List.drop_of_length_le (by decide)] at this
                rw [HR1.out]
                unfold actsA at this
                simpa using this)
              clear HXS HR1
              go_wp2
              go_roundw
              case rel => exact ⟨k + 1, _, by omega, by go_num, INV.out, HXX.out, E1.out⟩
              case measure => simp [intOf]; omega
        · obtain rfl : k = nS := by omega
          have HXX : Hid (xs = asksA ss LL HH) := hid (by
            have := HXS.out
            rw [List.drop_of_length_le (by omega)] at this
            unfold asksA at this
            rw [HTT.out]
            simpa [asksA] using this)
          have hxe := HXX.out
          clear HXS HTT
          go_wp2
          go_ret2
          first | exact .inr ⟨hle, _, _, _, ss, _, rfl, HSS.out, by rw [← HXX.out]; exact INV.out, E1.out⟩ | exact ⟨_, _, _, ss, _, rfl, HSS.out, by rw [← HXX.out]; exact INV.out, E1.out⟩
end

section
open Go Go.RowKit Go.Maps Go.MapKept Go.WideShapes

theorem elem_str : ElemT Tryz.prog 36 9 1 16 := elem_strB
set_option maxRecDepth 100000 in
set_option maxHeartbeats 1000000 in
theorem cloneStr_c (xs : List Value) (a : Option Addr) (n c : Nat) (w : World) (hl : xs.length = n) (hn : n * 16 ≤ 140737488355320) (hnc : n ≤ c) (h0 : a = none → c = 0) (h1 : ∀ v ∈ xs, v.oneCell' = true) (hcl : Cells w a xs) :
    Calls Tryz.prog 25 #[.slice a n c] w fun e w' => ∃ v, e = .returned v ∧ w'.ownsRow w.heap.size 9 1 v n xs ∧ Ext w w' := by
  have HC := hid hcl
  have HL := hid hl
  have H1 := hid h1
  have HT := hid elem_str
  have q26 : ∀ (w : World) (a : Option Addr) (n c n' c' : Nat), (binOp .eql 36 (.slice a n c) (.slice none n' c')).run Tryz.prog w = .ok (.bool a.isNone) w := fun w a n c n' c' => Lib.run_eql_slice_nil w _ _ a n c n' c' Tryz.underlying36
  cases a with
  | none =>
    have hc0 := h0 rfl
    subst hc0
    have hn0 : n = 0 := by omega
    subst hn0
    have hx : xs = [] := List.length_eq_zero_iff.1 hl
    subst hx
    clear hl h1 hcl
    go_enter Tryz.func25, Tryz.ntmps25
    go_wp2
    go_ret
    exact ⟨_, rfl, ⟨rfl, .inl ⟨rfl, rfl⟩⟩, Ext.refl _⟩
  | some A =>
    clear hl h1 hcl h0
    go_enter Tryz.func25, Tryz.ntmps25
    go_wp2_with (refine wpl_appendA (n := 0) (m := n) (c := c) (xs := []) (news := xs) HT.out rfl _ _ rfl w.heap.size rfl rfl (World.ownsRow_made w #[] 0 (Nat.le_refl _) (Nat.zero_le _) (by simp)) (by have := HL.out; omega) hnc (fun h => by cases h) (HC.out.ext ((Ext.refl w).alloc _)) H1.out (by omega) (by omega) (by rw [size_allocW]; omega) ?_)
    intro v' w1 hown hgrow hnil
    have e1 : Ext w w1 := ((Ext.refl w).alloc _).grown hgrow (by intro k hk; simp [Value.ownBlock] at hk; omega)
    have HO : Hid (w1.ownsRow w.heap.size 9 1 v' n xs) := hid (by simpa using hown)
    clear hgrow hown hnil
    go_wp2
    go_ret
    exact ⟨v', rfl, HO.out, e1⟩

structure AskP where
  actor : List UInt8
  roles : List ByteArray
  act : Int
  label : ByteArray
  key : List UInt8
  time : Int
  detail : List UInt8
def AskR.p (a : AskR) : AskP := ⟨a.actor, a.roles, a.act, a.label, a.key, a.time, a.detail⟩
structure AskR.Own (w : World) (a : AskR) : Prop where
  ha : a.actor.length = 16
  hk : a.key.length = 16
  hd : a.detail.length = 32
  row : ∃ B, w.ownsRow B 9 1 (.slice a.sa a.sn a.sc) a.sn (a.roles.map encStr)
  sm : a.sn ≤ 1000000
  ss : ∀ s ∈ a.roles, s.size ≤ 140737488355328
  ls : a.label.size ≤ 140737488355328
theorem AskR.Own.cells {w : World} {a : AskR} (h : a.Own w) : a.roles.length = a.sn ∧ a.sn ≤ a.sc ∧ (a.sa = none → a.sc = 0) ∧ Cells w a.sa (a.roles.map encStr) := by
  obtain ⟨B, hr⟩ := h.row
  have hl := hr.1
  obtain ⟨ad, c, hv, hnc, h0, hc⟩ := own_cellsA hr
  injection hv with h1 h2 h3
  exact ⟨by rw [List.length_map] at hl; omega, by omega, fun h => by rw [h3]; exact h0 (by rw [← h1]; exact h), by rw [h1]; exact hc⟩
theorem AskR.Own.ok {w : World} {a : AskR} (h : a.Own w) : a.Ok w := by
  obtain ⟨h1, h2, _, h4⟩ := h.cells
  exact ⟨h.ha, h.hk, h.hd, h1, h2, Nat.le_trans h.sm (by decide), h4, h.ss, h.ls⟩
theorem AskR.Own.ext {w w' : World} {a : AskR} (h : a.Own w) (e : Ext w w') : a.Own w' := by
  obtain ⟨B, hr⟩ := h.row
  exact ⟨h.ha, h.hk, h.hd, ⟨B, own_beside hr (ext_grown e none) (fun g _ => by simp)⟩, h.sm, h.ss, h.ls⟩
theorem AskR.Own.beside {w w' : World} {a : AskR} {B n : Nat} {v : Value} {xs : List Value} (h : a.Own w) (hr : w.ownsRow B 40 68 v n xs) (k : w.grownBy w' v.ownBlock) : a.Own w' := by
  obtain ⟨B2, h2⟩ := h.row
  exact ⟨h.ha, h.hk, h.hd, ⟨B2, Apart.keep (Apart.of_ty hr h2 (by decide)) h2 k⟩, h.sm, h.ss, h.ls⟩
theorem askW_own {w : World} {s : SetR} (h : s.Own w) (hn : s.n ≤ 1000000) {act h0 : Int} {l : List UInt8} (hl : l.length ≤ 140737488355328) : (askW s act l h0).Own w := by
  obtain ⟨B, hr⟩ := h.row
  have hk := askW_ok (h.ok (Nat.le_trans hn (by decide))) (act := act) (h0 := h0) hl
  refine ⟨hk.ha, hk.hk, hk.hd, ⟨B, ?_⟩, hn, hk.ss, hk.ls⟩
  show w.ownsRow B 9 1 (.slice s.a s.n s.c) s.n ((s.roles.map strOf).map encStr)
  have : (s.roles.map strOf).map encStr = s.roles.map sv := by rw [List.map_map]; rfl
  rw [this]; exact hr
structure AsksI (w : World) (B : Nat) (v : Value) (xs : List AskR) : Prop where
  row : w.ownsRow B 40 68 v xs.length (asksV xs)
  own : ∀ x ∈ xs, x.Own w
theorem AsksI.ext {w w' : World} {B : Nat} {v : Value} {xs : List AskR} (h : AsksI w B v xs) (e : Ext w w') : AsksI w' B v xs :=
  ⟨own_beside h.row (ext_grown e none) (fun g _ => by simp), fun x hx => (h.own x hx).ext e⟩
noncomputable def worldP (rs : List RuleR) : List AskP := (setsOf rs).flatMap fun s => actsW.flatMap fun a => (labsOf rs).flatMap fun l => (hoursW rs).map fun h => ⟨zer 16, s.map strOf, a, strOf l, zer 16, 3600 * h, zer 32⟩
theorem asksA_p {ss : List SetR} {S : List (List (List UInt8))} (h : ss.map SetR.roles = S) (ls : List (List UInt8)) (hs : List Int) : (asksA ss ls hs).map AskR.p = S.flatMap fun s => actsW.flatMap fun a => ls.flatMap fun l => hs.map fun h => (⟨zer 16, s.map strOf, a, strOf l, zer 16, 3600 * h, zer 32⟩ : AskP) := by
  subst h
  unfold asksA actsA labsA hoursA askW
  simp only [List.map_flatMap, List.flatMap_map, List.map_map, Function.comp_def]
  rfl
noncomputable def errW (rs : List RuleR) (pn : Nat) : Int := if polE rs pn ≠ 0 then polE rs pn else if szW rs ≤ 100000 then 0 else 5
theorem sets_small {ro : List (List UInt8)} (h : ro.length ≤ 1700) : ∀ s ∈ setsW ro, s.length ≤ 1700 := by
  have hp : ∀ l : List (List UInt8), ∀ s ∈ pairsW l, s.length = 2 := by
    intro l
    induction l with
    | nil => intro s hs; simp [pairsW] at hs
    | cons x l ih =>
      intro s hs
      unfold pairsW at hs
      rcases List.mem_append.1 hs with hs | hs
      · obtain ⟨t, _, rfl⟩ := List.mem_map.1 hs
        rfl
      · exact ih s hs
  intro s hs
  unfold setsW at hs
  simp only [List.mem_append, List.mem_cons, List.mem_map] at hs
  rcases hs with ((rfl | ⟨r, _, rfl⟩) | hs) | hs
  · simp
  · simp
  · rw [hp _ s hs]; omega
  · split at hs
    · rw [List.mem_singleton] at hs; subst hs; exact h
    · cases hs
end

section
open Go Go.RowKit Go.Maps Go.MapKept Go.WideShapes

theorem rolesW_len : ∀ l : List RuleR, (∀ r ∈ l, r.roles.length ≤ 16) → (rolesW l).length ≤ l.length * 17 := by
  intro l hl
  induction l with
  | nil => simp [rolesW]
  | cons x l ih =>
    unfold rolesW at ih ⊢
    rw [List.flatMap_cons, List.length_append, List.length_cons]
    have a1 := ih (fun y hy => hl y (by simp [hy]))
    have a2 := roleWords_len x
    have a3 := hl x (by simp)
    omega
theorem labsOf_small {rs : List RuleR} (hz : ∀ r ∈ rs, ruleE r = 0) : ∀ x ∈ labsOf rs, x.length ≤ 140737488355328 := by
  intro x hx
  unfold labsOf at hx
  rw [canL_mem] at hx
  unfold labW labWords at hx
  simp only [List.mem_append, List.mem_cons, List.mem_flatMap, List.not_mem_nil, or_false] at hx
  rcases hx with (rfl | rfl) | ⟨r, hr, s, hs, hx⟩
  · simp
  · simp
  · have hpt := ruleE_labels (hz r hr) s hs
    have h32 := pat_len hpt
    unfold refLab at hx
    cases hst : starL (bs s) with
    | false =>
      rw [hst] at hx
      simp only [Bool.false_eq_true, if_false, List.mem_singleton] at hx
      rw [hx, ← headL_nostar hst]
      exact Nat.le_trans h32 (by decide)
    | true =>
      rw [hst, if_pos rfl, List.mem_filter] at hx
      have := name_len hx.2
      omega
theorem world_own {w : World} {B : Nat} {v vs vh : Value} {ss : List SetR} {L : SetR} {hs : List Int} {rs : List RuleR} {pn : Nat} (hl : rs.length = pn) (hrr : ∀ r ∈ rs, r.roles.length = r.rn) (hE : polE rs pn = 0) (hss : ss.map SetR.roles = setsOf rs)
    (h : WInv w B v (asksA ss (labsOf rs) (hoursW rs)) vs ss L vh hs) : AsksI w B v (asksA ss (labsOf rs) (hoursW rs)) := by
  obtain ⟨h100, hz⟩ := polE_zero hE
  refine ⟨h.row, fun x hx => ?_⟩
  obtain ⟨s, hs, i, hi, l, hl2, z, hz2, rfl⟩ := asksA_mem hx
  obtain ⟨B2, h2⟩ := h.sets
  have ho := h2.own s hs
  have hsn : s.roles.length = s.n := (by
    obtain ⟨B3, h3⟩ := ho.row
    have := h3.1
    rw [List.length_map] at this
    omega)
  refine askW_own ho ?_ (labsOf_small hz l hl2)
  rw [← hsn]
  have hm : s.roles ∈ setsW (canL (rolesW rs)) := by
    show _ ∈ setsOf rs
    rw [← hss]
    exact List.mem_map.2 ⟨s, hs, rfl⟩
  have hle : (canL (rolesW rs)).length ≤ 1700 := by
    refine Nat.le_trans (canL_len _) ?_
    have := rolesW_len rs (fun r hr => by rw [hrr r hr]; exact (ruleE_k1 (hz r hr)).1)
    omega
  exact Nat.le_trans (sets_small hle _ hm) (by decide)

set_option maxRecDepth 100000 in
set_option maxHeartbeats 2000000 in
theorem worldOf_c (pa : Option Addr) (pn pc : Nat) (rs : List RuleR) (w : World) (hp : PolOk w pa pn pc rs) :
    Calls Tryz.prog 24 #[.agg #[.slice pa pn pc]] w fun e w' => ∃ v xs, e = .returned (.tuple #[v, .int .i64 (errW rs pn)]) ∧ (errW rs pn ≠ 0 → v = .slice none 0 0) ∧ (errW rs pn = 0 → AsksI w' w.heap.size v xs ∧ xs.map AskR.p = worldP rs) ∧ Ext w w' := by
  have HCK := hid (fun W (h : Ext w W) => check_c pa pn pc rs W (hp.ext h))
  have HWD := hid (fun W (h : Ext w W) (hE : polE rs pn = 0) => world_c pa pn pc rs W (hp.ext h) hE)
  have HPL := hid hp.hl
  have HRR := hid (fun r hr => (hp.ok r hr).rl)
  have herr := hid (show errW rs pn = if polE rs pn ≠ 0 then polE rs pn else if szW rs ≤ 100000 then 0 else 5 from rfl)
  clear hp
  obtain ⟨E, hE⟩ : ∃ E, errW rs pn = E := ⟨_, rfl⟩
  obtain ⟨F, hF⟩ : ∃ F, polE rs pn = F := ⟨_, rfl⟩
  have HF := hid hF
  have HE := hid (herr.out.symm.trans hE)
  rw [hE]
  rw [hF] at HCK HE
  clear hE herr hF
  go_enter Tryz.func24, Tryz.ntmps24
  go_upto_region 1 with (fail)
  generalize hwA : World.alloc w _ = wA
  have bA : Blk wA w.heap.size [.slice pa pn pc] 24 := by rw [← hwA]; exact Blk.mk_alloc rfl rfl
  have eA : Ext w wA := by rw [← hwA]; exact (Ext.refl w).alloc _
  have BA := hid bA
  have EA := hid eA
  clear hwA bA eA
  go_wp2_with (first | (refine wpl_loadw rfl 24 _ rfl rfl BA.out agg_polW rfl ?_))
  refine (HCK.out wA EA.out).mono ?_
  rintro e w1 ⟨rfl, e1⟩
  have E1 := hid (EA.out.ext e1)
  have B1 := hid (BA.out.ext e1)
  clear e1 BA EA HCK
  by_cases h0 : F = 0
  · subst h0
    have hE := HE.out
    rw [if_neg (by simp)] at hE
    have HE2 := hid hE
    clear hE HE
    go_wp2_with (first | (refine wpl_loadw rfl 24 _ rfl rfl B1.out agg_polW rfl ?_))
    refine (HWD.out w1 E1.out HF.out).mono ?_
    rintro e w2 (⟨hbig, rfl, e2⟩ | ⟨hle, v, vs, vh, ss, L, rfl, hss, hinv, e2⟩)
    · have hE := HE2.out
      rw [if_neg hbig] at hE
      have E2 := hid (E1.out.ext e2)
      clear hbig e2 HE2
      subst hE
      go_wp2
      go_ret2
      exact ⟨_, [], rfl, fun _ => rfl, fun h => absurd h (by decide), E2.out⟩
    · have hE := HE2.out
      rw [if_pos hle] at hE
      have E2 := hid (E1.out.ext e2)
      have hA := world_own HPL.out HRR.out HF.out hss hinv
      have AI : Hid (AsksI w2 w.heap.size v (asksA ss (labsOf rs) (hoursW rs))) := hid ⟨own_monoW hA.row E1.out.size, hA.own⟩
      have HP := hid (asksA_p hss (labsOf rs) (hoursW rs))
      clear hle e2 HE2 hA hinv
      subst hE
      go_wp2
      go_ret2
      first | exact ⟨_, rfl, ⟨_, AI.out, HP.out⟩, E2.out⟩ | exact ⟨rfl, ⟨_, AI.out, HP.out⟩, E2.out⟩ | exact ⟨⟨_, AI.out, HP.out⟩, E2.out⟩
  · have hE := HE.out
    rw [if_pos h0] at hE
    subst hE
    have d0 : decide (F = 0) = false := decide_eq_false h0
    clear HE
    go_wp2
    go_ret2
    exact ⟨_, [], rfl, fun _ => rfl, fun h => absurd h h0, E1.out⟩
end

section
open Go Go.RowKit Go.Maps Go.MapKept Go.WideShapes

theorem exec_indexW {P : Program} {o : Oper} {a : Act} {t e : TypeId} {x y : Operand} {p q : Addr} {n c i z : Nat} (hq : p.add (i * z) = q) (ho : o.op = .indexAddr t x y) (hx : a.eval x = .slice (some p) n c) (hy : a.eval y = .int .i64 (i : Int)) (hu : P.underlying t = some (.slice e)) (hs : (P.info? e).map (·.size) = some z) (hi : i < n) (w : World) :
    (execOp a.eval o).run P w = .ok (.value (.pointer (some q))) w := by
  subst hq
  exact exec_index ho hx hy hu hs hi w
theorem size_ask : (Tryz.prog.info? 40).map (·.size) = some 68 := by kernel_rfl
theorem asksV_len {w : World} : ∀ {xs : List AskR}, (∀ x ∈ xs, x.Own w) → (asksV xs).length = 68 * xs.length
  | [], _ => rfl
  | x :: xs, h => by
    have h1 := asksV_len (xs := xs) (fun y hy => h y (by simp [hy]))
    have h2 := AskR.len (h x (by simp)).ok
    unfold asksV at h1 ⊢
    rw [List.flatMap_cons, List.length_append, h1, h2, List.length_cons]
    omega
/-- an ask whose roles lie elsewhere -/
def AskR.move (x : AskR) (a : Option Addr) (c : Nat) : AskR := ⟨x.actor, a, x.sn, c, x.roles, x.act, x.label, x.key, x.time, x.detail⟩
theorem AskR.move_p (x : AskR) (a : Option Addr) (c : Nat) : (x.move a c).p = x.p := rfl
theorem AskR.move_v {w : World} {x : AskR} (h : x.Own w) (a : Option Addr) (c : Nat) : (x.move a c).v = x.v.set 16 (.slice a x.sn c) := by
  unfold AskR.v AskR.move
  rw [List.set_append_right _ _ (by rw [List.length_map, h.ha]; exact Nat.le_refl _), List.length_map, h.ha]
  rfl
theorem asksV_set {w : World} {ys rest : List AskR} {x : AskR} {k : Nat} (hy : ∀ y ∈ ys, y.Own w) (hx : x.Own w) (hk : ys.length = k) (a : Option Addr) (c : Nat) :
    (asksV (ys ++ x :: rest)).set (k * 68 + 16) (.slice a x.sn c) = asksV ((ys ++ [x.move a c]) ++ rest) := by
  have hl := asksV_len hy
  have hxl := AskR.len hx.ok
  unfold asksV at hl ⊢
  rw [List.flatMap_append, List.flatMap_cons, List.flatMap_append, List.flatMap_append]
  rw [List.set_append_right _ _ (by omega), hl, hk, show k * 68 + 16 - 68 * k = 16 by omega, List.set_append_left _ _ (by omega), ← AskR.move_v hx]
  simp
theorem asksV_at16 {w : World} {ys rest : List AskR} {x : AskR} {k : Nat} (hy : ∀ y ∈ ys, y.Own w) (hx : x.Own w) (hk : ys.length = k) : (asksV (ys ++ x :: rest))[k * 68 + 16]? = some (.slice x.sa x.sn x.sc) := by
  have hl := asksV_len hy
  unfold asksV at hl ⊢
  rw [List.flatMap_append, List.flatMap_cons, List.getElem?_append_right (by omega), hl, hk, show k * 68 + 16 - 68 * k = 16 by omega, List.getElem?_append_left (by rw [AskR.len hx.ok]; decide)]
  exact AskR.at16 hx.ok
theorem worldP_pos (rs : List RuleR) : worldP rs ≠ [] := by
  intro h
  unfold worldP at h
  rw [List.flatMap_eq_nil_iff] at h
  have h1 : ([] : List (List UInt8)) ∈ setsOf rs := by unfold setsOf setsW; simp
  have h2 := h _ h1
  rw [List.flatMap_eq_nil_iff] at h2
  have h3 := h2 1 (by decide)
  rw [List.flatMap_eq_nil_iff] at h3
  obtain ⟨l, hl⟩ := List.exists_mem_of_length_pos (labsOf_pos rs)
  have h4 := h3 l hl
  rw [List.map_eq_nil_iff] at h4
  have := hoursW_pos rs
  rw [h4] at this
  cases this

set_option maxRecDepth 100000 in
set_option maxHeartbeats 2000000 in
theorem World_c (pa : Option Addr) (pn pc : Nat) (rs : List RuleR) (w : World) (hp : PolOk w pa pn pc rs) :
    Calls Tryz.prog 7 #[.agg #[.slice pa pn pc]] w fun e w' => ∃ v xs, e = .returned (.tuple #[v, .int .i64 (errW rs pn)]) ∧ (errW rs pn ≠ 0 → v = .slice none 0 0) ∧ (errW rs pn = 0 → AsksI w' w.heap.size v xs ∧ xs.map AskR.p = worldP rs) ∧ Ext w w' := by
  have HWD := hid (fun W (h : Ext w W) => worldOf_c pa pn pc rs W (hp.ext h))
  clear hp
  obtain ⟨E, hE⟩ : ∃ E, errW rs pn = E := ⟨_, rfl⟩
  rw [hE] at HWD ⊢
  clear hE
  go_enter Tryz.func7, Tryz.ntmps7
  go_upto_region 1 with (fail)
  generalize hwA : World.alloc w _ = wA
  have bA : Blk wA w.heap.size [.slice pa pn pc] 24 := by rw [← hwA]; exact Blk.mk_alloc rfl rfl
  have eA : Ext w wA := by rw [← hwA]; exact (Ext.refl w).alloc _
  have BA := hid bA
  have EA := hid eA
  clear hwA bA eA
  go_wp2_with (first | (refine wpl_loadw rfl 24 _ rfl rfl BA.out agg_polW rfl ?_))
  refine (HWD.out wA EA.out).mono ?_
  rintro e w1 ⟨v, xs, rfl, hnz, hz, e1⟩
  have E1 := hid (EA.out.ext e1)
  by_cases h0 : E = 0
  · subst h0
    obtain ⟨hA, hP⟩ := hz rfl
    have AI : Hid (AsksI w1 w.heap.size v xs) := hid ⟨own_monoW hA.row EA.out.size, hA.own⟩
    have HP := hid hP
    have hxl : 0 < xs.length := by
      cases xs with
      | nil => rw [List.map_nil] at hP; exact absurd hP.symm (worldP_pos rs)
      | cons x xs => simp
    rcases AI.out.row.2 with ⟨_, hn0⟩ | ⟨g, cap, cur, rfl, hgB, hg, hncap, hcm, hcs, htk⟩
    · omega
    have hx63 : xs.length ≤ 9223372036854775807 := by unfold maxLen at hcm; omega
    clear hA hP hnz hz e1 BA EA HWD htk hcs hcm
    have HT := hid elem_ask
    go_wp2
    go_loopw [17] (fun i wr => ∃ (k : Nat) (ys : List AskR), k ≤ xs.length ∧ i = .int .i64 (k : Int) ∧ ys.length = k ∧ ys.map AskR.p = (xs.take k).map AskR.p ∧ AsksI wr w.heap.size (.slice (some ⟨g, 0, none⟩) xs.length cap) (ys ++ xs.drop k) ∧ Ext w wr) (fun i _ => xs.length - (intOf i).toNat)
    case atStart => exact ⟨0, [], by omega, rfl, rfl, rfl, by simpa using AI.out, E1.out⟩
    case round =>
      obtain ⟨k, ys, hk, rfl, hyl, hyp, hinv, e1⟩ := hrel
      have E1 := hid e1
      have INV := hid hinv
      have HYP := hid hyp
      clear e1 hinv hyp AI
      by_cases hlt : k < xs.length
      · obtain ⟨x, hxk⟩ : ∃ x, xs[k]? = some x := ⟨xs[k]'hlt, by simp⟩
        have hdr := drop_cons hxk
        have INV2 := hid (hdr ▸ INV.out)
        have hyo : ∀ y ∈ ys, y.Own wr := fun y hy => INV.out.own y (by simp [hy])
        have hxo : x.Own wr := INV2.out.own x (by simp)
        have HYO := hid hyo
        have HXO := hid hxo
        obtain ⟨hc1, hc2, hc3, hc4⟩ := hxo.cells
        have hll : (ys ++ x :: xs.drop (k + 1)).length = xs.length := by rw [← hdr, List.length_append, List.length_drop]; omega
        have hrow : wr.ownsRow w.heap.size 40 68 (.slice (some ⟨g, 0, none⟩) xs.length cap) xs.length (asksV (ys ++ x :: xs.drop (k + 1))) := by
          have := INV2.out.row
          rwa [hll] at this
        have hcell : wr.cell? ⟨g, k * 68 + 16, none⟩ = some (.slice x.sa x.sn x.sc) := by
          rw [hrow.cellAt (k * 68 + 16) (by omega)]
          exact asksV_at16 hyo hxo hyl
        have HROW := hid hrow
        have hadd : (⟨g, 0, none⟩ : Addr).add (k * 68) = ⟨g, k * 68, none⟩ := by rw [addr_add, Nat.zero_add]
        have HCL := hid (cloneStr_c (x.roles.map encStr) x.sa x.sn x.sc wr (by rw [List.length_map]; exact hc1) (by have := hxo.sm; omega) hc2 hc3 (by intro v hv; obtain ⟨s, _, rfl⟩ := List.mem_map.1 hv; rfl) hc4)
        clear hdr hyo hxo hc1 hc2 hc3 hc4 hll hrow
        go_wp2_with (refine wpl_run rfl (exec_indexW hadd rfl rfl rfl Tryz.underlying26 size_ask hlt _) ?_)
        refine HCL.out.mono ?_
        rintro e w2 ⟨v2, rfl, ho2, e2⟩
        obtain ⟨a2, c2, rfl, hx1, hx2, hx3⟩ := own_cellsA ho2
        clear hx1 hx2 hx3
        have ROW2 := hid (own_beside HROW.out (ext_grown e2 none) (fun g _ => by simp))
        have O2 := hid ho2
        have E2 := hid (E1.out.ext e2)
        have hcell2 : w2.cell? ⟨g, k * 68 + 16, none⟩ = some (.slice x.sa x.sn x.sc) := by
          rw [ROW2.out.cellAt (k * 68 + 16) (by omega)]
          exact asksV_at16 HYO.out HXO.out hyl
        have hfz := ROW2.out.frozenAt (k * 68 + 16)
        have e12 := hid e2
        clear ho2 e2 HCL HROW
        go_wp2_with (refine wpl_run rfl (exec_indexW hadd rfl rfl rfl Tryz.underlying26 size_ask hlt _) ?_)
        generalize hwX : World.setCell w2 _ _ = wX
        obtain ⟨hrX, hgX⟩ := ROW2.out.stored (k * 68 + 16) (.slice a2 x.sn c2)
        rw [hwX] at hrX hgX
        rw [asksV_set HYO.out HXO.out hyl] at hrX
        have hl9 : ((ys ++ [x.move a2 c2]) ++ xs.drop (k + 1)).length = xs.length := by
          rw [List.length_append, List.length_append, List.length_drop, List.length_singleton]; omega
        have hown : ∀ y ∈ (ys ++ [x.move a2 c2]) ++ xs.drop (k + 1), y.Own wX := by
          intro y hy
          have hb : (y : AskR).Own w2 → y.Own wX := fun h => h.beside ROW2.out hgX
          rcases List.mem_append.1 hy with hy | hy
          · rcases List.mem_append.1 hy with hy | hy
            · exact hb ((HYO.out y hy).ext e12.out)
            · rw [List.mem_singleton] at hy
              subst hy
              have hx := HXO.out
              exact hb ⟨hx.ha, hx.hk, hx.hd, ⟨_, O2.out⟩, hx.sm, hx.ss, hx.ls⟩
          · exact hb ((INV2.out.own y (by simp [hy])).ext e12.out)
        have INVX : Hid (AsksI wX w.heap.size (.slice (some ⟨g, 0, none⟩) xs.length cap) ((ys ++ [x.move a2 c2]) ++ xs.drop (k + 1))) := hid ⟨by rw [hl9]; exact hrX, hown⟩
        have EX := hid (E2.out.grown hgX (fun q hq => by cases hq; exact hgB))
        have HYX : Hid ((ys ++ [x.move a2 c2]).map AskR.p = (xs.take (k + 1)).map AskR.p) := hid (by
          rw [List.map_append, HYP.out, List.take_add_one, hxk, List.map_append]
          rfl)
        have hyl2 : (ys ++ [x.move a2 c2]).length = k + 1 := by rw [List.length_append, hyl]; rfl
        clear hrX hgX hown hl9 hwX ROW2 O2 E2 e12 hcell hcell2 hfz INV INV2 HYO HXO HYP E1 hadd hxk
        go_wp2
        go_roundw
        case rel => exact ⟨k + 1, _, by omega, by go_num, hyl2, HYX.out, INVX.out, EX.out⟩
        case measure => simp [intOf]; omega
      · obtain rfl : k = xs.length := by omega
        have hq := HYP.out
        rw [List.take_length, HP.out] at hq
        have HQ := hid hq
        have INVX : Hid (AsksI wr w.heap.size (.slice (some ⟨g, 0, none⟩) xs.length cap) ys) := hid (by
          have := INV.out
          rwa [List.drop_length, List.append_nil] at this)
        clear hq HYP INV
        go_wp2
        go_ret2
        first | exact ⟨_, rfl, ⟨_, INVX.out, HQ.out⟩, E1.out⟩ | exact ⟨rfl, ⟨_, INVX.out, HQ.out⟩, E1.out⟩ | exact ⟨⟨_, INVX.out, HQ.out⟩, E1.out⟩
  · have hv := hnz h0
    subst hv
    have d0 : decide (E = 0) = false := decide_eq_false h0
    clear hnz hz e1 BA EA HWD
    go_wp2
    go_ret2
    exact ⟨_, [], rfl, fun _ => rfl, fun h => absurd h h0, E1.out⟩
end

section
open Go Go.RowKit Go.Maps Go.MapKept Go.WideShapes

section
variable {P : Program} {t e : TypeId} {z y : Nat}
theorem append_noneC (T : ElemT P t e z y) (ty : TypeId) (w : World) (B : Nat) (c : Nat) {v : Value} {n : Nat} {xs : List Value} (hown : w.ownsRow B e z v n xs) :
    (Builtin.append_ #[t, t] ty #[v, .slice none 0 c]).run P w = .ok v w := by
  obtain ⟨i0, z0, hi, hz, hsz, hb1, hzs⟩ := T.info
  rcases hown.2 with ⟨rfl, rfl⟩ | ⟨g, cap, cur, rfl, _, _, hnc, _⟩
  · simp [Builtin.append_, run_underlying T.hu, sizeOf, typeInfo, hi, Builtin.lenOf, Builtin.firstCells]
  · simp [Builtin.append_, run_underlying T.hu, sizeOf, typeInfo, hi, Builtin.lenOf, Builtin.firstCells, hnc, storeCells]
variable {ops : Array Oper} {rest : List Oper} {o : Oper} {a : Act} {w : World} {Q : Exit → Act → World → Prop}
theorem wpl_appendN (T : ElemT P t e z y) (hgd : o.guard = none) (s x : Operand) (ho : o.op = .call { callee := .builtin .append, args := #[s, x], argTypes := #[t, t] }) (B : Nat) {v : Value} {n m c : Nat} {xs news : List Value} {ad : Option Addr}
    (hs : a.eval s = v) (hx : a.eval x = .slice ad m c) (hown : w.ownsRow B e z v n xs) (hl : news.length = m * z) (hc : Cells w ad news) (h1 : ∀ u ∈ news, u.oneCell' = true)
    (h63 : n + m ≤ 140737488355328) (hb : (n + m) * y ≤ 140737488355328) (hbase : B ≤ w.heap.size)
    (h : ∀ v' w', w'.ownsRow B e z v' (n + m) (xs ++ news) → w.grownBy w' v.ownBlock → (v'.ownBlock = v.ownBlock ∨ v'.ownBlock = some w.heap.size) → wpList P ops Q rest (a.put o.dst v') w') : wpList P ops Q (o :: rest) a w := by
  cases ad with
  | some ad =>
    obtain ⟨v', w', hr, h1', h2, h3⟩ := append_any T o.type w B hown hl (news_cells hc) h1 h63 hb hbase
    exact wpList_plain hgd fun K hK => Lib.wp_append_run w s x _ _ ho v _ hs hx v' w' hr (hK _ _ (h v' w' h1' h2 h3))
  | none =>
    have hn : news = [] := by
      rcases hc with h | ⟨_, _, h, _⟩
      · exact h
      · cases h
    subst hn
    have hm : m = 0 := by
      have := T.pos
      rcases Nat.eq_zero_or_pos m with h | h
      · exact h
      · have := Nat.mul_pos h this
        simp at hl
        omega
    subst hm
    exact wpList_plain hgd fun K hK => Lib.wp_append_run w s x _ _ ho v _ hs hx v w (append_noneC T o.type w B c hown) (hK _ _ (h v w (by simpa using hown) ⟨rfl, rfl, rfl, Nat.le_refl _, fun _ _ _ => rfl⟩ (.inl rfl)))
end
theorem elem_int : ElemT Tryz.prog 48 3 1 8 := elem_intB
/-- three rows under way: two of strings, one of ints -/
structure RInvW (w : World) (B : Nat) (v4 : Value) (l4 : List (List UInt8)) (v5 : Value) (l5 : List (List UInt8)) (v6 : Value) (l6 : List Int) : Prop where
  r4 : w.ownsRow B 9 1 v4 l4.length (l4.map sv)
  r5 : w.ownsRow B 9 1 v5 l5.length (l5.map sv)
  r6 : w.ownsRow B 3 1 v6 l6.length (l6.map iv)
  ap : Apart v4 v5
section
variable {w w' w0 : World} {B m : Nat} {v4 v5 v6 v' : Value} {l4 l5 news : List (List UInt8)} {l6 zs : List Int}
theorem own_extW {e : TypeId} {z n B : Nat} {v : Value} {xs : List Value} (h : w.ownsRow B e z v n xs) (k : Ext w w') : w'.ownsRow B e z v n xs := own_beside h (ext_grown k none) (fun g _ => by simp)
theorem RInvW.ext (h : RInvW w B v4 l4 v5 l5 v6 l6) (e : Ext w w') : RInvW w' B v4 l4 v5 l5 v6 l6 := ⟨own_extW h.r4 e, own_extW h.r5 e, own_extW h.r6 e, h.ap⟩
theorem RInvW.push4 (h : RInvW w B v4 l4 v5 l5 v6 l6) (hm : news.length = m) (ho : w'.ownsRow B 9 1 v' (l4.length + m) (l4.map sv ++ news.map sv)) (hg : w.grownBy w' v4.ownBlock) (hb : v'.ownBlock = v4.ownBlock ∨ v'.ownBlock = some w.heap.size) :
    RInvW w' B v' (l4 ++ news) v5 l5 v6 l6 :=
  ⟨by rw [List.map_append, List.length_append, hm]; exact ho, Apart.keep h.ap h.r5 hg, Apart.keep (Apart.of_ty h.r4 h.r6 (by decide)) h.r6 hg, Apart.append h.ap h.r5 hb⟩
theorem RInvW.push5 (h : RInvW w B v4 l4 v5 l5 v6 l6) (hm : news.length = m) (ho : w'.ownsRow B 9 1 v' (l5.length + m) (l5.map sv ++ news.map sv)) (hg : w.grownBy w' v5.ownBlock) (hb : v'.ownBlock = v5.ownBlock ∨ v'.ownBlock = some w.heap.size) :
    RInvW w' B v4 l4 v' (l5 ++ news) v6 l6 :=
  ⟨Apart.keep h.ap.symm h.r4 hg, by rw [List.map_append, List.length_append, hm]; exact ho, Apart.keep (Apart.of_ty h.r5 h.r6 (by decide)) h.r6 hg, (Apart.append h.ap.symm h.r4 hb).symm⟩
theorem RInvW.push6 (h : RInvW w B v4 l4 v5 l5 v6 l6) (hm : zs.length = m) (ho : w'.ownsRow B 3 1 v' (l6.length + m) (l6.map iv ++ zs.map iv)) (hg : w.grownBy w' v6.ownBlock) :
    RInvW w' B v4 l4 v5 l5 v' (l6 ++ zs) :=
  ⟨Apart.keep (Apart.of_ty h.r6 h.r4 (by decide)) h.r4 hg, Apart.keep (Apart.of_ty h.r6 h.r5 (by decide)) h.r5 hg, by rw [List.map_append, List.length_append, hm]; exact ho, h.ap⟩
theorem RInvW.ext4 (h : RInvW w B v4 l4 v5 l5 v6 l6) (e : Ext w0 w) (hB : w0.heap.size ≤ B) (hg : w.grownBy w' v4.ownBlock) : Ext w0 w' := e.grown hg (fun q hq => Nat.le_trans hB (h.r4.lt q hq).1)
theorem RInvW.ext5 (h : RInvW w B v4 l4 v5 l5 v6 l6) (e : Ext w0 w) (hB : w0.heap.size ≤ B) (hg : w.grownBy w' v5.ownBlock) : Ext w0 w' := e.grown hg (fun q hq => Nat.le_trans hB (h.r5.lt q hq).1)
theorem RInvW.ext6 (h : RInvW w B v4 l4 v5 l5 v6 l6) (e : Ext w0 w) (hB : w0.heap.size ≤ B) (hg : w.grownBy w' v6.ownBlock) : Ext w0 w' := e.grown hg (fun q hq => Nat.le_trans hB (h.r6.lt q hq).1)
end
end

section
open Go Go.RowKit

theorem info_rule : (Tryz.prog.info? 50).map (fun i => (i.zero, i.size, i.bytes)) = some (some (.agg zeroRule.toArray), 8, 120) := by kernel_rfl

set_option maxRecDepth 100000 in
set_option maxHeartbeats 1000000 in
theorem growR_c (n : Nat) (w : World) (hn : n ≤ 1000) :
    Calls Tryz.prog 38 #[.slice none 0 0, .int .i64 n] w fun e w' => ∃ v, e = .returned v ∧ w'.ownsRow w.heap.size 50 8 v 0 [] ∧ Ext w w' := by
  by_cases h0 : n = 0
  · subst h0
    go_enter Tryz.func38, Tryz.ntmps38
    go_wp2
    go_ret
    exact ⟨_, rfl, World.ownsRow_nil _ _ _ _, Ext.refl _⟩
  · have h1 : ¬ ((n : Int) < 0) := by omega
    have h3 : IntKind.i64.wrap (n : Int) = (n : Int) := IntWalk.i64_in _ (by omega)
    have h4 : decide ((0 : Int) < (n : Int)) = true := decide_eq_true (by omega)
    obtain ⟨i0, hi, hz, hs, hb⟩ := info_parts info_rule
    obtain ⟨G, hG⟩ : ∃ G, G = grownCap w n 0 50 := ⟨_, rfl⟩
    have hGn : n ≤ G := by rw [hG]; exact grownCap_ge w _ _ _
    have hG63 : G ≤ maxLen := by rw [hG]; exact grownCap_le_maxLen w n 0 50 (by unfold maxLen; omega)
    have hrz : ∀ ty, (Builtin.append_ #[22, 3] ty #[.slice none 0 0, .int .i64 (n : Int)]).run Tryz.prog w =
        .ok (.slice (some ⟨w.heap.size, 0, none⟩) n G) (w.drew.alloc (.cells (#[] ++ Builtin.zeroCells (Value.agg zeroRule.toArray).cells n ++ Builtin.zeroCells (Value.agg zeroRule.toArray).cells (G - n)) 50)) := fun ty => by
      have h := Lib.run_append_grow_zeros w 22 3 ty 50 i0 (.agg zeroRule.toArray) .i64 .i64 Tryz.underlying22 Tryz.underlying3 hi hz none 0 0 [] (by rw [hs]; exact run_firstCells_none w.drew 8 0 0 0) n (by omega) (by omega) (by omega) (by omega) (by rw [hb]; omega)
        (by exact growslice_fits (by omega) (by rw [hb]; omega))
      rw [Nat.zero_add, ← hG] at h
      exact h
    have hsz : (#[] ++ Builtin.zeroCells (Value.agg zeroRule.toArray).cells n ++ Builtin.zeroCells (Value.agg zeroRule.toArray).cells (G - n)).size = G * 8 := by
      have h1 : (Value.agg zeroRule.toArray).cells.size = 8 := rfl
      simp [Builtin.zeroCells, h1]
      omega
    have hown : ∀ cs : Array Value, cs.size = G * 8 → (w.drew.alloc (.cells cs 50)).ownsRow w.heap.size 50 8 (.slice (some ⟨w.heap.size, 0, none⟩) 0 G) 0 [] := fun cs hc => World.ownsRow_made w.drew cs G (Nat.le_refl _) hG63 hc
    generalize hcs : (#[] ++ Builtin.zeroCells (Value.agg zeroRule.toArray).cells n ++ Builtin.zeroCells (Value.agg zeroRule.toArray).cells (G - n)) = cs at *
    clear hG hcs
    unfold maxLen at hG63
    go_enter Tryz.func38, Tryz.ntmps38
    go_wp2_with (at_builtin; refine Lib.wpList_append_run _ rfl _ _ _ _ rfl _ _ rfl rfl _ _ (hrz _) ?_)
    all_goals (go_ret; exact ⟨_, rfl, hown cs hsz, (Ext.refl w).drew.alloc _⟩)

/-- a list of slices of rules: address, capacity, rules -/
abbrev RItem := Option Addr × Nat × List RuleR
def catR (its : List RItem) : List RuleR := (its.map (·.2.2)).flatten
def itemR (it : RItem) : Value := .slice it.1 it.2.2.length it.2.1
theorem catR_succ {its : List RItem} {k : Nat} {it : RItem} (h : its[k]? = some it) : catR (its.take (k + 1)) = catR (its.take k) ++ it.2.2 := by
  unfold catR
  rw [List.take_add_one, h]; simp
theorem catR_le (its : List RItem) (k : Nat) : (catR (its.take k)).length ≤ (catR its).length := by
  have h2 : catR its = catR (its.take k) ++ catR (its.drop k) := by
    unfold catR
    rw [← List.flatten_append, ← List.map_append, List.take_append_drop]
  rw [h2, List.length_append]
  omega
theorem rulesV_append (xs ys : List RuleR) : rulesV (xs ++ ys) = rulesV xs ++ rulesV ys := by unfold rulesV; rw [List.flatMap_append]
theorem rulesV_one (rs : List RuleR) : ∀ v ∈ rulesV rs, v.oneCell' = true := by
  intro v hv
  unfold rulesV at hv
  obtain ⟨r, _, h⟩ := List.mem_flatMap.1 hv
  exact ruleV_one r v h

set_option maxRecDepth 100000 in
set_option maxHeartbeats 1000000 in
theorem concatR_c (its : List RItem) (g nn cap : Nat) (w : World) (hnn : its.length = nn) (hnn2 : nn ≤ 140737488355328) (hcap : nn ≤ cap) (hg : ∀ (i : Nat) it, its[i]? = some it → w.cell? ⟨g, i, none⟩ = some (itemR it))
    (hc : ∀ it ∈ its, Cells w it.1 (rulesV it.2.2)) (hn0 : ∀ it ∈ its, it.1 = none → it.2.1 = 0) (hlen : (catR its).length ≤ 1000) :
    Calls Tryz.prog 14 #[.slice (some ⟨g, 0, none⟩) nn cap] w fun e w' => ∃ v, e = .returned v ∧ w'.ownsRow w.heap.size 50 8 v (catR its).length (rulesV (catR its)) ∧ Ext w w' := by
  have HNN := hid hnn
  have HG := hid hg
  have HC := hid hc
  have HN0 := hid hn0
  have HL := hid hlen
  obtain ⟨i0, hi, hz, hs, hb1⟩ := info_parts info_rule
  clear hg hc hn0 hlen hnn
  go_enter Tryz.func14, Tryz.ntmps14
  go_wp2
  go_loopw [3, 11] (fun s i wr => ∃ k : Nat, k ≤ nn ∧ s = .int .i64 ((catR (its.take k)).length : Nat) ∧ i = .int .i64 k ∧ wr = w)
    (fun _ i _ => nn - (intOf i).toNat)
  case atStart => exact ⟨0, by omega, by simp [catR], rfl, rfl⟩
  case round =>
    obtain ⟨k, hk, rfl, rfl, hwr⟩ := hrel
    subst wr
    by_cases hlt : k < nn
    · obtain ⟨it, hit⟩ : ∃ it, its[k]? = some it := ⟨its[k]'(by rw [HNN.out]; exact hlt), by simp⟩
      have c1 := HG.out k it hit
      unfold itemR at c1
      have hcs := catR_succ hit
      have hcl := catR_le its (k + 1)
      rw [hcs] at hcl
      have hcl2 := HL.out
      rw [List.length_append] at hcl
      obtain ⟨m, hm⟩ : ∃ m, (catR (its.take k)).length = m := ⟨_, rfl⟩
      obtain ⟨q, hq⟩ : ∃ q, it.2.2.length = q := ⟨_, rfl⟩
      have hsum : (catR (its.take (k + 1))).length = m + q := by rw [hcs, List.length_append, hm, hq]
      rw [hm, hq] at hcl
      rw [hq] at c1
      rw [hm]
      have h3 : IntKind.i64.wrap ((m : Int) + (q : Int)) = (m : Int) + (q : Int) := IntWalk.i64_in _ (by omega)
      have h4 : decide ((m : Int) + (q : Int) < 0) = false := decide_eq_false (by omega)
      have HS := hid hsum
      clear hsum hcs hcl hcl2 hm hq hit
      go_wp2
      go_roundw
      case rel => exact ⟨k + 1, by omega, by rw [HS.out]; go_num, by go_num, by simp⟩
      case measure => simp [intOf]; omega
    · have hkn : k = nn := by omega
      subst k
      have htk : its.take nn = its := List.take_of_length_le (by rw [HNN.out]; omega)
      rw [htk]
      have hl := HL.out
      obtain ⟨N, hN⟩ : ∃ N, (catR its).length = N := ⟨_, rfl⟩
      have HNL := hid hN
      rw [hN] at hl ⊢
      clear htk hN
      go_wp2_with fail
      refine (growR_c N _ hl).mono ?_
      rintro e w1 ⟨v, rfl, own, e1⟩
      go_wp2
      go_loopw [6, 27] (fun v i wr => ∃ k : Nat, k ≤ nn ∧ i = .int .i64 k ∧ wr.ownsRow w.heap.size 50 8 v (catR (its.take k)).length (rulesV (catR (its.take k))) ∧ Ext w wr)
        (fun _ i _ => nn - (intOf i).toNat)
      case atStart => exact ⟨0, by omega, rfl, by simpa [catR, rulesV] using own, e1⟩
      case round =>
        obtain ⟨k, hk, rfl, own2, e2⟩ := hrel
        by_cases hlt : k < nn
        · obtain ⟨it, hit⟩ : ∃ it, its[k]? = some it := ⟨its[k]'(by rw [HNN.out]; exact hlt), by simp⟩
          have c1 := HG.out k it hit
          have hb := block_lt_of_cell c1
          rw [← e2.cell (p := ⟨g, k, none⟩) hb] at c1
          have hcs := catR_succ hit
          have hcl := catR_le its (k + 1)
          rw [hcs, HNL.out, List.length_append] at hcl
          have hci := (HC.out it (List.mem_of_getElem? hit)).ext e2
          have hn0 := HN0.out it (List.mem_of_getElem? hit)
          unfold itemR at c1
          obtain ⟨x, c, li⟩ := it
          obtain ⟨q, hq⟩ : ∃ q, li.length = q := ⟨_, rfl⟩
          obtain ⟨m, hm⟩ : ∃ m, (catR (its.take k)).length = m := ⟨_, rfl⟩
          simp only at c1 hcs hcl hci hn0
          rw [hq] at c1
          rw [hm, hq] at hcl
          rw [hm] at own2
          have HCS := hid hcs
          have HQ := hid hq
          have HM := hid hm
          clear hcs hq hm hit hb
          cases x with
          | none =>
            have hli : li = [] := by
              rcases hci with h | ⟨_, _, h, _⟩
              · have h2 := congrArg List.length h
                rw [rulesV_length] at h2
                have h3 : 8 * li.length = 0 := h2
                exact List.length_eq_zero_iff.1 (by omega)
              · cases h
            have hc0 : c = 0 := hn0 rfl
            have hq0 : q = 0 := by rw [← HQ.out, hli]; rfl
            subst hc0
            subst hq0
            have hcs2 := HCS.out
            rw [hli, List.append_nil] at hcs2
            have HCS2 := hid hcs2
            clear hcs2 hli HCS
            go_wp2_with (at_builtin; refine wpList_append_own_none rfl _ _ 22 rfl w.heap.size 50 i0 8 Tryz.underlying22 hi _ _ _ rfl own2 rfl ?_)
            go_wp2
            go_roundw
            case rel => exact ⟨k + 1, by omega, by go_num, by rw [HCS2.out, HM.out]; exact own2, e2⟩
            case measure => simp [intOf]; omega
          | some ad =>
            go_wp2_with (at_builtin; refine wpList_append_own _ rfl _ _ 22 rfl w.heap.size 50 i0 (.agg zeroRule.toArray) 8 120 Tryz.underlying22 hi hz hs hb1 rfl (by decide) _ _ _ rfl own2 ad q c (rulesV li) rfl ?qc1 (news_cells hci) (rulesV_one _) ?qc4 ?qc5 e2.size ?_)
            case qc1 => rw [rulesV_length, HQ.out, Nat.mul_comm]
            case qc4 => unfold maxLen; omega
            case qc5 => omega
            intro v2 w2 own3 gr _
            have e3 : Ext w w2 := e2.grown gr (fun g' h => (own2.lt g' h).1)
            rw [← rulesV_append] at own3
            have hlen3 : (catR (its.take (k + 1))).length = m + q := by rw [HCS.out, List.length_append, HM.out, HQ.out]
            have HL3 := hid hlen3
            clear own2 gr e2 c1 hci hlen3
            go_wp2
            go_roundw
            case rel => exact ⟨k + 1, by omega, by go_num, by rw [HL3.out, HCS.out]; exact own3, e3⟩
            case measure => simp [intOf]; omega
        · have hkn : k = nn := by omega
          subst k
          rw [List.take_of_length_le (by rw [HNN.out]; omega), HNL.out] at own2
          go_wp2
          go_ret
          exact ⟨_, rfl, by rw [HNL.out]; exact own2, e2⟩
end

section
open Go Go.RowKit

theorem no_deny {a : AskR} {rs : List RuleR} {k : Nat} {r : RuleR} (h : rs[k]? = some r) (hp : ∀ x ∈ rs.take k, ¬ (meetsB x a = true ∧ x.deny = true)) (hr : ¬ (meetsB r a = true ∧ r.deny = true)) : ∀ x ∈ rs.take (k + 1), ¬ (meetsB x a = true ∧ x.deny = true) := by
  intro x hx
  rw [List.take_add_one, h, List.mem_append] at hx
  rcases hx with hx | hx
  · exact hp x hx
  · simp at hx; rw [hx]; exact hr

set_option maxRecDepth 100000 in
set_option maxHeartbeats 4000000 in
theorem rdecideT_c (pa : Option Addr) (pn pc : Nat) (rs : List RuleR) (a : AskR) (T : Nat) (w : World) (hp : PolOk w pa pn pc rs) (ha : a.Ok w) (hv : ∀ r ∈ rs, ruleE r = 0) (hT : a.time = (T : Int)) (hTb : T ≤ 1099511627776) :
    Calls Tryz.prog 15 #[.agg #[.slice pa pn pc], .agg a.v.toArray] w fun e w' => e = .returned (.agg (decideD a rs).v.toArray) ∧ Ext w w' := by
  have hme := hid (fun r w' h1 h2 (h3 : ruleE r = 0) => rmeets_c r a T w' h1 h2 hT hTb (ruleE_labels h3) (ruleE_hours h3))
  have HPO := hid hp
  have hn63 : pn ≤ 140737488355328 := by have := hp.hnc; have := hp.hm; omega
  have HLEN := hid (AskR.len ha)
  have HAO := hid ha
  have HVAL := hid hv
  clear hp ha hT hTb hv
  obtain ⟨D, hD⟩ : ∃ D, decideD a rs = D := ⟨_, rfl⟩
  have HD := hid hD
  rw [hD]
  clear hD
  go_enter Tryz.func15, Tryz.ntmps15
  go_upto_region 1 with (fail)
  generalize hwA : World.alloc (World.alloc (World.alloc w _) _) _ = wA
  have bA : Blk wA w.heap.size [.slice pa pn pc] 24 := by rw [← hwA]; exact ((Blk.mk_alloc rfl rfl).alloc _).alloc _
  have gA : Blk wA (w.heap.size + 1) a.v 40 := by rw [← hwA]; exact (Blk.mk_alloc (by simp) rfl).alloc _
  have zA : Blk wA (w.heap.size + 2) zeroDec.v 52 := by rw [← hwA]; exact Blk.mk_alloc (by simp) rfl
  have eA : Ext w wA := by rw [← hwA]; exact (((Ext.refl w).alloc _).alloc _).alloc _
  have BA := hid bA
  have GA := hid gA
  have ZA := hid zA
  have EA := hid eA
  have hgA : w.heap.size + 2 < wA.heap.size := zA.lt
  clear hwA bA gA zA eA
  go_wp2_with (refine wpl_storew rfl _ (.tmp 5) _ rfl rfl rfl (Blk.mk_alloc (vs := zeroDec.v) rfl rfl) agg_dec rfl (DecR.len noneDec) (decV_one noneDec) ?_)
  intro wB bB uB
  have eB : Ext wA wB := uB.ext ((Ext.refl wA).alloc _) (Nat.le_refl _)
  have NB := hid (show Blk wB wA.heap.size noneDec.v 52 from bB)
  clear uB bB
  have BB := hid (BA.out.ext eB)
  have GB := hid (GA.out.ext eB)
  have ZB := hid (ZA.out.ext eB)
  have EB := hid (EA.out.ext eB)
  clear eB BA GA ZA EA
  have PB := hid (HPO.out.ext EB.out)
  have QB := hid (HAO.out.ext EB.out)
  have c0 := BB.out.cell' (i := 0) rfl
  have hgb : w.heap.size + 2 < wA.heap.size := hgA
  generalize wA.heap.size = g5 at *
  go_wp2
  go_loopw [14] (fun i wr => ∃ k : Nat, k ≤ pn ∧ i = .int .i64 (k : Int) ∧ (∀ x ∈ rs.take k, ¬ (meetsB x a = true ∧ x.deny = true)) ∧ Ext wB wr) (fun i _ => pn - (intOf i).toNat)
  case atStart => exact ⟨0, by omega, rfl, by simp, Ext.refl _⟩
  case round =>
    obtain ⟨k, hk, rfl, hpre, e1⟩ := hrel
    have E1 := hid e1
    have HPR := hid hpre
    clear e1 hpre
    by_cases hlt : k < pn
    · obtain ⟨r, hrk⟩ : ∃ r, rs[k]? = some r := ⟨rs[k]'(by rw [PB.out.hl]; exact hlt), by simp⟩
      obtain ⟨A, rfl, hca⟩ := (PB.out.ext E1.out).at hrk
      have HCA := hid hca
      have HOK := hid ((PB.out.ok r (List.mem_of_getElem? hrk)).ext E1.out)
      have hrv := hid (HVAL.out r (List.mem_of_getElem? hrk))
      have HRL := hid (RuleR.len r)
      have HRK := hid hrk
      clear hca hrk
      have hro := ruleV_one r
      go_wp2_with (first | (refine wpl_run rfl (exec_index (i := k) rfl rfl rfl Tryz.underlying22 size_rule hlt _) ?_) | (refine wpl_run rfl (exec_load_at rfl rfl HCA.out agg_rule HRL.out) ?_) | (refine wpl_storew rfl _ (.tmp 7) _ rfl rfl rfl (Blk.mk_alloc (vs := zeroRule) rfl rfl) agg_rule rfl HRL.out hro ?_))
      intro wC bC uC
      have eC : Ext wr wC := uC.ext ((Ext.refl wr).alloc _) (Nat.le_refl _)
      have BC := hid bC
      have EC := hid (E1.out.ext eC)
      have HOC := hid (HOK.out.ext eC)
      have GC := hid (GB.out.ext EC.out)
      have QC := hid (QB.out.ext EC.out)
      clear bC uC eC HOK
      generalize wr.heap.size = gr at *
      go_wp2_with (first | (refine wpl_loadw rfl 50 (.tmp 7) rfl rfl BC.out agg_rule HRL.out ?_) | (refine wpl_loadw rfl 40 (.tmp 3) rfl rfl GC.out agg_ask HLEN.out ?_))
      refine (hme.out r wC HOC.out QC.out hrv.out).mono ?_
      rintro e wD ⟨rfl, eD⟩
      have ED := hid (EC.out.ext eD)
      have BD := hid (BC.out.ext eD)
      clear eD BC EC HOC GC QC
      cases hm : meetsB r a with
      | false =>
        have HN := hid (no_deny HRK.out HPR.out (fun h => by rw [hm] at h; cases h.1))
        clear hm HPR HRK
        go_wp2
        go_roundw
        case rel => exact ⟨k + 1, by omega, by go_num, HN.out, ED.out⟩
        case measure => simp [intOf]; omega
      | true =>
      have c9 := BD.out.cell' (i := 0) rfl
      cases hd : r.deny with
      | true =>
        have hN := decF_first rs 0 k r none HRK.out HPR.out hm hd
        rw [Nat.zero_add] at hN
        have HN := hid (hN.symm.trans HD.out)
        have ZD := hid (ZB.out.ext ED.out)
        rw [hd] at c9
        clear hm HPR HRK hN
        go_wp2_with (refine wpl_storew rfl _ (.tmp 4) _ rfl rfl rfl ZD.out agg_dec rfl (DecR.len (denyDec k)) (decV_one (denyDec k)) ?_)
        intro wF bF uF
        have EF := hid (uF.ext (EB.out.ext ED.out) (by omega))
        go_wp2_with fail
        exact ret_row rfl rfl bF agg_dec rfl rfl ⟨by rw [← HN.out]; rfl, EF.out⟩
      | false =>
        have HN := hid (no_deny HRK.out HPR.out (fun h => by rw [hd] at h; cases h.2))
        rw [hd] at c9
        clear hm HPR HRK
        go_wp2
        go_roundw
        case rel => exact ⟨k + 1, by omega, by go_num, HN.out, ED.out⟩
        case measure => simp [intOf]; omega
    · obtain rfl : k = pn := by omega
      have hall := HPR.out
      rw [List.take_of_length_le (by rw [PB.out.hl]; exact Nat.le_refl _)] at hall
      have HALL := hid hall
      have c0' := (BB.out.ext E1.out).cell' (i := 0) rfl
      have NE := hid (NB.out.ext E1.out)
      have GE := hid (GB.out.ext E1.out)
      have ZE := hid (ZB.out.ext E1.out)
      have EE := hid (EB.out.ext E1.out)
      clear hall HPR c0 BB PB QB GB ZB NB
      have hpn : rs.length = k := HPO.out.hl
      generalize hkk : k = pn at *
      clear hkk hk hlt
      have HPN := hid hpn
      clear hpn
      go_wp2
      go_loopw [31] (fun i wr => ∃ (k : Nat) (best : Option (Nat × RuleR)), k ≤ pn ∧ i = .int .i64 (k : Int) ∧ decF a (rs.drop k) k best = D ∧ Blk wr g5 (bestDec best).v 52 ∧ Blk wr (w.heap.size + 1) a.v 40 ∧ Blk wr (w.heap.size + 2) zeroDec.v 52 ∧ Ext w wr) (fun i _ => pn - (intOf i).toNat)
      case atStart => exact ⟨0, none, by omega, rfl, by rw [List.drop_zero]; exact HD.out, NE.out, GE.out, ZE.out, EE.out⟩
      case round =>
        obtain ⟨k, best, hk, rfl, hdec, hnb, hgb2, hzb, e2⟩ := hrel
        have E2 := hid e2
        have HDC := hid hdec
        have NB := hid hnb
        have GB := hid hgb2
        have ZB := hid hzb
        clear e2 hdec hnb hgb2 hzb NE GE ZE EE E1 EB c0'
        by_cases hlt : k < pn
        · obtain ⟨r, hrk⟩ : ∃ r, rs[k]? = some r := ⟨rs[k]'(by rw [HPN.out]; exact hlt), by simp⟩
          obtain ⟨A, rfl, hca⟩ := (HPO.out.ext E2.out).at hrk
          have HCA := hid hca
          have HOK := hid ((HPO.out.ok r (List.mem_of_getElem? hrk)).ext E2.out)
          have hrv := hid (HVAL.out r (List.mem_of_getElem? hrk))
          have hnd := hid (HALL.out r (List.mem_of_getElem? hrk))
          have HRL := hid (RuleR.len r)
          have HRK := hid hrk
          clear hca hrk
          have hro := ruleV_one r
          go_wp2_with (first | (refine wpl_run rfl (exec_index (i := k) rfl rfl rfl Tryz.underlying22 size_rule hlt _) ?_) | (refine wpl_run rfl (exec_load_at rfl rfl HCA.out agg_rule HRL.out) ?_) | (refine wpl_storew rfl _ (.tmp 9) _ rfl rfl rfl (Blk.mk_alloc (vs := zeroRule) rfl rfl) agg_rule rfl HRL.out hro ?_))
          intro wC bC uC
          have eC : Ext wr wC := uC.ext ((Ext.refl wr).alloc _) (Nat.le_refl _)
          have BC := hid bC
          have EC := hid (E2.out.ext eC)
          have HOC := hid (HOK.out.ext eC)
          have NC := hid (NB.out.ext eC)
          have GC := hid (GB.out.ext eC)
          have ZC := hid (ZB.out.ext eC)
          have QC := hid (HAO.out.ext EC.out)
          clear bC uC eC HOK NB GB ZB E2
          generalize wr.heap.size = gr at *
          go_wp2_with (first | (refine wpl_loadw rfl 50 (.tmp 9) rfl rfl BC.out agg_rule HRL.out ?_) | (refine wpl_loadw rfl 40 (.tmp 3) rfl rfl GC.out agg_ask HLEN.out ?_))
          refine (hme.out r wC HOC.out QC.out hrv.out).mono ?_
          rintro e wD ⟨rfl, eD⟩
          have ED := hid (EC.out.ext eD)
          have BD := hid (BC.out.ext eD)
          have ND := hid (NC.out.ext eD)
          have GD := hid (GC.out.ext eD)
          have ZD := hid (ZC.out.ext eD)
          clear eD BC EC HOC NC GC ZC QC
          cases hm : meetsB r a with
          | false =>
            have HN := hid ((decF_no HRK.out hm).symm.trans HDC.out)
            clear hm HDC HRK
            go_wp2
            go_roundw
            case rel => exact ⟨k + 1, best, by omega, by go_num, HN.out, ND.out, GD.out, ZD.out, ED.out⟩
            case measure => simp [intOf]; omega
          | true =>
          have hd : r.deny = false := by
            cases h : r.deny with
            | false => rfl
            | true => exact absurd ⟨hm, h⟩ hnd.out
          have hN := (decF_yes HRK.out hm hd).symm.trans HDC.out
          have c6 := BD.out.cell' (i := 6) rfl
          have c7 := BD.out.cell' (i := 7) rfl
          have n1 := ND.out.cell' (i := 1) rfl
          have n2 := ND.out.cell' (i := 2) rfl
          have hg5 : w.heap.size ≤ g5 := by omega
          clear hm hd hnd HDC HRK
          have hstep : ∀ (bst : Option (Nat × RuleR)), betterB r best = true → (if betterB r best then some (k, r) else best) = some (k, r) := fun _ h => by rw [h]; rfl
          cases best with
          | none =>
            have HN := hid (show decF a (rs.drop (k + 1)) (k + 1) (some (k, r)) = D from hN)
            have m1 : (bestDec none).ru = -1 := rfl
            have m2 : decide ((bestDec none).ru < 0) = true := by rw [m1]; decide
            rw [m1] at n1
            clear hN hstep m1 m2
            go_wp2_with (refine wpl_storew rfl _ (.tmp 5) _ rfl rfl rfl ND.out agg_dec (DecR.len _) (DecR.len (bestDec (some (k, r)))) (decV_one (bestDec (some (k, r)))) ?_)
            intro wF bF uF
            have EF := hid (uF.ext ED.out hg5)
            have NF := hid bF
            have GF := hid (GD.out.upd uF (by omega))
            have ZF := hid (ZD.out.upd uF (by omega))
            clear bF uF ED ND GD ZD BD
            go_wp2_with fail
            go_roundw
            case rel => exact ⟨k + 1, some (k, r), by omega, by go_num, HN.out, NF.out, GF.out, ZF.out, EF.out⟩
            case measure => simp [intOf]; omega
          | some bq =>
            obtain ⟨b, q⟩ := bq
            have m1 : (bestDec (some (b, q))).ru = (b : Int) := rfl
            have m2 : (bestDec (some (b, q))).nd = q.nd := rfl
            rw [m1] at n1
            rw [m2] at n2
            have m3 : decide (((b : Nat) : Int) < 0) = false := decide_eq_false (by omega)
            by_cases hbt : r.nd < q.nd
            · have q1 : decide (r.nd < q.nd) = true := decide_eq_true hbt
              rw [show betterB r (some (b, q)) = true from q1, if_pos rfl] at hN
              have HN := hid hN
              clear hN hstep m1 m2
              go_wp2_with (refine wpl_storew rfl _ (.tmp 5) _ rfl rfl rfl ND.out agg_dec (DecR.len _) (DecR.len (bestDec (some (k, r)))) (decV_one (bestDec (some (k, r)))) ?_)
              intro wF bF uF
              have EF := hid (uF.ext ED.out hg5)
              have NF := hid bF
              have GF := hid (GD.out.upd uF (by omega))
              have ZF := hid (ZD.out.upd uF (by omega))
              clear bF uF ED ND GD ZD BD
              go_wp2_with fail
              go_roundw
              case rel => exact ⟨k + 1, some (k, r), by omega, by go_num, HN.out, NF.out, GF.out, ZF.out, EF.out⟩
              case measure => simp [intOf]; omega
            · have q1 : decide (r.nd < q.nd) = false := decide_eq_false hbt
              rw [show betterB r (some (b, q)) = false from q1] at hN
              simp only [Bool.false_eq_true, if_false] at hN
              have HN := hid hN
              clear hN hstep m1 m2
              go_wp2
              go_roundw
              case rel => exact ⟨k + 1, some (b, q), by omega, by go_num, HN.out, ND.out, GD.out, ZD.out, ED.out⟩
              case measure => simp [intOf]; omega
        · obtain rfl : k = pn := by omega
          have HN := hid ((decF_end (by rw [HPN.out]; exact Nat.le_refl _)).symm.trans HDC.out)
          have HBL := hid (DecR.len (bestDec best))
          clear HDC
          generalize bestDec best = bd at *
          go_wp2_with (first | (refine wpl_loadw rfl 52 (.tmp 5) rfl rfl NB.out agg_dec HBL.out ?_) | (refine wpl_storew rfl _ (.tmp 4) _ rfl rfl rfl ZB.out agg_dec rfl HBL.out (decV_one bd) ?_))
          intro wF bF uF
          have EF := hid (uF.ext E2.out (by omega))
          go_wp2_with fail
          exact ret_row rfl rfl bF agg_dec HBL.out rfl ⟨by rw [← HN.out], EF.out⟩
theorem rdecide_c (pa : Option Addr) (pn pc : Nat) (rs : List RuleR) (a : AskR) (w : World) (hp : PolOk w pa pn pc rs) (ha : a.Ok w) (hv : ∀ r ∈ rs, ruleE r = 0) (h0 : askE a = 0) :
    Calls Tryz.prog 15 #[.agg #[.slice pa pn pc], .agg a.v.toArray] w fun e w' => e = .returned (.agg (decideD a rs).v.toArray) ∧ Ext w w' := by
  obtain ⟨T, hT, hTb⟩ := askE_time h0
  exact rdecideT_c pa pn pc rs a T w hp ha hv hT hTb
end
end Go.Proofs.YthfddfgncolnbaaGreat
