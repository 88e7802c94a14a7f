/- Contracts and laws that the claim's row leans on (10 texts, joined): keyref1.split: entries divided by a bit; two rows of one's own side by side; conditions: the sizes. What keyref1.MapRoot computes, plain; of two entries; conditions: the keys part below the depth. tree.Changed; conditions: the lengths. tree.Changed where nothing was; conditions: the lengths. Entries of a map, built of two rows; a slice of two entries; no condition. keyref1.Changed, but where nothing was; conditions: the lengths. keyref1.Changed where nothing was; conditions: the lengths. The law RawMapProofs, walked; conditions: the lengths. Readings of slices of rows of 32 octets, and of a struct of two ints and such a slice, are opened; no condition. A reading of a struct of 32 octets and a slice of rows is opened; no condition. -/
import Derived.Test.YtfiigjdiohmkmaaJ5
import Derived.Deep.Strs
namespace Go.Proofs.Ytfiigjdiohmkmaa
section
open Go Go.RowKit

theorem append_rowblk (w : World) (B : Nat) (t e ty : TypeId) {i0 : TypeInfo} {z0 : Value} {z : Nat} (hu : Try.prog.underlying t = some (.slice e)) (hi : Try.prog.info? e = some i0) (hz : i0.zero = some z0) (hsz : i0.size = z) (hb1 : i0.bytes = z) (hzs : z0.cells.size = z) (h0 : 0 < z)
    {v : Value} {n m c : Nat} {xs news : List Value} {y : Addr} (hown : w.ownsRow B e z v n xs) (hl : news.length = m * z) (hc : ∀ j u, news[j]? = some u → w.cell? (y.add j) = some u) (h1 : ∀ u ∈ news, u.oneCell' = true)
    (hb : (n + m) * z ≤ 140737488355328) (hbase : B ≤ w.heap.size) :
    ∃ v' w', (Builtin.append_ #[t, t] ty #[v, .slice (some y) m c]).run Try.prog w = .ok v' w' ∧ w'.ownsRow B e z v' (n + m) (xs ++ news) ∧ w.grownBy w' v.ownBlock ∧
      (v'.ownBlock = v.ownBlock ∨ v'.ownBlock = some w.heap.size) := by
  have hnm : n + m ≤ 140737488355328 := Nat.le_trans (Nat.le_mul_of_pos_right _ h0) hb
  have hmz : m * z ≤ 140737488355328 := Nat.le_trans (Nat.mul_le_mul_right z (Nat.le_add_left m n)) hb
  have hl' : news.length = m * i0.size := by rw [hsz]; exact hl
  obtain ⟨v', w', hr, h1', h2, h3⟩ := run_append_own (P := Try.prog) w B t ty e i0 z0 z z hu hi hz hsz hb1 hzs h0 v n xs hown y m c news hl hc h1 (by unfold maxLen; omega) hb hbase
  refine ⟨v', w', hr, h1', h2, ?_⟩
  rcases hown.2 with ⟨rfl, rfl⟩ | ⟨g, cap, cur, rfl, hbg, hg, hnc, hcm, hcs, htake⟩
  · by_cases hm0 : m = 0
    · left
      rw [h3.2 ⟨rfl, hm0⟩]
    · right
      have hr2 := run_append_nil (P := Try.prog) w t ty e i0 z0 hu hi hz y m c news hl' hc (by omega) (by omega) (by rw [hb1]; omega)
      exact ok_block hr2 hr rfl
  · by_cases hroom : n + m ≤ cap
    · left
      obtain ⟨w2, hr2, _⟩ := run_append_fits (P := Try.prog) w B t ty e i0 z hu hi hsz g n cap xs hown y m c news hl hc h1 hroom
      exact ok_block hr2 hr rfl
    · right
      have hr2 := run_append_grow (P := Try.prog) w t ty e i0 z0 hu hi hz ⟨g, 0, none⟩ n cap xs (by rw [hsz]; exact hown.1) (hown.cells (g := g) rfl) y m c news hl' hc (by omega) (by omega) (growslice_fits (by omega) (by rw [hb1]; omega))
      exact ok_block hr2 hr rfl

theorem wpl_append_entry2 {ops : Array Oper} {rest : List Oper} {o : Oper} {a : Act} {w : World} {Q : Exit → Act → World → Prop} (hgd : o.guard = none) (s x : Operand)
    (ho : o.op = .call { callee := .builtin .append, args := #[s, x], argTypes := #[89, 89] }) (base : Nat) {v : Value} {n c g : Nat} {ls : List (List UInt8)} {y : List UInt8} {T : TypeId}
    (hs : a.eval s = v) (hx : a.eval x = .slice (some ⟨g, 0, none⟩) 1 c) (hown : w.ownsRow base 88 64 v n (rows ls)) (hy : y.length = 64) (hb : Blk w g (y.map u8v) T)
    (hn : (n + 1) * 64 ≤ 140737488355328) (hbase : base ≤ w.heap.size)
    (h : ∀ v' w', w'.ownsRow base 88 64 v' (n + 1) (rows (ls ++ [y])) → w.grownBy w' v.ownBlock → (v'.ownBlock = v.ownBlock ∨ v'.ownBlock = some w.heap.size) → wpList Try.prog ops Q rest (a.put o.dst v') w') : wpList Try.prog ops Q (o :: rest) a w := by
  obtain ⟨i0, hi, hz, hsz, hb1⟩ := info_parts info_entry
  obtain ⟨v', w', hr, h1, h2, h3⟩ := append_rowblk w base 89 88 o.type (m := 1) (c := c) Try.underlying89 hi hz hsz hb1 zentry_size (by decide) hown (by rw [List.length_map, hy]) (news_blk hb) (one_u8 _) hn hbase
  exact wpList_plain hgd fun K hK => Lib.wp_append_run w s x _ _ ho v _ hs hx v' w' hr (hK _ _ (h v' w' (by rw [rows_append, rows_one]; exact h1) h2 h3))

/-- every row is of 64 octets -/
def All64 (ls : List (List UInt8)) : Prop := ∀ l ∈ ls, l.length = 64
theorem All64.at {ls : List (List UInt8)} (h : All64 ls) {i : Nat} {x : List UInt8} (hx : ls[i]? = some x) : x.length = 64 := h x (List.mem_of_getElem? hx)
theorem All64.filter {ls : List (List UInt8)} (h : All64 ls) (p : List UInt8 → Bool) : All64 (ls.filter p) := fun l hl => h l (List.mem_filter.1 hl).1
theorem rows_at64 {ls : List (List UInt8)} (h : All64 ls) {i : Nat} {x : List UInt8} (hx : ls[i]? = some x) {j : Nat} (hj : j < 64) : (rows ls)[64 * i + j]? = (x.map u8v)[j]? := by
  induction ls generalizing i with
  | nil => cases hx
  | cons l ls ih =>
    have hl := h l (by simp)
    unfold rows
    rw [List.flatten_cons, List.map_append]
    cases i with
    | zero =>
      cases hx
      rw [List.getElem?_append_left (by simp; omega), Nat.mul_zero, Nat.zero_add]
    | succ i =>
      rw [List.getElem?_append_right (by simp; omega), List.length_map, hl, show 64 * (i + 1) + j - 64 = 64 * i + j by omega]
      exact ih (fun x hx => h x (by simp [hx])) (by simpa using hx)
theorem rows_length64 {ls : List (List UInt8)} (h : All64 ls) : (rows ls).length = 64 * ls.length := by
  induction ls with
  | nil => rfl
  | cons l ls ih =>
    have := ih (fun x hx => h x (by simp [hx]))
    unfold rows at *
    rw [List.length_map] at *
    rw [List.flatten_cons, List.length_append, h l (by simp), this, List.length_cons]; omega
theorem Cells.rowAt64 {w : World} {p : Addr} {ls : List (List UInt8)} (h : Cells w (some p) (rows ls)) (h64 : All64 ls) {i : Nat} {x : List UInt8} (hx : ls[i]? = some x) : CellsAt w (p.add (i * 64)) (x.map u8v) := by
  intro j u hu
  have hxl := h64.at hx
  have hj : j < 64 := by
    have := (List.getElem?_eq_some_iff.1 hu).1
    rw [List.length_map, hxl] at this; exact this
  have h2 : (rows ls)[64 * i + j]? = some u := by rw [rows_at64 h64 hx hj]; exact hu
  obtain ⟨b, off, hp, hc⟩ := h.some_of (by have := (List.getElem?_eq_some_iff.1 h2).1; omega)
  cases hp
  rw [addr_add, addr_add]
  have := hc _ _ h2
  rw [show off + i * 64 + j = off + (64 * i + j) by omega]
  exact this
theorem size_entry : (Try.prog.info? 88).map (·.size) = some 64 := by kernel_rfl

theorem bitL_take (x : List UInt8) {i : Nat} (h : i < 256) : bitL (x.take 32) i = bitL x i := by
  unfold bitL
  rw [List.getElem?_take_of_lt (by omega)]

/-- the entries whose bit at a level is b -/
def sideE (lvl b : Nat) (es : List (List UInt8)) : List (List UInt8) := es.filter fun x => bitL x lvl == b
theorem sideE_next {lvl b k : Nat} {es : List (List UInt8)} {x : List UInt8} (hx : es[k]? = some x) : sideE lvl b (es.take (k + 1)) = sideE lvl b (es.take k) ++ if bitL x lvl = b then [x] else [] := by
  unfold sideE
  rw [List.take_add_one, hx, List.filter_append]
  congr 1
  by_cases h : bitL x lvl = b
  · simp [h]
  · simp [h]
theorem sideE_le (lvl b : Nat) (es : List (List UInt8)) : (sideE lvl b es).length ≤ es.length := List.length_filter_le _ _

set_option maxRecDepth 100000 in
set_option maxHeartbeats 1600000 in
theorem rsplit_c (es : List (List UInt8)) (lvl : Nat) (a : Option Addr) (n c : Nat) (w : World) (hl : es.length = n) (hn : n ≤ 1000000) (h64 : All64 es) (hi : lvl < 256) (hcl : Cells w a (rows es)) :
    Calls Try.prog 80 #[.slice a n c, .int .i64 (lvl : Int)] w fun e w' => ∃ va vb, e = .returned (.tuple #[va, vb]) ∧ w'.ownsRow w.heap.size 88 64 va (sideE lvl 0 es).length (rows (sideE lvl 0 es)) ∧ w'.ownsRow w.heap.size 88 64 vb (sideE lvl 1 es).length (rows (sideE lvl 1 es)) ∧ Ext w w' := by
  have HL := hid hl
  have HC := hid hcl
  have H64 := hid h64
  clear hl hcl h64
  go_enter Try.func80, Try.ntmps80
  go_wp2
  go_loopw [4, 5, 10] (fun va vb i wr => ∃ k : Nat, k ≤ n ∧ i = .int .i64 (k : Int) ∧ wr.ownsRow w.heap.size 88 64 va (sideE lvl 0 (es.take k)).length (rows (sideE lvl 0 (es.take k))) ∧ wr.ownsRow w.heap.size 88 64 vb (sideE lvl 1 (es.take k)).length (rows (sideE lvl 1 (es.take k))) ∧ (∀ g, va.ownBlock = some g → vb.ownBlock ≠ some g) ∧ Ext w wr) (fun _ _ i _ => n - (intOf i).toNat)
  case atStart => exact ⟨0, by omega, rfl, World.ownsRow_nil _ _ _ _, World.ownsRow_nil _ _ _ _, (fun g h => by cases h), Ext.refl w⟩
  case round =>
    obtain ⟨k, hk, rfl, ownA, ownB, hdis, e1⟩ := hrel
    have OA := hid ownA
    have OB := hid ownB
    have HD := hid hdis
    have E1 := hid e1
    have hb1 := e1.size
    clear ownA ownB e1 hdis
    by_cases hlt : k < n
    · obtain ⟨x, hx⟩ : ∃ x, es[k]? = some x := ⟨es[k]'(by rw [HL.out]; omega), by simp⟩
      have hxl := H64.out.at hx
      obtain ⟨A, rfl, hca⟩ : ∃ A, a = some A ∧ CellsAt w (A.add (k * 64)) (x.map u8v) := by
        cases a with
        | none => rcases HC.out with h | ⟨_, _, h, _⟩
                  · have := rows_length64 H64.out; rw [h, HL.out] at this; simp at this; omega
                  · cases h
        | some A => exact ⟨A, rfl, HC.out.rowAt64 H64.out hx⟩
      have HX := hid hxl
      have HXV : Hid ((x.map u8v).length = 64) := hid (by rw [List.length_map, hxl])
      have HX0 : Hid (0 + 32 ≤ (x.map u8v).length) := hid (by rw [List.length_map, hxl]; omega)
      have HXT : Hid ((((x.map u8v).drop 0).take 32) = (x.take 32).map u8v) := hid (by rw [List.drop_zero, List.map_take])
      have hbit := hid (fun w' => rbit_c (x.take 32) lvl w' (by rw [List.length_take, hxl]; rfl) hi)
      rw [bitL_take x hi] at hbit
      have hb2 := bitL_lt x lvl
      have ox := one_u8 x
      have hn0 := hid (sideE_next (lvl := lvl) (b := 0) hx)
      have hn1 := hid (sideE_next (lvl := lvl) (b := 1) hx)
      have hl0 : (sideE lvl 0 (es.take k)).length ≤ 1000000 := Nat.le_trans (sideE_le _ _ _) (by rw [List.length_take]; omega)
      have hl1 : (sideE lvl 1 (es.take k)).length ≤ 1000000 := Nat.le_trans (sideE_le _ _ _) (by rw [List.length_take]; omega)
      have HCA := hid (hca.ext E1.out)
      clear hca hx hxl HC
      generalize x.take 32 = xk at *
      generalize sideE lvl 0 (es.take k) = sa at *
      generalize sideE lvl 1 (es.take k) = sb at *
      generalize bitL x lvl = b at *
      obtain ⟨na, hna⟩ : ∃ na, sa.length = na := ⟨_, rfl⟩
      obtain ⟨nb, hnb⟩ : ∃ nb, sb.length = nb := ⟨_, rfl⟩
      rw [hna] at OA hl0
      rw [hnb] at OB hl1
      by_cases h0 : b = 0
      · have g1 : ((b : Int) == 0) = true := by rw [h0]; rfl
        have g2 : (b == 0) = true := by rw [h0]; rfl
        have h0' := hn0.out
        have h1' := hn1.out
        rw [if_pos h0] at h0'
        rw [if_neg (by omega), List.append_nil] at h1'
        have HS0 := hid h0'
        have HS1 := hid h1'
        clear hn0 hn1 h0 h0' h1'
        go_wp2_with (first | (refine wpl_run rfl (exec_index (i := k) rfl rfl rfl Try.underlying89 size_entry hlt wr) ?_) | (refine wpl_run rfl (exec_load_at rfl rfl HCA.out agg_entry HXV.out) ?_) | (refine wpl_storew rfl _ (.tmp 7) _ rfl rfl rfl (Blk.mk_alloc (vs := List.replicate 64 (.int .u8 0)) rfl rfl) agg_entry (by simp) HXV.out ox ?_))
        intro w2 b2 u2
        have e2 : Ext wr w2 := u2.ext ((Ext.refl wr).alloc _) (Nat.le_refl _)
        have B2 := hid b2
        have E2 := hid e2
        clear b2 u2 e2
        go_wp2_with (first | (refine wpl_loadp rfl 36 _ rfl rfl B2.out agg_apisum HX0.out HXT.out ?_))
        refine (hbit.out w2).mono ?_
        rintro e w3 ⟨rfl, e3⟩
        have hb3 : w.heap.size ≤ w3.heap.size := Nat.le_trans hb1 (Nat.le_trans E2.out.size e3.size)
        have B3 := hid (B2.out.ext e3)
        have E3 := hid (E2.out.ext e3)
        clear B2 E2 e3 hbit
        have zB : Blk (w3.alloc (.cells (x.map u8v).toArray 88)) w3.heap.size (x.map u8v) 88 := Blk.mk_alloc rfl rfl
        have e4 : Ext wr (w3.alloc (.cells (x.map u8v).toArray 88)) := E3.out.alloc _
        have O4 := hid (ownsRow_ext OA.out e4)
        have OO4 := hid (ownsRow_ext OB.out e4)
        have E4 := hid (E1.out.ext e4)
        have ZB := hid zB
        have hb4 : w.heap.size ≤ (w3.alloc (.cells (x.map u8v).toArray 88)).heap.size := E4.out.size
        clear e4 zB OA OB E1 E3
        go_wp2_with (first | (refine wpl_loadw rfl 88 (.tmp 7) rfl rfl B3.out agg_entry HXV.out ?_) | (refine wpl_buildEntry rfl rfl rfl HX.out ?_) | (at_builtin; refine wpl_append_entry2 rfl _ _ rfl w.heap.size rfl rfl O4.out HX.out ZB.out (by omega) hb4 ?_))
        intro v5 w5 own5 g5 blk5
        have hv5 := own_block_ge O4.out
        have E5 := hid (E4.out.grown g5 (by intro q hq; exact hv5 _ hq))
        have O5 := hid own5
        have HBL := hid blk5
        have hoo : u5.ownBlock = none ∨ u5.ownBlock ≠ u4.ownBlock := by
          cases hq : u5.ownBlock with
          | none => exact .inl rfl
          | some q => exact .inr (fun e => HD.out q e.symm hq)
        have OO5 := hid (OO4.out.kept g5 hoo)
        have hlt4 : ∀ q, u5.ownBlock = some q → q < (w3.alloc (.cells (x.map u8v).toArray 88)).heap.size := own_block_lt OO4.out
        have HLT4 := hid hlt4
        clear own5 g5 hv5 blk5 hoo hlt4 O4 OO4 E4 ZB B3
        go_wp2
        go_roundw
        case rel =>
          refine ⟨k + 1, by omega, by go_num, ?_, ?_, ?_, E5.out⟩
          · rw [HS0.out, List.length_append, hna]; exact O5.out
          · rw [HS1.out, hnb]; exact OO5.out
          · intro q hq hq2
            rcases HBL.out with hbl | hbl
            · rw [hbl] at hq
              exact HD.out q hq hq2
            · rw [hbl] at hq
              cases hq
              have h9 := HLT4.out _ hq2
              simp at h9
        case measure => simp [intOf]; omega
      · have g1 : ((b : Int) == 0) = false := by simp; omega
        have g2 : (b == 0) = false := by simp [h0]
        have h0' := hn0.out
        have h1' := hn1.out
        rw [if_neg (by omega), List.append_nil] at h0'
        rw [if_pos (by omega)] at h1'
        have HS0 := hid h0'
        have HS1 := hid h1'
        clear hn0 hn1 h0 h0' h1'
        go_wp2_with (first | (refine wpl_run rfl (exec_index (i := k) rfl rfl rfl Try.underlying89 size_entry hlt wr) ?_) | (refine wpl_run rfl (exec_load_at rfl rfl HCA.out agg_entry HXV.out) ?_) | (refine wpl_storew rfl _ (.tmp 7) _ rfl rfl rfl (Blk.mk_alloc (vs := List.replicate 64 (.int .u8 0)) rfl rfl) agg_entry (by simp) HXV.out ox ?_))
        intro w2 b2 u2
        have e2 : Ext wr w2 := u2.ext ((Ext.refl wr).alloc _) (Nat.le_refl _)
        have B2 := hid b2
        have E2 := hid e2
        clear b2 u2 e2
        go_wp2_with (first | (refine wpl_loadp rfl 36 _ rfl rfl B2.out agg_apisum HX0.out HXT.out ?_))
        refine (hbit.out w2).mono ?_
        rintro e w3 ⟨rfl, e3⟩
        have hb3 : w.heap.size ≤ w3.heap.size := Nat.le_trans hb1 (Nat.le_trans E2.out.size e3.size)
        have B3 := hid (B2.out.ext e3)
        have E3 := hid (E2.out.ext e3)
        clear B2 E2 e3 hbit
        have zB : Blk (w3.alloc (.cells (x.map u8v).toArray 88)) w3.heap.size (x.map u8v) 88 := Blk.mk_alloc rfl rfl
        have e4 : Ext wr (w3.alloc (.cells (x.map u8v).toArray 88)) := E3.out.alloc _
        have O4 := hid (ownsRow_ext OB.out e4)
        have OO4 := hid (ownsRow_ext OA.out e4)
        have E4 := hid (E1.out.ext e4)
        have ZB := hid zB
        have hb4 : w.heap.size ≤ (w3.alloc (.cells (x.map u8v).toArray 88)).heap.size := E4.out.size
        clear e4 zB OA OB E1 E3
        go_wp2_with (first | (refine wpl_loadw rfl 88 (.tmp 7) rfl rfl B3.out agg_entry HXV.out ?_) | (refine wpl_buildEntry rfl rfl rfl HX.out ?_) | (at_builtin; refine wpl_append_entry2 rfl _ _ rfl w.heap.size rfl rfl O4.out HX.out ZB.out (by omega) hb4 ?_))
        intro v5 w5 own5 g5 blk5
        have hv5 := own_block_ge O4.out
        have E5 := hid (E4.out.grown g5 (by intro q hq; exact hv5 _ hq))
        have O5 := hid own5
        have HBL := hid blk5
        have hoo : u4.ownBlock = none ∨ u4.ownBlock ≠ u5.ownBlock := by
          cases hq : u4.ownBlock with
          | none => exact .inl rfl
          | some q => exact .inr (fun e => HD.out q hq e.symm)
        have OO5 := hid (OO4.out.kept g5 hoo)
        have hlt4 : ∀ q, u4.ownBlock = some q → q < (w3.alloc (.cells (x.map u8v).toArray 88)).heap.size := own_block_lt OO4.out
        have HLT4 := hid hlt4
        clear own5 g5 hv5 blk5 hoo hlt4 O4 OO4 E4 ZB B3
        go_wp2
        go_roundw
        case rel =>
          refine ⟨k + 1, by omega, by go_num, ?_, ?_, ?_, E5.out⟩
          · rw [HS0.out, hna]; exact OO5.out
          · rw [HS1.out, List.length_append, hnb]; exact O5.out
          · intro q hq hq2
            rcases HBL.out with hbl | hbl
            · rw [hbl] at hq2
              exact HD.out q hq hq2
            · rw [hbl] at hq2
              cases hq2
              have h9 := HLT4.out _ hq
              simp at h9
        case measure => simp [intOf]; omega
    · obtain rfl : k = n := by omega
      have hfin : es.take k = es := by rw [← HL.out, List.take_of_length_le (Nat.le_refl _)]
      rw [hfin] at OA OB
      clear hfin
      go_wp2
      go_ret2
      exact ⟨_, _, rfl, OA.out, OB.out, E1.out⟩
end

section
open Go Go.RowKit

def mrBase : List (List UInt8) → List UInt8
  | [] => zero32
  | x :: _ => mleafL (x.take 32) (x.drop 32)
def mapRootL : Nat → Nat → List (List UInt8) → List UInt8
  | 0, _, l => mrBase l
  | f + 1, lvl, l => if l.length ≤ 1 then mrBase l else nodeL (mapRootL f (lvl + 1) (sideE lvl 0 l)) (mapRootL f (lvl + 1) (sideE lvl 1 l))
theorem mapRootL_le (f lvl : Nat) {l : List (List UInt8)} (h : l.length ≤ 1) : mapRootL f lvl l = mrBase l := by
  cases f with
  | zero => rfl
  | succ f => simp only [mapRootL]; rw [if_pos h]
theorem mapRootL_two (f lvl : Nat) {l : List (List UInt8)} (h : 1 < l.length) : mapRootL (f + 1) lvl l = nodeL (mapRootL f (lvl + 1) (sideE lvl 0 l)) (mapRootL f (lvl + 1) (sideE lvl 1 l)) := by
  simp only [mapRootL]; rw [if_neg (by omega)]
theorem mrBase_length (l : List (List UInt8)) : (mrBase l).length = 32 := by
  cases l with
  | nil => exact zero32_len
  | cons x _ => exact mleafL_length _ _
theorem mapRootL_length (f lvl : Nat) (l : List (List UInt8)) : (mapRootL f lvl l).length = 32 := by
  cases f with
  | zero => exact mrBase_length l
  | succ f =>
    simp only [mapRootL]
    split
    · exact mrBase_length l
    · exact nodeL_length _ _
/-- any two entries part at a level from lvl on, below lvl + f -/
def Parts (f lvl : Nat) (l : List (List UInt8)) : Prop := l.Pairwise fun x y => ∃ b, lvl ≤ b ∧ b < lvl + f ∧ bitL x b ≠ bitL y b
theorem Parts.zero {lvl : Nat} {l : List (List UInt8)} (h : Parts 0 lvl l) : l.length ≤ 1 := by
  match l, h with
  | [], _ => simp
  | [x], _ => simp
  | x :: y :: l, h =>
    unfold Parts at h
    rw [List.pairwise_cons] at h
    obtain ⟨b, h1, h2, _⟩ := h.1 y (by simp)
    omega
theorem Parts.side {f lvl : Nat} {l : List (List UInt8)} (h : Parts (f + 1) lvl l) (c : Nat) : Parts f (lvl + 1) (sideE lvl c l) := by
  unfold Parts sideE at *
  rw [List.pairwise_filter]
  refine h.imp ?_
  rintro x y ⟨b, h1, h2, h3⟩ hx hy
  have hx' : bitL x lvl = c := by simpa using hx
  have hy' : bitL y lvl = c := by simpa using hy
  refine ⟨b, ?_, by omega, h3⟩
  rcases Nat.lt_or_ge lvl b with hlt | hge
  · omega
  · obtain rfl : b = lvl := by omega
    exact absurd (hx'.trans hy'.symm) h3
theorem bitL_app {k v : List UInt8} (hk : k.length = 32) {i : Nat} (h : i < 256) : bitL (k ++ v) i = bitL k i := by
  unfold bitL
  rw [List.getElem?_append_left (by omega)]
theorem mrBase_app {k v : List UInt8} (hk : k.length = 32) (l : List (List UInt8)) : mrBase ((k ++ v) :: l) = mleafL k v := by
  show mleafL ((k ++ v).take 32) ((k ++ v).drop 32) = _
  rw [List.take_append_of_le_length (by omega), List.take_of_length_le (by omega), List.drop_append_of_le_length (by omega), List.drop_of_length_le (by omega), List.nil_append]
theorem mapRoot_pair (k v o u : List UInt8) (hk : k.length = 32) (ho : o.length = 32) (t : Nat) (ht : t < 256) (hpart : bitL o t ≠ bitL k t) :
    ∀ (f D : Nat), D ≤ t → t < D + f → (∀ j, D ≤ j → j < t → bitL o j = bitL k j) → mapRootL f D [k ++ v, o ++ u] = downL k D t (sideL k t (mleafL k v) (mleafL o u)) := by
  intro f
  induction f with
  | zero => intro D h1 h2; omega
  | succ f ih =>
    intro D h1 h2 hs
    rw [mapRootL_two f D (by simp)]
    have ek := bitL_app (v := v) hk (i := D) (by omega)
    have eo := bitL_app (v := u) ho (i := D) (by omega)
    have k2 := bitL_lt k D
    have o2 := bitL_lt o D
    by_cases hd : D = t
    · subst hd
      rw [downL_self]
      unfold sideL
      by_cases h0 : bitL k D = 0
      · have ho1 : bitL o D = 1 := by omega
        have e0 : sideE D 0 [k ++ v, o ++ u] = [k ++ v] := by simp [sideE, ek, eo, h0, ho1]
        have e1 : sideE D 1 [k ++ v, o ++ u] = [o ++ u] := by simp [sideE, ek, eo, h0, ho1]
        rw [e0, e1, mapRootL_le _ _ (by simp), mapRootL_le _ _ (by simp), mrBase_app hk, mrBase_app ho, if_pos h0]
      · have hk1 : bitL k D = 1 := by omega
        have ho0 : bitL o D = 0 := by omega
        have e0 : sideE D 0 [k ++ v, o ++ u] = [o ++ u] := by simp [sideE, ek, eo, hk1, ho0]
        have e1 : sideE D 1 [k ++ v, o ++ u] = [k ++ v] := by simp [sideE, ek, eo, hk1, ho0]
        rw [e0, e1, mapRootL_le _ _ (by simp), mapRootL_le _ _ (by simp), mrBase_app hk, mrBase_app ho, if_neg h0]
    · rw [downL_out _ _ _ _ (by omega)]
      have hsame := hs D (by omega) (by omega)
      have hih := ih (D + 1) (by omega) (by omega) (fun j h3 h4 => hs j (by omega) h4)
      by_cases h0 : bitL k D = 0
      · have ho1 : bitL o D = 0 := by omega
        have e0 : sideE D 0 [k ++ v, o ++ u] = [k ++ v, o ++ u] := by simp [sideE, ek, eo, h0, ho1]
        have e1 : sideE D 1 [k ++ v, o ++ u] = [] := by simp [sideE, ek, eo, h0, ho1]
        rw [e0, e1, hih, mapRootL_le _ _ (l := []) (by simp)]
        generalize downL k (D + 1) t (sideL k t (mleafL k v) (mleafL o u)) = q
        unfold sideL
        rw [if_pos h0]; rfl
      · have hk1 : bitL k D = 1 := by omega
        have ho1 : bitL o D = 1 := by omega
        have e0 : sideE D 0 [k ++ v, o ++ u] = [] := by simp [sideE, ek, eo, hk1, ho1]
        have e1 : sideE D 1 [k ++ v, o ++ u] = [k ++ v, o ++ u] := by simp [sideE, ek, eo, hk1, ho1]
        rw [e0, e1, hih, mapRootL_le _ _ (l := []) (by simp)]
        generalize downL k (D + 1) t (sideL k t (mleafL k v) (mleafL o u)) = q
        unfold sideL
        rw [if_neg h0]; rfl
theorem All64.side {ls : List (List UInt8)} (h : All64 ls) (l b : Nat) : All64 (sideE l b ls) := h.filter _

set_option maxRecDepth 100000 in
set_option maxHeartbeats 2000000 in
theorem mapRoot_base (lvl : Nat) (es : List (List UInt8)) (a : Option Addr) (n c : Nat) (w : World) (hl : es.length = n) (hn : n ≤ 1) (h64 : All64 es) (hcl : Cells w a (rows es)) :
    Calls Try.prog 66 #[.slice a n c, .int .i64 (lvl : Int)] w fun e w' => e = .returned (.agg ((mrBase es).map u8v).toArray) ∧ Ext w w' := by
  have HZ := hid (show (zero32.map u8v).length = 32 by rw [List.length_map, zero32_len])
  by_cases h0 : n = 0
  · subst h0
    obtain rfl := List.length_eq_zero_iff.1 hl
    rw [show mrBase [] = zero32 from rfl]
    clear hcl h64 hl hn
    go_enter Try.func66, Try.ntmps66
    go_upto_region 1 with (fail)
    generalize hwA : World.alloc w _ = wA
    have zA : Blk wA w.heap.size (zero32.map u8v) 36 := by rw [← hwA, zero32_map]; exact Blk.mk_alloc rfl rfl
    have eA : Ext w wA := by rw [← hwA]; exact (Ext.refl w).alloc _
    clear hwA
    have ZA := hid zA
    have EA := hid eA
    clear zA eA
    go_wp2_with (first | (refine wpl_storew rfl _ (.tmp 4) _ rfl rfl rfl ZA.out agg_apisum HZ.out (xs := List.replicate 32 (.int .u8 0)) (by simp) (one_zeros 32) ?_))
    intro w4 b4 u4
    have b5 : Blk w4 w.heap.size (zero32.map u8v) 36 := by rw [zero32_map]; exact b4
    go_wp2
    exact ret_row rfl rfl b5 agg_apisum HZ.out rfl ⟨rfl, u4.ext EA.out (by omega)⟩
  · obtain rfl : n = 1 := by omega
    obtain ⟨x, rfl⟩ := List.length_eq_one_iff.1 hl
    have hx : x.length = 64 := h64 x (by simp)
    obtain ⟨A, rfl, hca⟩ : ∃ A, a = some A ∧ CellsAt w (A.add (0 * 64)) (x.map u8v) := by
      cases a with
      | none => rcases hcl with h | ⟨_, _, h, _⟩
                · have := rows_length64 h64; rw [h] at this; simp at this
                · cases h
      | some A => exact ⟨A, rfl, hcl.rowAt64 h64 rfl⟩
    have h1 : CellsAt w (A.add (0 * 64)) ((x.take 32).map u8v) := by
      intro j u hu
      refine hca j u ?_
      rw [List.map_take, List.getElem?_take] at hu
      split at hu
      · exact hu
      · cases hu
    have h2 : CellsAt w ((A.add (0 * 64)).add 32) ((x.drop 32).map u8v) := by
      intro j u hu
      have h := hca (32 + j) u (by rw [← hu, List.map_drop, List.getElem?_drop])
      rw [Addr.add_add]
      exact h
    have l1 : (x.take 32).length = 32 := by rw [List.length_take]; omega
    have l2 : (x.drop 32).length = 32 := by rw [List.length_drop]; omega
    rw [show mrBase [x] = mleafL (x.take 32) (x.drop 32) from rfl]
    generalize x.take 32 = k at *
    generalize x.drop 32 = v at *
    have hlf := hid (fun w' => rleafOf_c k v w' l1 l2)
    have HS := hid (show ((mleafL k v).map u8v).length = 32 by rw [List.length_map, mleafL_length])
    have os := one_u8 (mleafL k v)
    have HK := hid (show (k.map u8v).length = 32 by rw [List.length_map, l1])
    have HV := hid (show (v.map u8v).length = 32 by rw [List.length_map, l2])
    have H1 := hid h1
    have H2 := hid h2
    clear h1 h2 l1 l2 hca hx h64 hl hcl hn h0
    generalize mleafL k v = s at *
    go_enter Try.func66, Try.ntmps66
    go_upto_region 1 with (fail)
    generalize hwA : World.alloc w _ = wA
    have zA : Blk wA w.heap.size (zero32.map u8v) 36 := by rw [← hwA, zero32_map]; exact Blk.mk_alloc rfl rfl
    have eA : Ext w wA := by rw [← hwA]; exact (Ext.refl w).alloc _
    clear hwA
    have ZA := hid zA
    have EA := hid eA
    clear zA eA
    go_wp2_with fail
    obtain ⟨C, hC⟩ : ∃ C : World → Prop, C = Cls w wA [] [(w.heap.size, 32, 36)] := ⟨_, rfl⟩
    have hC0 : ∀ w', C w' ↔ Cls w wA [] [(w.heap.size, 32, 36)] w' := fun w' => by rw [hC]
    clear hC
    have HCC := hid hC0
    clear hC0
    have hCx : ∀ w w', C w → Ext w w' → C w' := fun w w' h1 h2 => (HCC.out w').2 (((HCC.out w).1 h1).ext h2)
    have hCA : C wA := (HCC.out _).2 (Cls.one_room EA.out (Kept.none _) ZA.out HZ.out)
    refine wp_region_held_drew (S := C) (by kernel_rfl) (hCx _ _ hCA (Ext.refl _).drew) (fun hS0 => ?_)
    refine held_take 0 (v := ?tv1) rfl (by kernel_rfl) (by kernel_rfl) (by kernel_rfl) (fun _ _ _ h => h) (.inl ⟨rfl, ?ty1⟩) hS0 ?tr1
    case ty1 => (intro _ _; go_simp; try with_reducible rfl)
    case tr1 =>
    simp only [Act.put, List.setIfInBounds_toArray, List.set_cons_succ, List.set_cons_zero]
    refine held_take 1 (v := _) rfl (by kernel_rfl) (by kernel_rfl) (by kernel_rfl) (fun _ _ _ h => h) (yieldsI_run rfl (fun w1 _ => exec_index (i := 0) rfl rfl rfl Try.underlying89 size_entry (by omega) w1)) hS0 ?_
    simp only [Act.put, List.setIfInBounds_toArray, List.set_cons_succ, List.set_cons_zero]
    refine held_take 2 (v := ?tv2) rfl (by kernel_rfl) (by kernel_rfl) (by kernel_rfl) (fun _ _ _ h => h) (.inl ⟨rfl, ?ty2⟩) hS0 ?tr2
    case ty2 => (intro _ _; go_simp; try with_reducible rfl)
    case tr2 =>
    simp only [Act.put, List.setIfInBounds_toArray, List.set_cons_succ, List.set_cons_zero]
    refine held_take 3 (v := _) rfl (by kernel_rfl) (by kernel_rfl) (by kernel_rfl) (fun _ _ _ h => h) (yieldsI_run rfl (fun w1 h => exec_load_at rfl rfl (H1.out.ext ((HCC.out w1).1 h).base) agg_apisum HK.out)) hS0 ?_
    simp only [Act.put, List.setIfInBounds_toArray, List.set_cons_succ, List.set_cons_zero]
    refine held_take 4 (v := ?tv3) rfl (by kernel_rfl) (by kernel_rfl) (by kernel_rfl) (fun _ _ _ h => h) (.inl ⟨rfl, ?ty3⟩) hS0 ?tr3
    case ty3 => (intro _ _; go_simp; try with_reducible rfl)
    case tr3 =>
    simp only [Act.put, List.setIfInBounds_toArray, List.set_cons_succ, List.set_cons_zero]
    refine held_take 5 (v := _) rfl (by kernel_rfl) (by kernel_rfl) (by kernel_rfl) (fun _ _ _ h => h) (yieldsI_run rfl (fun w1 _ => exec_index (i := 0) rfl rfl rfl Try.underlying89 size_entry (by omega) w1)) hS0 ?_
    simp only [Act.put, List.setIfInBounds_toArray, List.set_cons_succ, List.set_cons_zero]
    refine held_take 6 (v := ?tv4) rfl (by kernel_rfl) (by kernel_rfl) (by kernel_rfl) (fun _ _ _ h => h) (.inl ⟨rfl, ?ty4⟩) hS0 ?tr4
    case ty4 => (intro _ _; go_simp; try with_reducible rfl)
    case tr4 =>
    simp only [Act.put, List.setIfInBounds_toArray, List.set_cons_succ, List.set_cons_zero]
    refine held_take 7 (v := _) rfl (by kernel_rfl) (by kernel_rfl) (by kernel_rfl) (fun _ _ _ h => h) (yieldsI_run rfl (fun w1 h => exec_load_at rfl rfl (H2.out.ext ((HCC.out w1).1 h).base) agg_apisum HV.out)) hS0 ?_
    simp only [Act.put, List.setIfInBounds_toArray, List.set_cons_succ, List.set_cons_zero]
    generalize wA.drew = wD at *
    refine held_one (i := 8) (by kernel_rfl) rfl ?_
    intro Q' hQ
    go_wp2_with fail
    refine (hlf.out _).mono ?_
    rintro e wE ⟨rfl, eq9⟩
    have hS9 := hCx _ _ hS0 eq9
    go_wp2_with fail
    refine hQ _ _ hS9 ?_
    clear hQ Q' hS0 eq9
    have hS0 := hS9
    clear hS9
    try dsimp only
    try simp only [Act.put, List.setIfInBounds_toArray, List.set_cons_succ, List.set_cons_zero]
    obtain ⟨vz, hvz, zG⟩ := ((HCC.out wE).1 hS0).at_room (r := w.heap.size) (n := 32) (T := 36) (by simp)
    have ZG := hid zG
    have HVZ := hid hvz
    have HG := hid hS0
    clear zG hvz hS0
    refine held_one (i := 9) (by kernel_rfl) rfl ?_
    intro Q' hQ
    go_wp2_with (refine wpl_storew rfl _ _ _ rfl rfl rfl ZG.out agg_apisum HVZ.out HS.out os ?_)
    intro wH bH uH
    have hH : C wH := (HCC.out wH).2 (((HCC.out wE).1 HG.out).store uH bH (by simp [HS.out]) (Nat.le_refl _) (by simp))
    go_wp2_with fail
    refine hQ _ _ hH ?_
    clear hQ Q'
    have EH := hid ((HCC.out wH).1 hH).base
    refine wpAnyH_done (by kernel_rfl) ?_ _
    go_wp2
    exact ret_row rfl rfl bH agg_apisum HS.out rfl ⟨rfl, EH.out⟩

set_option maxRecDepth 100000 in
set_option maxHeartbeats 2000000 in
theorem mapRoot_c : ∀ (f lvl : Nat) (es : List (List UInt8)) (a : Option Addr) (n c : Nat) (w : World), es.length = n → n ≤ 1000000 → All64 es → lvl + f ≤ 256 → Parts f lvl es → Cells w a (rows es) →
    Calls Try.prog 66 #[.slice a n c, .int .i64 (lvl : Int)] w fun e w' => e = .returned (.agg ((mapRootL f lvl es).map u8v).toArray) ∧ Ext w w' := by
  intro f
  induction f with
  | zero =>
    intro lvl es a n c w hl hn h64 hf hp hcl
    exact mapRoot_base lvl es a n c w hl (by rw [← hl]; exact hp.zero) h64 hcl
  | succ f ih =>
    intro lvl es a n c w hl hn h64 hf hp hcl
    by_cases hn1 : n ≤ 1
    · rw [mapRootL_le _ _ (by omega)]
      exact mapRoot_base lvl es a n c w hl hn1 h64 hcl
    · rw [mapRootL_two f lvl (by omega)]
      have hsp := hid (fun w' h => rsplit_c es lvl a n c w' hl hn h64 (by omega) h)
      have s0 := sideE_le lvl 0 es
      have s1 := sideE_le lvl 1 es
      have ha0 := hid (fun a' c' w' h => ih (lvl + 1) (sideE lvl 0 es) a' _ c' w' rfl (by omega) (h64.side _ _) (by omega) (hp.side 0) h)
      have ha1 := hid (fun a' c' w' h => ih (lvl + 1) (sideE lvl 1 es) a' _ c' w' rfl (by omega) (h64.side _ _) (by omega) (hp.side 1) h)
      have l0 := mapRootL_length f (lvl + 1) (sideE lvl 0 es)
      have l1 := mapRootL_length f (lvl + 1) (sideE lvl 1 es)
      have hw1 : IntKind.i64.wrap ((lvl : Int) + 1) = ((lvl + 1 : Nat) : Int) := by rw [IntWalk.i64_in _ (by omega)]; omega
      have HC := hid hcl
      have HZ := hid (show (zero32.map u8v).length = 32 by rw [List.length_map, zero32_len])
      generalize mapRootL f (lvl + 1) (sideE lvl 0 es) = p at *
      generalize mapRootL f (lvl + 1) (sideE lvl 1 es) = q at *
      generalize sideE lvl 0 es = sa at *
      generalize sideE lvl 1 es = sb at *
      obtain ⟨na, hna⟩ : ∃ na, sa.length = na := ⟨_, rfl⟩
      obtain ⟨nb, hnb⟩ : ∃ nb, sb.length = nb := ⟨_, rfl⟩
      rw [hna] at ha0 hsp
      rw [hnb] at ha1 hsp
      obtain ⟨lvl1, hlvl1⟩ : ∃ l1, l1 = lvl + 1 := ⟨_, rfl⟩
      rw [← hlvl1] at ha0 ha1 hw1
      have ND := hid (fun w' => rnode_c p q w' l0 l1)
      have HS := hid (show ((nodeL p q).map u8v).length = 32 by rw [List.length_map, nodeL_length])
      have os := one_u8 (nodeL p q)
      generalize nodeL p q = s at *
      have d0 : ((n : Int) == 0) = false := by simp; omega
      have d0' : (n == 0) = false := by simp; omega
      have d1 : ((n : Int) == 1) = false := by simp; omega
      have d2 : (n == 1) = false := by simp; omega
      clear ih hl hn h64 hp hcl s0 s1 l0 l1 hna hnb hlvl1 hn1
      go_enter Try.func66, Try.ntmps66
      go_upto_region 1 with (fail)
      generalize hwA : World.alloc w _ = wA
      have zA : Blk wA w.heap.size (zero32.map u8v) 36 := by rw [← hwA, zero32_map]; exact Blk.mk_alloc rfl rfl
      have eA : Ext w wA := by rw [← hwA]; exact (Ext.refl w).alloc _
      clear hwA
      have ZA := hid zA
      have EA := hid eA
      clear zA eA
      go_wp2_with fail
      refine (hsp.out wA (HC.out.ext EA.out)).mono ?_
      rintro e wB ⟨va, vb, rfl, oa, ob, eB⟩
      obtain ⟨aa, ca, rfl, -, -, -, cla⟩ := own_sliceT (by decide) oa
      obtain ⟨ab, cb, rfl, -, -, -, clb⟩ := own_sliceT (by decide) ob
      have CA := hid cla
      have CB := hid clb
      have ZB := hid (ZA.out.ext eB)
      have EB := hid (EA.out.ext eB)
      clear eB ZA EA
      clear oa ob cla clb hsp
      go_wp2_with fail
      refine (ha0.out aa ca wB CA.out).mono ?_
      rintro e wC ⟨rfl, eC⟩
      have CBC := hid (CB.out.ext eC)
      have ZC := hid (ZB.out.ext eC)
      have EC := hid (EB.out.ext eC)
      clear eC ZB EB
      clear CA CB ha0
      go_wp2_with fail
      refine (ha1.out ab cb wC CBC.out).mono ?_
      rintro e wD ⟨rfl, eD⟩
      have ZD := hid (ZC.out.ext eD)
      have ED := hid (EC.out.ext eD)
      clear eD ZC EC
      clear CBC ha1
      go_wp2_with fail
      refine (ND.out wD).mono ?_
      rintro e wE ⟨rfl, eE⟩
      have ZE := hid (ZD.out.ext eE)
      have EE := hid (ED.out.ext eE)
      clear eE ZD ED
      go_wp2_with (refine wpl_storew rfl _ _ _ rfl rfl rfl ZE.out agg_apisum HZ.out HS.out os ?_)
      intro wH bH uH
      go_wp2
      exact ret_row rfl rfl bH agg_apisum HS.out rfl ⟨rfl, uH.ext EE.out (Nat.le_refl _)⟩
end

section
open Go Go.RowKit

def changedE (root k old v lv : List UInt8) (ls : List (List UInt8)) : Int :=
  if v == zero32 then 2 else if old == zero32 then absentE root k lv ls else thereE root k old lv ls
/-- the sum behind a change where nothing was -/
def freshL (k v lv : List UInt8) (ls : List (List UInt8)) : List UInt8 :=
  if ls.length = cntL lv 256 then mleafL k v
  else downL k (depL lv 256) (difL (ls[cntL lv 256]?.getD []) k) (sideL k (difL (ls[cntL lv 256]?.getD []) k) (mleafL k v) (mleafL (ls[cntL lv 256]?.getD []) (ls[cntL lv 256 + 1]?.getD [])))
def changedS (root k old v lv : List UInt8) (ls : List (List UInt8)) : List UInt8 :=
  if v == zero32 then zero32
  else if old == zero32 then (if absentE root k lv ls = 0 then upL lv k ls (depL lv 256) (freshL k v lv ls) else zero32)
  else if thereE root k old lv ls = 0 then upL lv k ls (depL lv 256) (mleafL k v) else zero32
theorem freshL_length (k v lv : List UInt8) (ls : List (List UInt8)) : (freshL k v lv ls).length = 32 := by
  unfold freshL
  split
  · exact mleafL_length _ _
  · exact downL_length _ _ (sideL_length _ _ _ _)
theorem thereE_ok {root k old lv : List UInt8} {ls : List (List UInt8)} (h : thereE root k old lv ls = 0) : ls.length = cntL lv 256 := by
  unfold thereE at h
  split at h
  · cases h
  · split at h
    · cases h
    · rename_i h1; omega
theorem absentE_ok {root k lv : List UInt8} {ls : List (List UInt8)} (h : absentE root k lv ls = 0) : ls.length = cntL lv 256 ∨ (ls.length = cntL lv 256 + 2 ∧ ls[cntL lv 256]?.getD [] ≠ k ∧ depL lv 256 ≤ difL (ls[cntL lv 256]?.getD []) k) := by
  unfold absentE at h
  split at h
  · left; assumption
  · split at h
    · rename_i h1
      split at h
      · cases h
      · rename_i h2
        refine .inr ⟨h1, fun e => h2 (.inl (by rw [e]; simp)), ?_⟩
        apply Nat.le_of_not_lt
        intro e
        exact h2 (.inr (.inl e))
    · cases h

set_option maxRecDepth 100000 in
set_option maxHeartbeats 4000000 in
theorem changed_old_c (root k old v lv : List UInt8) (ls : List (List UInt8)) (a : Option Addr) (n c : Nat) (w : World) (hr : root.length = 32) (hk : k.length = 32) (ho : old.length = 32) (hv : v.length = 32) (hlv : lv.length = 32) (hn : ls.length = n) (hn63 : n ≤ 9223372036854775807) (h32 : All32 ls) (hcl : Cells w a (rows ls)) (hcase : (v == zero32) = true ∨ (old == zero32) = false) :
    Calls Try.prog 31 #[.agg (root.map u8v).toArray, .agg (k.map u8v).toArray, .agg (old.map u8v).toArray, .agg (v.map u8v).toArray, .agg (mpL lv (.slice a n c)).toArray] w fun e w' => e = .returned (.tuple #[.agg ((changedS root k old v lv ls).map u8v).toArray, .int .i64 (changedE root k old v lv ls)]) ∧ Ext w w' := by
  have HR := hid (show (root.map u8v).length = 32 by rw [List.length_map, hr])
  have HK := hid (show (k.map u8v).length = 32 by rw [List.length_map, hk])
  have HO := hid (show (old.map u8v).length = 32 by rw [List.length_map, ho])
  have HV := hid (show (v.map u8v).length = 32 by rw [List.length_map, hv])
  have HZ := hid (show (zero32.map u8v).length = 32 by rw [List.length_map, zero32_len])
  have HL33 := hid (mpL_length hlv (.slice a n c))
  have HLE : Hid (0 + 32 ≤ (mpL lv (.slice a n c)).length) := hid (by rw [mpL_length hlv]; omega)
  have HLV := hid (mpL_lev hlv (.slice a n c))
  have HAT := hid (mpL_at hlv (.slice a n c))
  have HC := hid hcl
  have HKL := hid hk
  have HN := hid hn
  have H32 := hid h32
  have HEZ := hid (fun w => eq_arr Try.underlying36 v zero32 hv zero32_len w)
  have HNZ := hid (fun w => neq_arr Try.underlying36 old zero32 ho zero32_len w)
  have hth := hid (fun w' h => there_c root k old lv ls a n c w' hr hk ho hlv hn hn63 h32 h)
  have hab := hid (fun w' h => absent_c root k lv ls a n c w' hr hk hlv hn hn63 h32 h)
  have hup := hid (fun s w' hs hcnt h => up_c lv k s ls a n c w' hlv hk hs hn hcnt h32 h)
  have hupl := hid (fun s hs => upL_length (lv := lv) (k := k) (ls := ls) (depL lv 256) s hs)
  have hmk := hid (fun w' => marked_c lv w' hlv)
  have hlf := hid (fun w' => single_c k v w' hk hv)
  have hlfl := hid (mleafL_length k v)
  have hth0 := hid (fun h => thereE_ok (root := root) (k := k) (old := old) (lv := lv) (ls := ls) h)
  have hab0 := hid (fun h => absentE_ok (root := root) (k := k) (lv := lv) (ls := ls) h)
  have hc256 := cntL_le lv 256
  have hd256 := depL_le lv 256
  obtain ⟨E, hE⟩ : ∃ E, changedE root k old v lv ls = E := ⟨_, rfl⟩
  obtain ⟨S, hS⟩ : ∃ S, changedS root k old v lv ls = S := ⟨_, rfl⟩
  rw [hE, hS]
  unfold changedE at hE
  unfold changedS freshL at hS
  rw [hn] at hS hth0 hab0
  generalize thereE root k old lv ls = tE at *
  generalize absentE root k lv ls = aE at *
  generalize depL lv 256 = D at *
  generalize cntL lv 256 = M at *
  generalize hvs : mpL lv (.slice a n c) = vs at *
  clear hr hk ho hlv hn h32 hcl hvs
  go_enter Try.func31, Try.ntmps31
  go_upto_region 1 with (fail)
  generalize hwA : World.alloc (World.alloc (World.alloc (World.alloc (World.alloc (World.alloc w _) _) _) _) _) _ = wA
  have rA : Blk wA w.heap.size (root.map u8v) 36 := by rw [← hwA]; exact (((((Blk.mk_alloc rfl rfl).alloc _).alloc _).alloc _).alloc _).alloc _
  have kA : Blk wA (w.heap.size + 1) (k.map u8v) 36 := by rw [← hwA]; exact ((((Blk.mk_alloc (by simp) rfl).alloc _).alloc _).alloc _).alloc _
  have oA : Blk wA (w.heap.size + 2) (old.map u8v) 36 := by rw [← hwA]; exact (((Blk.mk_alloc (by simp) rfl).alloc _).alloc _).alloc _
  have vA : Blk wA (w.heap.size + 3) (v.map u8v) 36 := by rw [← hwA]; exact ((Blk.mk_alloc (by simp) rfl).alloc _).alloc _
  have pA : Blk wA (w.heap.size + 4) vs 50 := by rw [← hwA]; exact (Blk.mk_alloc (by simp) rfl).alloc _
  have zA : Blk wA (w.heap.size + 5) (zero32.map u8v) 36 := by rw [← hwA, zero32_map]; exact Blk.mk_alloc (by simp) rfl
  have eA : Ext w wA := by rw [← hwA]; exact ((((((Ext.refl w).alloc _).alloc _).alloc _).alloc _).alloc _).alloc _
  clear hwA
  have RA := hid rA
  have KA := hid kA
  have OA := hid oA
  have VA := hid vA
  have PA := hid pA
  have ZA := hid zA
  have EA := hid eA
  clear rA kA oA vA pA zA eA
  cases hvz : (v == zero32) with
  | true =>
    rw [hvz, if_pos rfl] at hE hS
    rw [hvz] at HEZ
    subst hE hS
    go_wp2_with (first | (refine wpl_loadw rfl 36 (.tmp 8) rfl rfl VA.out agg_apisum HV.out ?_) | (refine wpg_cmp rfl .eql _ _ _ _ rfl rfl rfl guard_sum HEZ.out ?_) | (refine wpl_storew rfl _ (.tmp 10) _ rfl rfl rfl ZA.out agg_apisum HZ.out (xs := List.replicate 32 (.int .u8 0)) (by simp) (one_zeros 32) ?_))
    intro w4 b4 u4
    have b5 : Blk w4 (w.heap.size + 5) (zero32.map u8v) 36 := by rw [zero32_map]; exact b4
    go_wp2
    exact ret_row2 rfl rfl b5 agg_apisum HZ.out rfl ⟨rfl, u4.ext EA.out (by omega)⟩
  | false =>
    rw [hvz, if_neg (by decide)] at hE hS
    rw [hvz] at HEZ
    have hoz : (old == zero32) = false := by
      rcases hcase with h | h
      · rw [h] at hvz; cases hvz
      · exact h
    clear hvz hcase
    · have := 0
      rw [hoz, if_neg (by decide)] at hE hS
      rw [hoz] at HNZ
      clear hoz
      subst hE
      go_wp2_with (first | (refine wpl_loadw rfl 36 (.tmp 8) rfl rfl VA.out agg_apisum HV.out ?_) | (refine wpg_cmp rfl .eql _ _ _ _ rfl rfl rfl guard_sum HEZ.out ?_) | (refine wpg_cmp rfl .neq _ _ _ _ rfl rfl rfl guard_sum HNZ.out ?_) | (refine wpl_loadw rfl 36 (.tmp 7) rfl rfl OA.out agg_apisum HO.out ?_) | (refine wpl_loadw rfl 36 (.tmp 6) rfl rfl KA.out agg_apisum HK.out ?_) | (refine wpl_loadw rfl 36 (.tmp 5) rfl rfl RA.out agg_apisum HR.out ?_) | (refine wpl_loadw rfl 50 (.tmp 9) rfl rfl PA.out agg_mproof HL33.out ?_))
      refine (hth.out _ (HC.out.ext EA.out)).mono ?_
      rintro e wB ⟨rfl, eB⟩
      have RB := hid (RA.out.ext eB)
      have KB := hid (KA.out.ext eB)
      have OB := hid (OA.out.ext eB)
      have VB := hid (VA.out.ext eB)
      have PB := hid (PA.out.ext eB)
      have ZB := hid (ZA.out.ext eB)
      have EB := hid (EA.out.ext eB)
      clear eB RA KA OA VA PA ZA EA
      by_cases ht0 : tE = 0
      · rw [if_pos ht0] at hS
        have hnM := hth0.out ht0
        subst ht0
        have hupz := hid (fun w' h => hup.out (mleafL k v) w' hlfl.out (by omega) h)
        have hul := hupl.out _ hlfl.out
        rw [hS] at hul hupz
        generalize mleafL k v = lf at *
        have HLF := hid (show (lf.map u8v).length = 32 by rw [List.length_map, hlfl.out])
        have HSL : Hid ((S.map u8v).length = 32) := hid (by rw [List.length_map, hul])
        have os := one_u8 S
        have HS := hid hS
        clear hS hul hth hab hup hupl hmk hlfl hth0 hab0 HEZ HNZ hnM
        go_wp2_with fail
        obtain ⟨C, hC⟩ : ∃ C : World → Prop, C = Cls w wB [w.heap.size + 1, w.heap.size + 3, w.heap.size + 4] [(w.heap.size + 5, 32, 36)] := ⟨_, rfl⟩
        have hC0 : ∀ w', C w' ↔ Cls w wB [w.heap.size + 1, w.heap.size + 3, w.heap.size + 4] [(w.heap.size + 5, 32, 36)] w' := fun w' => by rw [hC]
        clear hC
        have HCC := hid hC0
        clear hC0
        have hCx : ∀ w w', C w → Ext w w' → C w' := fun w w' h1 h2 => (HCC.out w').2 (((HCC.out w).1 h1).ext h2)
        have hCA : C wB := (HCC.out _).2 (Cls.one_room EB.out (Kept.three KB.out.lt VB.out.lt PB.out.lt) ZB.out HZ.out)
        refine wp_region_held_drew (S := C) (by kernel_rfl) (hCx _ _ hCA (Ext.refl _).drew) (fun hS0 => ?_)
        refine held_take 0 (v := _) rfl (by kernel_rfl) (by kernel_rfl) (by kernel_rfl) (fun _ _ _ h => h) (yieldsI_loadw rfl 36 _ rfl rfl (fun w1 h => ((HCC.out w1).1 h).blk KB.out (by simp)) agg_apisum HK.out) hS0 ?_
        simp only [Act.put, List.setIfInBounds_toArray, List.set_cons_succ, List.set_cons_zero]
        refine held_take 1 (v := _) rfl (by kernel_rfl) (by kernel_rfl) (by kernel_rfl) (fun _ _ _ h => h) (yieldsI_loadw rfl 36 _ rfl rfl (fun w1 h => ((HCC.out w1).1 h).blk KB.out (by simp)) agg_apisum HK.out) hS0 ?_
        simp only [Act.put, List.setIfInBounds_toArray, List.set_cons_succ, List.set_cons_zero]
        refine held_take 2 (v := _) rfl (by kernel_rfl) (by kernel_rfl) (by kernel_rfl) (fun _ _ _ h => h) (yieldsI_loadw rfl 36 _ rfl rfl (fun w1 h => ((HCC.out w1).1 h).blk VB.out (by simp)) agg_apisum HV.out) hS0 ?_
        simp only [Act.put, List.setIfInBounds_toArray, List.set_cons_succ, List.set_cons_zero]
        refine held_take 4 (v := _) rfl (by kernel_rfl) (by kernel_rfl) (by kernel_rfl) (fun _ _ _ h => h) (yieldsI_loadw rfl 50 _ rfl rfl (fun w1 h => ((HCC.out w1).1 h).blk PB.out (by simp)) agg_mproof HL33.out) hS0 ?_
        simp only [Act.put, List.setIfInBounds_toArray, List.set_cons_succ, List.set_cons_zero]
        generalize wB.drew = wX at *
        refine held_one (i := 3) (by kernel_rfl) rfl ?_
        intro Q' hQ
        go_wp2_with fail
        refine (hlf.out _).mono ?_
        rintro e wY ⟨rfl, eq9⟩
        have hS9 := hCx _ _ hS0 eq9
        go_wp2_with fail
        refine hQ _ _ hS9 ?_
        clear hQ Q' hS0 eq9
        have hS0 := hS9
        clear hS9
        try dsimp only
        try simp only [Act.put, List.setIfInBounds_toArray, List.set_cons_succ, List.set_cons_zero]
        refine held_one (i := 5) (by kernel_rfl) rfl ?_
        intro Q' hQ
        go_wp2_with fail
        refine (hupz.out _ (HC.out.ext ((HCC.out _).1 hS0).base)).mono ?_
        rintro e wU ⟨rfl, eq9⟩
        have hS9 := hCx _ _ hS0 eq9
        go_wp2_with fail
        refine hQ _ _ hS9 ?_
        clear hQ Q' hS0 eq9
        have hS0 := hS9
        clear hS9
        try dsimp only
        try simp only [Act.put, List.setIfInBounds_toArray, List.set_cons_succ, List.set_cons_zero]
        obtain ⟨vz9, hvz9, zG9⟩ := ((HCC.out wU).1 hS0).at_room (r := w.heap.size + 5) (n := 32) (T := 36) (by simp)
        have ZG9 := hid zG9
        have HVZ9 := hid hvz9
        have HG9 := hid hS0
        clear zG9 hvz9 hS0
        refine held_one (i := 6) (by kernel_rfl) rfl ?_
        intro Q' hQ
        go_wp2_with (refine wpl_storew rfl _ _ _ rfl rfl rfl ZG9.out agg_apisum HVZ9.out HSL.out os ?_)
        intro wH b9 u9
        have hS0 : C wH := (HCC.out wH).2 (((HCC.out wU).1 HG9.out).store u9 b9 (by simp [HSL.out]) (by omega) (by simp <;> omega))
        go_wp2_with fail
        refine hQ _ _ hS0 ?_
        have B9 := hid b9
        clear hQ Q' b9 u9 ZG9 HVZ9 HG9
        try dsimp only
        try simp only [Act.put, List.setIfInBounds_toArray, List.set_cons_succ, List.set_cons_zero]
        refine held_take 7 (v := ?tv1) rfl (by kernel_rfl) (by kernel_rfl) (by kernel_rfl) (fun _ _ _ h => h) (.inl ⟨rfl, ?ty1⟩) hS0 ?tr1
        case ty1 => (intro _ _; go_simp; try with_reducible rfl)
        case tr1 =>
        simp only [Act.put, List.setIfInBounds_toArray, List.set_cons_succ, List.set_cons_zero]
        refine wpAnyH_done (by kernel_rfl) ?_ _
        have EH := hid ((HCC.out wH).1 hS0).base
        clear hS0 hCx hCA HCC
        go_wp2
        exact ret_row2 rfl rfl B9.out agg_apisum HSL.out rfl ⟨rfl, EH.out⟩
      · rw [if_neg ht0] at hS
        subst hS
        have g1 : (tE != 0) = true := by simp [ht0]
        go_wp2_with (first | (refine wpl_storew rfl _ (.tmp 10) _ rfl rfl rfl ZB.out agg_apisum HZ.out (xs := List.replicate 32 (.int .u8 0)) (by simp) (one_zeros 32) ?_))
        intro w4 b4 u4
        have b5 : Blk w4 (w.heap.size + 5) (zero32.map u8v) 36 := by rw [zero32_map]; exact b4
        go_wp2
        exact ret_row2 rfl rfl b5 agg_apisum HZ.out rfl ⟨rfl, u4.ext EB.out (by omega)⟩
end

section
open Go Go.RowKit

theorem Kept.five {W : World} {a b c d e : Nat} (ha : a < W.heap.size) (hb : b < W.heap.size) (hc : c < W.heap.size) (hd : d < W.heap.size) (he : e < W.heap.size) : Kept W [a, b, c, d, e] W := ⟨Nat.le_refl _, by simpa using ⟨ha, hb, hc, hd, he⟩, fun _ _ => rfl⟩

set_option maxRecDepth 100000 in
set_option maxHeartbeats 4000000 in
theorem changed_new_c (root k old v lv : List UInt8) (ls : List (List UInt8)) (a : Option Addr) (n c : Nat) (w : World) (hr : root.length = 32) (hk : k.length = 32) (ho : old.length = 32) (hv : v.length = 32) (hlv : lv.length = 32) (hn : ls.length = n) (hn63 : n ≤ 9223372036854775807) (h32 : All32 ls) (hcl : Cells w a (rows ls)) (hvz : (v == zero32) = false) (hoz : (old == zero32) = true) :
    Calls Try.prog 31 #[.agg (root.map u8v).toArray, .agg (k.map u8v).toArray, .agg (old.map u8v).toArray, .agg (v.map u8v).toArray, .agg (mpL lv (.slice a n c)).toArray] w fun e w' => e = .returned (.tuple #[.agg ((changedS root k old v lv ls).map u8v).toArray, .int .i64 (changedE root k old v lv ls)]) ∧ Ext w w' := by
  have HR := hid (show (root.map u8v).length = 32 by rw [List.length_map, hr])
  have HK := hid (show (k.map u8v).length = 32 by rw [List.length_map, hk])
  have HO := hid (show (old.map u8v).length = 32 by rw [List.length_map, ho])
  have HV := hid (show (v.map u8v).length = 32 by rw [List.length_map, hv])
  have HZ := hid (show (zero32.map u8v).length = 32 by rw [List.length_map, zero32_len])
  have HL33 := hid (mpL_length hlv (.slice a n c))
  have HLE : Hid (0 + 32 ≤ (mpL lv (.slice a n c)).length) := hid (by rw [mpL_length hlv]; omega)
  have HLV := hid (mpL_lev hlv (.slice a n c))
  have HAT := hid (mpL_at hlv (.slice a n c))
  have HC := hid hcl
  have HKL := hid hk
  have HN := hid hn
  have H32 := hid h32
  have HEZ := hid (fun w => eq_arr Try.underlying36 v zero32 hv zero32_len w)
  have HNZ := hid (fun w => neq_arr Try.underlying36 old zero32 ho zero32_len w)
  have hab := hid (fun w' h => absent_c root k lv ls a n c w' hr hk hlv hn hn63 h32 h)
  have hup := hid (fun s w' hs hcnt h => up_c lv k s ls a n c w' hlv hk hs hn hcnt h32 h)
  have hupl := hid (fun s hs => upL_length (lv := lv) (k := k) (ls := ls) (depL lv 256) s hs)
  have hmk := hid (fun w' => marked_c lv w' hlv)
  have hlf := hid (fun w' => single_c k v w' hk hv)
  have hlfl := hid (mleafL_length k v)
  have hab0 := hid (fun h => absentE_ok (root := root) (k := k) (lv := lv) (ls := ls) h)
  have hc256 := cntL_le lv 256
  have hd256 := depL_le lv 256
  obtain ⟨E, hE⟩ : ∃ E, changedE root k old v lv ls = E := ⟨_, rfl⟩
  obtain ⟨S, hS⟩ : ∃ S, changedS root k old v lv ls = S := ⟨_, rfl⟩
  rw [hE, hS]
  unfold changedE at hE
  unfold changedS freshL at hS
  rw [hn] at hS hab0
  generalize thereE root k old lv ls = tE at *
  generalize absentE root k lv ls = aE at *
  generalize depL lv 256 = D at *
  generalize cntL lv 256 = M at *
  generalize hvs : mpL lv (.slice a n c) = vs at *
  clear hr hk ho hlv hn h32 hcl hvs
  go_enter Try.func31, Try.ntmps31
  go_upto_region 1 with (fail)
  generalize hwA : World.alloc (World.alloc (World.alloc (World.alloc (World.alloc (World.alloc w _) _) _) _) _) _ = wA
  have rA : Blk wA w.heap.size (root.map u8v) 36 := by rw [← hwA]; exact (((((Blk.mk_alloc rfl rfl).alloc _).alloc _).alloc _).alloc _).alloc _
  have kA : Blk wA (w.heap.size + 1) (k.map u8v) 36 := by rw [← hwA]; exact ((((Blk.mk_alloc (by simp) rfl).alloc _).alloc _).alloc _).alloc _
  have oA : Blk wA (w.heap.size + 2) (old.map u8v) 36 := by rw [← hwA]; exact (((Blk.mk_alloc (by simp) rfl).alloc _).alloc _).alloc _
  have vA : Blk wA (w.heap.size + 3) (v.map u8v) 36 := by rw [← hwA]; exact ((Blk.mk_alloc (by simp) rfl).alloc _).alloc _
  have pA : Blk wA (w.heap.size + 4) vs 50 := by rw [← hwA]; exact (Blk.mk_alloc (by simp) rfl).alloc _
  have zA : Blk wA (w.heap.size + 5) (zero32.map u8v) 36 := by rw [← hwA, zero32_map]; exact Blk.mk_alloc (by simp) rfl
  have eA : Ext w wA := by rw [← hwA]; exact ((((((Ext.refl w).alloc _).alloc _).alloc _).alloc _).alloc _).alloc _
  clear hwA
  have RA := hid rA
  have KA := hid kA
  have OA := hid oA
  have VA := hid vA
  have PA := hid pA
  have ZA := hid zA
  have EA := hid eA
  clear rA kA oA vA pA zA eA
  rw [hvz, if_neg (by decide), hoz, if_pos rfl] at hE hS
  rw [hvz] at HEZ
  rw [hoz] at HNZ
  clear hvz hoz tE
  subst hE
  go_wp2_with (first | (refine wpl_loadw rfl 36 (.tmp 8) rfl rfl VA.out agg_apisum HV.out ?_) | (refine wpg_cmp rfl .eql _ _ _ _ rfl rfl rfl guard_sum HEZ.out ?_) | (refine wpg_cmp rfl .neq _ _ _ _ rfl rfl rfl guard_sum HNZ.out ?_) | (refine wpl_loadw rfl 36 (.tmp 7) rfl rfl OA.out agg_apisum HO.out ?_) | (refine wpl_loadw rfl 36 (.tmp 6) rfl rfl KA.out agg_apisum HK.out ?_) | (refine wpl_loadw rfl 36 (.tmp 5) rfl rfl RA.out agg_apisum HR.out ?_) | (refine wpl_loadw rfl 50 (.tmp 9) rfl rfl PA.out agg_mproof HL33.out ?_))
  refine (hab.out _ (HC.out.ext EA.out)).mono ?_
  rintro e wB ⟨rfl, eB⟩
  have RB := hid (RA.out.ext eB)
  have KB := hid (KA.out.ext eB)
  have OB := hid (OA.out.ext eB)
  have VB := hid (VA.out.ext eB)
  have PB := hid (PA.out.ext eB)
  have ZB := hid (ZA.out.ext eB)
  have EB := hid (EA.out.ext eB)
  clear eB RA KA OA VA PA ZA EA
  clear RB OB HEZ HNZ hab HR HO
  by_cases ht0 : aE = 0
  · rw [if_pos ht0] at hS
    have hdis := hab0.out ht0
    subst ht0
    clear hab0
    go_wp2_with (first | (refine wpl_loadw rfl 36 (.tmp 6) rfl rfl KB.out agg_apisum HK.out ?_) | (refine wpl_loadw rfl 36 (.tmp 8) rfl rfl VB.out agg_apisum HV.out ?_))
    refine (hlf.out _).mono ?_
    rintro e wC0 ⟨rfl, eC⟩
    have KC := hid (KB.out.ext eC)
    have PC := hid (PB.out.ext eC)
    have ZC := hid (ZB.out.ext eC)
    have EC := hid (EB.out.ext eC)
    clear eC KB PB ZB EB
    clear VB HV hlf
    have HLF := hid (show ((mleafL k v).map u8v).length = 32 by rw [List.length_map, hlfl.out])
    have olf := one_u8 (mleafL k v)
    have hg9 : w.heap.size + 5 < wC0.heap.size := ZC.out.lt
    generalize mleafL k v = lf at *
    have HS := hid hS
    clear hS
    go_wp2_with (first | (refine wpl_storew rfl _ (.tmp 14) _ rfl rfl rfl (Blk.mk_alloc (vs := List.replicate 32 (.int .u8 0)) rfl rfl) agg_apisum (by simp) HLF.out olf ?_))
    intro wD bD uD
    have eD : Ext wC0 wD := uD.ext ((Ext.refl wC0).alloc _) (Nat.le_refl _)
    have SD := hid bD
    have KD := hid (KC.out.ext eD)
    have PD := hid (PC.out.ext eD)
    have ZD := hid (ZC.out.ext eD)
    have ED := hid (EC.out.ext eD)
    clear eD KC PC ZC EC
    clear uD bD
    generalize wC0.heap.size = g9 at *
    go_wp2_with (first | (refine wpl_loadp rfl 35 _ rfl rfl PD.out agg_lev HLE.out HLV.out ?_))
    refine (hmk.out _).mono ?_
    rintro e wE ⟨rfl, eE⟩
    have KE := hid (KD.out.ext eE)
    have PE := hid (PD.out.ext eE)
    have ZE := hid (ZD.out.ext eE)
    have SE := hid (SD.out.ext eE)
    have EE := hid (ED.out.ext eE)
    clear eE KD PD ZD SD ED
    clear hmk HLE HLV
    have c32 : wE.cell? ⟨w.heap.size + 4, 32, none⟩ = some (.slice a n c) := PE.out.cell' HAT.out
    by_cases hnm : n = M
    · have hS := HS.out
      rw [if_pos hnm] at hS
      clear HS hdis
      subst hnm
      have g1 : decide ((n : Int) > (n : Int)) = false := decide_eq_false (by omega)
      have g2 : decide ((n : Int) < (n : Int)) = false := decide_eq_false (by omega)
      have hupz := hid (fun w' h => hup.out lf w' hlfl.out (Nat.le_refl _) h)
      have hul := hupl.out lf hlfl.out
      rw [hS] at hul hupz
      have HSL : Hid ((S.map u8v).length = 32) := hid (by rw [List.length_map, hul])
      have os := one_u8 S
      clear hS hul hup hupl
      go_wp2_with (first | (refine wpl_loadw rfl 36 (.tmp 6) rfl rfl KE.out agg_apisum HK.out ?_) | (refine wpl_loadw rfl 36 (.tmp 14) rfl rfl SE.out agg_apisum HLF.out ?_) | (refine wpl_loadw rfl 50 (.tmp 9) rfl rfl PE.out agg_mproof HL33.out ?_))
      refine (hupz.out _ (HC.out.ext EE.out)).mono ?_
      rintro e wU ⟨rfl, eU⟩
      have ZU := hid (ZE.out.ext eU)
      have EU := hid (EE.out.ext eU)
      clear eU ZE EE
      go_wp2_with (first | (refine wpl_storew rfl _ (.tmp 10) _ rfl rfl rfl ZU.out agg_apisum HZ.out HSL.out os ?_))
      intro w4 b4 u4
      go_wp2
      exact ret_row2 rfl rfl b4 agg_apisum HSL.out rfl ⟨rfl, u4.ext EU.out (by omega)⟩
    · obtain ⟨hn2, hne, hdt⟩ := hdis.resolve_left hnm
      have hS := HS.out
      rw [if_neg hnm] at hS
      obtain ⟨o, ho⟩ : ∃ o, ls[M]? = some o := ⟨ls[M]'(by rw [HN.out]; omega), by simp⟩
      obtain ⟨u, hu⟩ : ∃ u, ls[M + 1]? = some u := ⟨ls[M + 1]'(by rw [HN.out]; omega), by simp⟩
      have hol : o.length = 32 := H32.out.at ho
      have hul : u.length = 32 := H32.out.at hu
      obtain ⟨A, rfl, hca, hcb⟩ : ∃ A, a = some A ∧ CellsAt w (A.add (M * 32)) (o.map u8v) ∧ CellsAt w (A.add ((M + 1) * 32)) (u.map u8v) := by
        cases a with
        | none => rcases HC.out with h | ⟨_, _, h, _⟩
                  · have := rows_length H32.out; rw [h, HN.out] at this; simp at this; omega
                  · cases h
        | some A => exact ⟨A, rfl, HC.out.rowAt H32.out ho, HC.out.rowAt H32.out hu⟩
      have hS2 : upL lv k ls D (downL k D (difL o k) (sideL k (difL o k) lf (mleafL o u))) = S := by rw [ho, hu] at hS; exact hS
      have hne2 : o ≠ k := by rw [ho] at hne; exact hne
      have hdt2 : D ≤ difL o k := by rw [ho] at hdt; exact hdt
      have hdl := difL_lt hol HKL.out hne2
      have HO := hid (show (o.map u8v).length = 32 by rw [List.length_map, hol])
      have HU := hid (show (u.map u8v).length = 32 by rw [List.length_map, hul])
      have oo := one_u8 o
      have hdf := hid (fun w' => differs_c o k w' hol HKL.out)
      have hl2 := hid (fun w' => single_c o u w' hol hul)
      have hl2l := mleafL_length o u
      have hsdz := hid (fun i s w' hs h => side_c k s zero32 i w' HKL.out hs zero32_len h)
      clear hS HS hne hdt hnm hne2 ho hu hdis
      generalize mleafL o u = l2 at *
      generalize difL o k = t at *
      have hsd := hid (fun w' => side_c k lf l2 t w' HKL.out hlfl.out hl2l hdl)
      have hsl := hid (sideL_length k t lf l2)
      have HQ := hid (show ((sideL k t lf l2).map u8v).length = 32 by rw [List.length_map, hsl.out])
      have oq := one_u8 (sideL k t lf l2)
      generalize sideL k t lf l2 = q0 at *
      obtain ⟨F, hF⟩ : ∃ F, downL k D t q0 = F := ⟨_, rfl⟩
      rw [hF] at hS2
      have hFl : F.length = 32 := by rw [← hF]; exact downL_length _ _ hsl.out
      have hupz := hid (fun w' h => hup.out F w' hFl (by omega) h)
      have hul2 := hupl.out F hFl
      rw [hS2] at hul2 hupz
      have HSL : Hid ((S.map u8v).length = 32) := hid (by rw [List.length_map, hul2])
      have os := one_u8 S
      have HFV := hid (show (F.map u8v).length = 32 by rw [List.length_map, hFl])
      have HFE := hid hF
      obtain ⟨M1, hM1⟩ : ∃ M1, M1 = M + 1 := ⟨_, rfl⟩
      have hM1n : M1 < n := by omega
      have hMn : M < n := by omega
      rw [← hM1] at hcb
      have g1 : decide ((n : Int) > (M : Int)) = true := decide_eq_true (by omega)
      have g2 : decide ((M : Int) < (n : Int)) = true := decide_eq_true (by omega)
      have g3 : decide (M < n) = true := decide_eq_true hMn
      have hwm : IntKind.i64.wrap ((M : Int) + 1) = (M1 : Int) := by rw [IntWalk.i64_in _ (by omega)]; omega
      have HN2 := hid hn2
      have HCA := hid (hca.ext EE.out)
      have HCB := hid (hcb.ext EE.out)
      have HCB0 := hid hcb
      clear hca hcb hol hul hl2l hS2 hF hFl hul2 hup hupl hn2 hM1 H32 HN
      have hg10 : g9 < wE.heap.size := SE.out.lt
      go_wp2_with (first | (refine wpl_run rfl (exec_index (i := M) rfl rfl rfl Try.underlying22 size_apisum hMn wE) ?_) | (refine wpl_run rfl (exec_load_at rfl rfl HCA.out agg_apisum HO.out) ?_) | (refine wpl_storew rfl _ (.tmp 17) _ rfl rfl rfl (Blk.mk_alloc (vs := List.replicate 32 (.int .u8 0)) rfl rfl) agg_apisum (by simp) HO.out oo ?_))
      intro wF bF uF
      have eF : Ext wE wF := uF.ext ((Ext.refl wE).alloc _) (Nat.le_refl _)
      have OF := hid bF
      have HCBF := hid (HCB.out.ext eF)
      have KF := hid (KE.out.ext eF)
      have PF := hid (PE.out.ext eF)
      have ZF := hid (ZE.out.ext eF)
      have SF := hid (SE.out.ext eF)
      have EF := hid (EE.out.ext eF)
      clear eF KE PE ZE SE EE
      clear uF bF HCA HCB c32
      generalize wE.heap.size = g10 at *
      go_wp2_with (first | (refine wpl_loadw rfl 36 (.tmp 6) rfl rfl KF.out agg_apisum HK.out ?_) | (refine wpl_loadw rfl 36 (.tmp 17) rfl rfl OF.out agg_apisum HO.out ?_))
      refine (hdf.out _).mono ?_
      rintro e wG ⟨rfl, eG⟩
      have HCBG := hid (HCBF.out.ext eG)
      have KG := hid (KF.out.ext eG)
      have PG := hid (PF.out.ext eG)
      have ZG := hid (ZF.out.ext eG)
      have SG := hid (SF.out.ext eG)
      have OG := hid (OF.out.ext eG)
      have EG := hid (EF.out.ext eG)
      clear eG KF PF ZF SF OF EF
      clear HCBF hdf
      go_wp2_with fail
      obtain ⟨C, hC⟩ : ∃ C : World → Prop, C = Cls w wG [w.heap.size + 1, w.heap.size + 4, g9, g10, w.heap.size + 5] [] := ⟨_, rfl⟩
      have hC0 : ∀ w', C w' ↔ Cls w wG [w.heap.size + 1, w.heap.size + 4, g9, g10, w.heap.size + 5] [] w' := fun w' => by rw [hC]
      clear hC
      have HCC := hid hC0
      clear hC0
      have hCx : ∀ w w', C w → Ext w w' → C w' := fun w w' h1 h2 => (HCC.out w').2 (((HCC.out w).1 h1).ext h2)
      have hCA : C wG := (HCC.out _).2 (Cls.no_room EG.out (Kept.five KG.out.lt PG.out.lt SG.out.lt OG.out.lt ZG.out.lt))
      have e32 : ∀ w1, C w1 → w1.cell? ⟨w.heap.size + 4, 32, none⟩ = some (.slice (some A) n c) := fun w1 h1 => (((HCC.out w1).1 h1).blk PG.out (by simp)).cell' HAT.out
      have hcb : ∀ w1, C w1 → CellsAt w1 (A.add (M1 * 32)) (u.map u8v) := fun w1 h1 => HCB0.out.ext ((HCC.out w1).1 h1).base
      refine wp_region_w (S := C) (W := [12]) (by kernel_rfl) (hCx _ _ hCA (Ext.refl _).drew) (fun hS0 => ?_)
      refine w_take 0 (v := _) rfl (by kernel_rfl) (by kernel_rfl) (by kernel_rfl) (by kernel_rfl) (by kernel_rfl) (fun _ _ _ h => h) (yieldsI_loadw rfl 36 _ rfl rfl (fun w1 h => ((HCC.out w1).1 h).blk KG.out (by simp)) agg_apisum HK.out) hS0 ?_
      simp only [Act.put, List.setIfInBounds_toArray, List.set_cons_succ, List.set_cons_zero]
      refine w_pure 1 (v := ?tv1) rfl (by kernel_rfl) (by kernel_rfl) (by kernel_rfl) (fun _ _ _ h => h) (.inl ⟨rfl, ?ty1⟩) ?tr1
      case ty1 => (intro _ _; go_simp; try with_reducible rfl)
      case tr1 =>
      simp only [Act.put, List.setIfInBounds_toArray, List.set_cons_succ, List.set_cons_zero]
      refine w_take 2 (v := _) rfl (by kernel_rfl) (by kernel_rfl) (by kernel_rfl) (by kernel_rfl) (by kernel_rfl) (fun _ _ _ h => h) (yieldsI_loadw rfl 36 _ rfl rfl (fun w1 h => ((HCC.out w1).1 h).blk SG.out (by simp)) agg_apisum HLF.out) hS0 ?_
      simp only [Act.put, List.setIfInBounds_toArray, List.set_cons_succ, List.set_cons_zero]
      refine w_take 3 (v := _) rfl (by kernel_rfl) (by kernel_rfl) (by kernel_rfl) (by kernel_rfl) (by kernel_rfl) (fun _ _ _ h => h) (yieldsI_loadw rfl 36 _ rfl rfl (fun w1 h => ((HCC.out w1).1 h).blk OG.out (by simp)) agg_apisum HO.out) hS0 ?_
      simp only [Act.put, List.setIfInBounds_toArray, List.set_cons_succ, List.set_cons_zero]
      refine w_pure 4 (v := ?tv2) rfl (by kernel_rfl) (by kernel_rfl) (by kernel_rfl) (fun _ _ _ h => h) (.inl ⟨rfl, ?ty2⟩) ?tr2
      case ty2 => (intro _ _; go_simp; try with_reducible rfl)
      case tr2 =>
      simp only [Act.put, List.setIfInBounds_toArray, List.set_cons_succ, List.set_cons_zero]
      refine w_take 5 (v := ?tv3) rfl (by kernel_rfl) (by kernel_rfl) (by kernel_rfl) (by kernel_rfl) (by kernel_rfl) (fun _ _ _ h => h) (.inl ⟨rfl, ?ty3⟩) hS0 ?tr3
      case ty3 => (intro wq hwq; have hcq := (e32) wq hwq; go_simp; try with_reducible rfl)
      case tr3 =>
      simp only [Act.put, List.setIfInBounds_toArray, List.set_cons_succ, List.set_cons_zero]
      refine w_pure 6 (v := ?tv4) rfl (by kernel_rfl) (by kernel_rfl) (by kernel_rfl) (fun _ _ _ h => h) (.inl ⟨rfl, ?ty4⟩) ?tr4
      case ty4 => (intro _ _; go_simp; try with_reducible rfl)
      case tr4 =>
      simp only [Act.put, List.setIfInBounds_toArray, List.set_cons_succ, List.set_cons_zero]
      refine w_pure 7 (v := ?tv5) rfl (by kernel_rfl) (by kernel_rfl) (by kernel_rfl) (fun _ _ _ h => h) (.inl ⟨rfl, ?ty5⟩) ?tr5
      case ty5 => (intro _ _; go_simp; try with_reducible rfl)
      case tr5 =>
      simp only [Act.put, List.setIfInBounds_toArray, List.set_cons_succ, List.set_cons_zero]
      refine w_pure 8 (v := _) rfl (by kernel_rfl) (by kernel_rfl) (by kernel_rfl) (fun _ _ _ h => h) (yieldsI_run rfl (fun w1 _ => exec_index (i := M1) rfl rfl rfl Try.underlying22 size_apisum hM1n w1)) ?_
      simp only [Act.put, List.setIfInBounds_toArray, List.set_cons_succ, List.set_cons_zero]
      refine w_take 9 (v := _) rfl (by kernel_rfl) (by kernel_rfl) (by kernel_rfl) (by kernel_rfl) (by kernel_rfl) (fun _ _ _ h => h) (yieldsI_run rfl (fun w1 h => exec_load_at rfl rfl (hcb w1 h) agg_apisum HU.out)) hS0 ?_
      simp only [Act.put, List.setIfInBounds_toArray, List.set_cons_succ, List.set_cons_zero]
      clear hwm
      generalize wG.drew = wX at *
      refine w_one (i := 10) (by kernel_rfl) rfl (by kernel_rfl) hS0 ?_
      intro Q' hQ
      go_wp2_with fail
      refine (hl2.out _).mono ?_
      rintro e wY ⟨rfl, eq9⟩
      have hS9 := hCx _ _ hS0 eq9
      go_wp2_with fail
      refine hQ _ _ hS9 ?_
      clear hQ Q' hS0 eq9
      have hS0 := hS9
      clear hS9
      try dsimp only
      try simp only [Act.put, List.setIfInBounds_toArray, List.set_cons_succ, List.set_cons_zero]
      refine w_one (i := 11) (by kernel_rfl) rfl (by kernel_rfl) hS0 ?_
      intro Q' hQ
      go_wp2_with fail
      refine (hsd.out _).mono ?_
      rintro e wH ⟨rfl, eq9⟩
      have hS9 := hCx _ _ hS0 eq9
      go_wp2_with fail
      refine hQ _ _ hS9 ?_
      clear hQ Q' hS0 eq9
      have hS0 := hS9
      clear hS9
      try dsimp only
      try simp only [Act.put, List.setIfInBounds_toArray, List.set_cons_succ, List.set_cons_zero]
      have KH := hid (((HCC.out wH).1 hS0).blk KG.out (by simp))
      have PH := hid (((HCC.out wH).1 hS0).blk PG.out (by simp))
      have SH := hid (((HCC.out wH).1 hS0).blk SG.out (by simp))
      have ZH := hid (((HCC.out wH).1 hS0).blk ZG.out (by simp))
      have EH := hid ((HCC.out wH).1 hS0).base
      clear hS0 hCx hCA HCC e32 hcb KG PG SG ZG OG EG HCBG
      refine w_late (i := 12) (by kernel_rfl) rfl (by kernel_rfl) ?_
      intro Q' hQ
      go_wp2_with (refine wpl_storew rfl _ _ _ rfl rfl rfl SH.out agg_apisum HLF.out HQ.out oq ?_)
      intro wI bI uI
      go_wp2_with fail
      refine hQ _ _ trivial ?_
      clear hQ Q'
      have SI := hid bI
      have KI := hid (KH.out.upd uI (by omega))
      have PI := hid (PH.out.upd uI (by omega))
      have ZI := hid (ZH.out.upd uI (by omega))
      have EI := hid (uI.ext EH.out (by omega))
      clear uI KH PH ZH EH
      clear bI SH
      refine w_done (by kernel_rfl) ?_ _
      go_wp2
      go_loopw [19] (fun x wr => ∃ (i : Nat) (z : Int) (q : List UInt8), z + 1 = i ∧ D ≤ i ∧ i ≤ 256 ∧ x = .int .i64 z ∧ q.length = 32 ∧ downL k D i q = F ∧ Blk wr g9 (q.map u8v) 36 ∧ Blk wr (w.heap.size + 1) (k.map u8v) 36 ∧ Blk wr (w.heap.size + 4) vs 50 ∧ Blk wr (w.heap.size + 5) (zero32.map u8v) 36 ∧ Ext w wr) (fun x _ => ((intOf x) + 1).toNat)
      case atStart => exact ⟨t, (t : Int) - 1, q0, by omega, hdt2, by omega, by first | rfl | go_num, hsl.out, HFE.out, SI.out, KI.out, PI.out, ZI.out, EI.out⟩
      case round =>
        obtain ⟨i, z, q, hz, hDi, hi, rfl, hq, hdown, hS, hK, hP, hZ, hE⟩ := hrel
        have KW := hid hK
        have SW := hid hS
        have PW := hid hP
        have ZW := hid hZ
        have EW := hid hE
        clear hK hS hP hZ hE SI KI PI ZI EI HFE hsl HQ oq hsd
        have HQ := hid (show (q.map u8v).length = 32 by rw [List.length_map, hq])
        by_cases hlt : D < i
        · obtain ⟨j, rfl⟩ : ∃ j, i = j + 1 := ⟨i - 1, by omega⟩
          obtain rfl : z = (j : Int) := by omega
          have hst : downL k D (j + 1) q = downL k D j (sideL k j q zero32) := by simp only [downL]; rw [if_pos (by omega)]
          rw [hst] at hdown
          have h1 := hid (fun w' => hsdz.out j q w' hq (by omega))
          have hql := hid (sideL_length k j q zero32)
          generalize sideL k j q zero32 = q2 at *
          have HQ2 := hid (show (q2.map u8v).length = 32 by rw [List.length_map, hql.out])
          have oq2 := one_u8 q2
          have HDN := hid hdown
          have g4 : decide ((j : Int) ≥ (D : Int)) = true := decide_eq_true (by omega)
          have g5 : decide ((D : Int) ≤ (j : Int)) = true := decide_eq_true (by omega)
          have g6 : decide (D ≤ j) = true := decide_eq_true (by omega)
          clear hst hdown hq
          go_wp2_with (first | (refine wpl_loadw rfl 36 (.tmp 6) rfl rfl KW.out agg_apisum HK.out ?_) | (refine wpl_loadw rfl 36 (.tmp 14) rfl rfl SW.out agg_apisum HQ.out ?_))
          refine (h1.out _).mono ?_
          rintro e wJ ⟨rfl, eJ⟩
          have KJ := hid (KW.out.ext eJ)
          have PJ := hid (PW.out.ext eJ)
          have ZJ := hid (ZW.out.ext eJ)
          have SJ := hid (SW.out.ext eJ)
          have EJ := hid (EW.out.ext eJ)
          clear eJ KW PW ZW SW EW
          go_wp2_with (refine wpl_storew rfl _ _ _ rfl rfl rfl SJ.out agg_apisum HQ.out HQ2.out oq2 ?_)
          intro wL bL uL
          have SL := hid bL
          have KL := hid (KJ.out.upd uL (by omega))
          have PL := hid (PJ.out.upd uL (by omega))
          have ZL := hid (ZJ.out.upd uL (by omega))
          have EL := hid (uL.ext EJ.out (by omega))
          clear uL KJ PJ ZJ EJ
          go_wp2
          go_roundw
          case rel => exact ⟨j, (j : Int) - 1, q2, by omega, by omega, by omega, by first | rfl | go_num, hql.out, HDN.out, SL.out, KL.out, PL.out, ZL.out, EL.out⟩
          case measure => first | (simp [intOf]; done) | (simp [intOf]; omega)
        · obtain rfl : i = D := by omega
          rw [downL_self] at hdown
          subst hdown
          have g4 : decide (z ≥ (i : Int)) = false := decide_eq_false (by omega)
          have g5 : decide ((i : Int) ≤ z) = false := decide_eq_false (by omega)
          clear hsdz hq
          go_wp2_with (first | (refine wpl_loadw rfl 36 (.tmp 6) rfl rfl KW.out agg_apisum HK.out ?_) | (refine wpl_loadw rfl 36 (.tmp 14) rfl rfl SW.out agg_apisum HQ.out ?_) | (refine wpl_loadw rfl 50 (.tmp 9) rfl rfl PW.out agg_mproof HL33.out ?_))
          refine (hupz.out _ (HC.out.ext EW.out)).mono ?_
          rintro e wU ⟨rfl, eU⟩
          have ZU := hid (ZW.out.ext eU)
          have EU := hid (EW.out.ext eU)
          clear eU ZW EW
          go_wp2_with (first | (refine wpl_storew rfl _ (.tmp 10) _ rfl rfl rfl ZU.out agg_apisum HZ.out HSL.out os ?_))
          intro w4 b4 u4
          go_wp2
          exact ret_row2 rfl rfl b4 agg_apisum HSL.out rfl ⟨rfl, u4.ext EU.out (by omega)⟩
  · rw [if_neg ht0] at hS
    subst hS
    have g1 : (aE != 0) = true := by simp [ht0]
    go_wp2_with (first | (refine wpl_storew rfl _ (.tmp 10) _ rfl rfl rfl ZB.out agg_apisum HZ.out (xs := List.replicate 32 (.int .u8 0)) (by simp) (one_zeros 32) ?_))
    intro w4 b4 u4
    have b5 : Blk w4 (w.heap.size + 5) (zero32.map u8v) 36 := by rw [zero32_map]; exact b4
    go_wp2
    exact ret_row2 rfl rfl b5 agg_apisum HZ.out rfl ⟨rfl, u4.ext EB.out (by omega)⟩

theorem changed_c (root k old v lv : List UInt8) (ls : List (List UInt8)) (a : Option Addr) (n c : Nat) (w : World) (hr : root.length = 32) (hk : k.length = 32) (ho : old.length = 32) (hv : v.length = 32) (hlv : lv.length = 32) (hn : ls.length = n) (hn63 : n ≤ 9223372036854775807) (h32 : All32 ls) (hcl : Cells w a (rows ls)) :
    Calls Try.prog 31 #[.agg (root.map u8v).toArray, .agg (k.map u8v).toArray, .agg (old.map u8v).toArray, .agg (v.map u8v).toArray, .agg (mpL lv (.slice a n c)).toArray] w fun e w' => e = .returned (.tuple #[.agg ((changedS root k old v lv ls).map u8v).toArray, .int .i64 (changedE root k old v lv ls)]) ∧ Ext w w' := by
  cases hvz : (v == zero32) with
  | true => exact changed_old_c root k old v lv ls a n c w hr hk ho hv hlv hn hn63 h32 hcl (.inl hvz)
  | false =>
    cases hoz : (old == zero32) with
    | false => exact changed_old_c root k old v lv ls a n c w hr hk ho hv hlv hn hn63 h32 hcl (.inr hoz)
    | true => exact changed_new_c root k old v lv ls a n c w hr hk ho hv hlv hn hn63 h32 hcl hvz hoz
end

section
open Go Go.RowKit

theorem fields_entry : (Try.prog.underlying 88).bind (fun d => match d with | .struct fields => fields.toList.mapM (fun f => (Try.prog.info? f.type).map fun i => (f.offset, i.size)) | _ => none) = some [(0, 32), (32, 32)] := by kernel_rfl
theorem fill_two (cells : Array Value) (x y : Value) : Instr.fill (fun i => [(0, 32), (32, 32)].toArray[i]?) cells [(0, x), (1, y)] = Instr.fill (fun i => some (i * 32, 32)) cells [(0, x), (1, y)] := by
  simp only [Instr.fill]
  rfl
theorem built_entry (x y : List UInt8) (hx : x.length = 32) (hy : y.length = 32) : Try.prog.built 88 [(0, .agg (x.map u8v).toArray), (1, .agg (y.map u8v).toArray)] = some ((x ++ y).map u8v).toArray := by
  obtain ⟨i0, hi, hz, hsz, hb1⟩ := info_parts info_entry
  have hf := fields_entry
  rw [Try.underlying88] at hf
  simp only [Option.bind_some] at hf
  unfold Program.built
  rw [hi, Try.underlying88]
  simp only [hz, hf]
  rw [fill_two]
  have h := Great.fill_whole (s := 32) (by omega) [.agg (x.map u8v).toArray, .agg (y.map u8v).toArray] (Value.agg (List.replicate 64 (.int .u8 0)).toArray).cells (by intro v hv; simp only [List.mem_cons, List.not_mem_nil, or_false] at hv; rcases hv with rfl | rfl <;> simp [Value.cells, hx, hy]) (by rw [zentry_size]; rfl)
  simpa [Value.cells] using h
theorem exec_entry {o : Oper} {a : Act} {p q : Operand} {x y : List UInt8} (ho : o.op = .build 88 #[(0, p), (1, q)]) (hp : a.eval p = .agg (x.map u8v).toArray) (hq : a.eval q = .agg (y.map u8v).toArray) (hx : x.length = 32) (hy : y.length = 32) (w : World) :
    (execOp a.eval o).run Try.prog w = .ok (.value (.agg ((x ++ y).map u8v).toArray)) w := by
  have h := run_build (P := Try.prog) w 88 #[(0, .agg (x.map u8v).toArray), (1, .agg (y.map u8v).toArray)] _ (built_entry x y hx hy)
  have he : (#[(0, p), (1, q)].map fun (r : Nat × Operand) => (r.1, a.eval r.2)) = #[(0, .agg (x.map u8v).toArray), (1, .agg (y.map u8v).toArray)] := by simp [hp, hq]
  unfold execOp
  simp only [ho, Sem.run_bind]
  have h2 : (Instr.build 88 (#[(0, p), (1, q)].map fun (r : Nat × Operand) => (r.1, a.eval r.2))).run Try.prog w = .ok (.agg ((x ++ y).map u8v).toArray) w := by rw [he]; exact h
  rw [h2]
  rfl
theorem wpl_entries {ops : Array Oper} {rest : List Oper} {o : Oper} {a : Act} {w : World} {Q : Exit → Act → World → Prop} (hgd : o.guard = none) {p q : Operand} {x y : List UInt8} (ho : o.op = .buildSlice 89 2 #[(0, p), (1, q)]) (hp : a.eval p = .agg (x.map u8v).toArray) (hq : a.eval q = .agg (y.map u8v).toArray) (hx : x.length = 64) (hy : y.length = 64)
    (h : wpList Try.prog ops Q rest (a.put o.dst (.slice (some ⟨w.heap.size, 0, none⟩) 2 2)) (w.alloc (.cells (rows [x, y]).toArray 88))) : wpList Try.prog ops Q (o :: rest) a w := by
  obtain ⟨i0, hi, hz, hsz, hb1⟩ := info_parts info_entry
  refine wpl_step hgd ?_ h
  have hf : ∀ cells : Array Value, cells.size = 128 → Instr.fill (fun i => some (i * 64, 64)) cells [(0, .agg (x.map u8v).toArray), (1, .agg (y.map u8v).toArray)] = some (rows [x, y]).toArray := by
    intro cells hc
    have h := Great.fill_whole (s := 64) (by omega) [.agg (x.map u8v).toArray, .agg (y.map u8v).toArray] cells (by intro v hv; simp only [List.mem_cons, List.not_mem_nil, or_false] at hv; rcases hv with rfl | rfl <;> simp [Value.cells, hx, hy]) (by simp [hc])
    simpa [Value.cells, rows] using h
  have h1 := run_buildSlice (P := Try.prog) w 89 88 2 #[(0, .agg (x.map u8v).toArray), (1, .agg (y.map u8v).toArray)] (rows [x, y]).toArray i0 _ Try.underlying89 hi hz (by rw [hsz]; omega) (by rw [hsz]; omega) (by rw [hsz]; exact hf _ (by simp))
  have he : (#[(0, p), (1, q)].map fun (r : Nat × Operand) => (r.1, a.eval r.2)) = #[(0, .agg (x.map u8v).toArray), (1, .agg (y.map u8v).toArray)] := by simp [hp, hq]
  have h2 : (Instr.buildSlice 89 2 (#[(0, p), (1, q)].map fun (r : Nat × Operand) => (r.1, a.eval r.2))).run Try.prog w = .ok (.slice (some ⟨w.heap.size, 0, none⟩) 2 2) (w.alloc (.cells (rows [x, y]).toArray 88)) := by rw [he]; exact h1
  unfold execOp
  simp only [ho, Sem.run_bind]
  rw [h2]
  rfl
end

section
open Go Go.RowKit

set_option maxRecDepth 100000 in
set_option maxHeartbeats 4000000 in
theorem rchanged_old_c (root k old v lv : List UInt8) (ls : List (List UInt8)) (a : Option Addr) (n c : Nat) (w : World) (hr : root.length = 32) (hk : k.length = 32) (ho : old.length = 32) (hv : v.length = 32) (hlv : lv.length = 32) (hn : ls.length = n) (hn63 : n ≤ 9223372036854775807) (h32 : All32 ls) (hcl : Cells w a (rows ls)) (hcase : (v == zero32) = true ∨ (old == zero32) = false) :
    Calls Try.prog 32 #[.agg (root.map u8v).toArray, .agg (k.map u8v).toArray, .agg (old.map u8v).toArray, .agg (v.map u8v).toArray, .agg (mpL lv (.slice a n c)).toArray] w fun e w' => e = .returned (.tuple #[.agg ((changedS root k old v lv ls).map u8v).toArray, .int .i64 (changedE root k old v lv ls)]) ∧ Ext w w' := by
  have HR := hid (show (root.map u8v).length = 32 by rw [List.length_map, hr])
  have HK := hid (show (k.map u8v).length = 32 by rw [List.length_map, hk])
  have HO := hid (show (old.map u8v).length = 32 by rw [List.length_map, ho])
  have HV := hid (show (v.map u8v).length = 32 by rw [List.length_map, hv])
  have HZ := hid (show (zero32.map u8v).length = 32 by rw [List.length_map, zero32_len])
  have HL33 := hid (mpL_length hlv (.slice a n c))
  have HLE : Hid (0 + 32 ≤ (mpL lv (.slice a n c)).length) := hid (by rw [mpL_length hlv]; omega)
  have HLV := hid (mpL_lev hlv (.slice a n c))
  have HAT := hid (mpL_at hlv (.slice a n c))
  have HC := hid hcl
  have HKL := hid hk
  have HN := hid hn
  have H32 := hid h32
  have HEZ := hid (fun w => eq_arr Try.underlying36 v zero32 hv zero32_len w)
  have HNZ := hid (fun w => neq_arr Try.underlying36 old zero32 ho zero32_len w)
  have hth := hid (fun w' h => rthere_c root k old lv ls a n c w' hr hk ho hlv hn hn63 h32 h)
  have hab := hid (fun w' h => rabsent_c root k lv ls a n c w' hr hk hlv hn hn63 h32 h)
  have hup := hid (fun s w' hs hcnt h => rup_c lv k s ls a n c w' hlv hk hs hn hcnt h32 h)
  have hupl := hid (fun s hs => upL_length (lv := lv) (k := k) (ls := ls) (depL lv 256) s hs)
  have hmk := hid (fun w' => depth_c lv (.slice a n c) w' hlv)
  have hlf := hid (fun w' => rleafOf_c k v w' hk hv)
  have hlfl := hid (mleafL_length k v)
  have hth0 := hid (fun h => thereE_ok (root := root) (k := k) (old := old) (lv := lv) (ls := ls) h)
  have hab0 := hid (fun h => absentE_ok (root := root) (k := k) (lv := lv) (ls := ls) h)
  have hc256 := cntL_le lv 256
  have hd256 := depL_le lv 256
  obtain ⟨E, hE⟩ : ∃ E, changedE root k old v lv ls = E := ⟨_, rfl⟩
  obtain ⟨S, hS⟩ : ∃ S, changedS root k old v lv ls = S := ⟨_, rfl⟩
  rw [hE, hS]
  unfold changedE at hE
  unfold changedS freshL at hS
  rw [hn] at hS hth0 hab0
  generalize thereE root k old lv ls = tE at *
  generalize absentE root k lv ls = aE at *
  generalize depL lv 256 = D at *
  generalize cntL lv 256 = M at *
  generalize hvs : mpL lv (.slice a n c) = vs at *
  clear hr hk ho hlv hn h32 hcl hvs
  go_enter Try.func32, Try.ntmps32
  go_upto_region 1 with (fail)
  generalize hwA : World.alloc (World.alloc (World.alloc (World.alloc (World.alloc (World.alloc w _) _) _) _) _) _ = wA
  have rA : Blk wA w.heap.size (root.map u8v) 36 := by rw [← hwA]; exact (((((Blk.mk_alloc rfl rfl).alloc _).alloc _).alloc _).alloc _).alloc _
  have kA : Blk wA (w.heap.size + 1) (k.map u8v) 36 := by rw [← hwA]; exact ((((Blk.mk_alloc (by simp) rfl).alloc _).alloc _).alloc _).alloc _
  have oA : Blk wA (w.heap.size + 2) (old.map u8v) 36 := by rw [← hwA]; exact (((Blk.mk_alloc (by simp) rfl).alloc _).alloc _).alloc _
  have vA : Blk wA (w.heap.size + 3) (v.map u8v) 36 := by rw [← hwA]; exact ((Blk.mk_alloc (by simp) rfl).alloc _).alloc _
  have pA : Blk wA (w.heap.size + 4) vs 50 := by rw [← hwA]; exact (Blk.mk_alloc (by simp) rfl).alloc _
  have zA : Blk wA (w.heap.size + 5) (zero32.map u8v) 36 := by rw [← hwA, zero32_map]; exact Blk.mk_alloc (by simp) rfl
  have eA : Ext w wA := by rw [← hwA]; exact ((((((Ext.refl w).alloc _).alloc _).alloc _).alloc _).alloc _).alloc _
  clear hwA
  have RA := hid rA
  have KA := hid kA
  have OA := hid oA
  have VA := hid vA
  have PA := hid pA
  have ZA := hid zA
  have EA := hid eA
  clear rA kA oA vA pA zA eA
  cases hvz : (v == zero32) with
  | true =>
    rw [hvz, if_pos rfl] at hE hS
    rw [hvz] at HEZ
    subst hE hS
    go_wp2_with (first | (refine wpl_loadw rfl 36 (.tmp 8) rfl rfl VA.out agg_apisum HV.out ?_) | (refine wpg_cmp rfl .eql _ _ _ _ rfl rfl rfl guard_sum HEZ.out ?_) | (refine wpl_storew rfl _ (.tmp 10) _ rfl rfl rfl ZA.out agg_apisum HZ.out (xs := List.replicate 32 (.int .u8 0)) (by simp) (one_zeros 32) ?_))
    intro w4 b4 u4
    have b5 : Blk w4 (w.heap.size + 5) (zero32.map u8v) 36 := by rw [zero32_map]; exact b4
    go_wp2
    exact ret_row2 rfl rfl b5 agg_apisum HZ.out rfl ⟨rfl, u4.ext EA.out (by omega)⟩
  | false =>
    rw [hvz, if_neg (by decide)] at hE hS
    rw [hvz] at HEZ
    have hoz : (old == zero32) = false := by
      rcases hcase with h | h
      · rw [h] at hvz; cases hvz
      · exact h
    clear hvz hcase
    · have := 0
      rw [hoz, if_neg (by decide)] at hE hS
      rw [hoz] at HNZ
      clear hoz
      subst hE
      go_wp2_with (first | (refine wpl_loadw rfl 36 (.tmp 8) rfl rfl VA.out agg_apisum HV.out ?_) | (refine wpg_cmp rfl .eql _ _ _ _ rfl rfl rfl guard_sum HEZ.out ?_) | (refine wpg_cmp rfl .neq _ _ _ _ rfl rfl rfl guard_sum HNZ.out ?_) | (refine wpl_loadw rfl 36 (.tmp 7) rfl rfl OA.out agg_apisum HO.out ?_) | (refine wpl_loadw rfl 36 (.tmp 6) rfl rfl KA.out agg_apisum HK.out ?_) | (refine wpl_loadw rfl 36 (.tmp 5) rfl rfl RA.out agg_apisum HR.out ?_) | (refine wpl_loadw rfl 50 (.tmp 9) rfl rfl PA.out agg_mproof HL33.out ?_))
      refine (hth.out _ (HC.out.ext EA.out)).mono ?_
      rintro e wB ⟨rfl, eB⟩
      have RB := hid (RA.out.ext eB)
      have KB := hid (KA.out.ext eB)
      have OB := hid (OA.out.ext eB)
      have VB := hid (VA.out.ext eB)
      have PB := hid (PA.out.ext eB)
      have ZB := hid (ZA.out.ext eB)
      have EB := hid (EA.out.ext eB)
      clear eB RA KA OA VA PA ZA EA
      by_cases ht0 : tE = 0
      · rw [if_pos ht0] at hS
        have hnM := hth0.out ht0
        subst ht0
        have hupz := hid (fun w' h => hup.out (mleafL k v) w' hlfl.out (by omega) h)
        have hul := hupl.out _ hlfl.out
        rw [hS] at hul hupz
        generalize mleafL k v = lf at *
        have HLF := hid (show (lf.map u8v).length = 32 by rw [List.length_map, hlfl.out])
        have HSL : Hid ((S.map u8v).length = 32) := hid (by rw [List.length_map, hul])
        have os := one_u8 S
        have HS := hid hS
        clear hS hul hth hab hup hupl hmk hlfl hth0 hab0 HEZ HNZ hnM
        go_wp2_with fail
        obtain ⟨C, hC⟩ : ∃ C : World → Prop, C = Cls w wB [w.heap.size + 1, w.heap.size + 3, w.heap.size + 4] [(w.heap.size + 5, 32, 36)] := ⟨_, rfl⟩
        have hC0 : ∀ w', C w' ↔ Cls w wB [w.heap.size + 1, w.heap.size + 3, w.heap.size + 4] [(w.heap.size + 5, 32, 36)] w' := fun w' => by rw [hC]
        clear hC
        have HCC := hid hC0
        clear hC0
        have hCx : ∀ w w', C w → Ext w w' → C w' := fun w w' h1 h2 => (HCC.out w').2 (((HCC.out w).1 h1).ext h2)
        have hCA : C wB := (HCC.out _).2 (Cls.one_room EB.out (Kept.three KB.out.lt VB.out.lt PB.out.lt) ZB.out HZ.out)
        refine wp_region_held_drew (S := C) (by kernel_rfl) (hCx _ _ hCA (Ext.refl _).drew) (fun hS0 => ?_)
        refine held_take 0 (v := _) rfl (by kernel_rfl) (by kernel_rfl) (by kernel_rfl) (fun _ _ _ h => h) (yieldsI_loadw rfl 36 _ rfl rfl (fun w1 h => ((HCC.out w1).1 h).blk KB.out (by simp)) agg_apisum HK.out) hS0 ?_
        simp only [Act.put, List.setIfInBounds_toArray, List.set_cons_succ, List.set_cons_zero]
        refine held_take 1 (v := _) rfl (by kernel_rfl) (by kernel_rfl) (by kernel_rfl) (fun _ _ _ h => h) (yieldsI_loadw rfl 36 _ rfl rfl (fun w1 h => ((HCC.out w1).1 h).blk KB.out (by simp)) agg_apisum HK.out) hS0 ?_
        simp only [Act.put, List.setIfInBounds_toArray, List.set_cons_succ, List.set_cons_zero]
        refine held_take 2 (v := _) rfl (by kernel_rfl) (by kernel_rfl) (by kernel_rfl) (fun _ _ _ h => h) (yieldsI_loadw rfl 36 _ rfl rfl (fun w1 h => ((HCC.out w1).1 h).blk VB.out (by simp)) agg_apisum HV.out) hS0 ?_
        simp only [Act.put, List.setIfInBounds_toArray, List.set_cons_succ, List.set_cons_zero]
        refine held_take 4 (v := _) rfl (by kernel_rfl) (by kernel_rfl) (by kernel_rfl) (fun _ _ _ h => h) (yieldsI_loadw rfl 50 _ rfl rfl (fun w1 h => ((HCC.out w1).1 h).blk PB.out (by simp)) agg_mproof HL33.out) hS0 ?_
        simp only [Act.put, List.setIfInBounds_toArray, List.set_cons_succ, List.set_cons_zero]
        generalize wB.drew = wX at *
        refine held_one (i := 3) (by kernel_rfl) rfl ?_
        intro Q' hQ
        go_wp2_with fail
        refine (hlf.out _).mono ?_
        rintro e wY ⟨rfl, eq9⟩
        have hS9 := hCx _ _ hS0 eq9
        go_wp2_with fail
        refine hQ _ _ hS9 ?_
        clear hQ Q' hS0 eq9
        have hS0 := hS9
        clear hS9
        try dsimp only
        try simp only [Act.put, List.setIfInBounds_toArray, List.set_cons_succ, List.set_cons_zero]
        refine held_one (i := 5) (by kernel_rfl) rfl ?_
        intro Q' hQ
        go_wp2_with fail
        refine (hupz.out _ (HC.out.ext ((HCC.out _).1 hS0).base)).mono ?_
        rintro e wU ⟨rfl, eq9⟩
        have hS9 := hCx _ _ hS0 eq9
        go_wp2_with fail
        refine hQ _ _ hS9 ?_
        clear hQ Q' hS0 eq9
        have hS0 := hS9
        clear hS9
        try dsimp only
        try simp only [Act.put, List.setIfInBounds_toArray, List.set_cons_succ, List.set_cons_zero]
        obtain ⟨vz9, hvz9, zG9⟩ := ((HCC.out wU).1 hS0).at_room (r := w.heap.size + 5) (n := 32) (T := 36) (by simp)
        have ZG9 := hid zG9
        have HVZ9 := hid hvz9
        have HG9 := hid hS0
        clear zG9 hvz9 hS0
        refine held_one (i := 6) (by kernel_rfl) rfl ?_
        intro Q' hQ
        go_wp2_with (refine wpl_storew rfl _ _ _ rfl rfl rfl ZG9.out agg_apisum HVZ9.out HSL.out os ?_)
        intro wH b9 u9
        have hS0 : C wH := (HCC.out wH).2 (((HCC.out wU).1 HG9.out).store u9 b9 (by simp [HSL.out]) (by omega) (by simp <;> omega))
        go_wp2_with fail
        refine hQ _ _ hS0 ?_
        have B9 := hid b9
        clear hQ Q' b9 u9 ZG9 HVZ9 HG9
        try dsimp only
        try simp only [Act.put, List.setIfInBounds_toArray, List.set_cons_succ, List.set_cons_zero]
        refine held_take 7 (v := ?tv1) rfl (by kernel_rfl) (by kernel_rfl) (by kernel_rfl) (fun _ _ _ h => h) (.inl ⟨rfl, ?ty1⟩) hS0 ?tr1
        case ty1 => (intro _ _; go_simp; try with_reducible rfl)
        case tr1 =>
        simp only [Act.put, List.setIfInBounds_toArray, List.set_cons_succ, List.set_cons_zero]
        refine wpAnyH_done (by kernel_rfl) ?_ _
        have EH := hid ((HCC.out wH).1 hS0).base
        clear hS0 hCx hCA HCC
        go_wp2
        exact ret_row2 rfl rfl B9.out agg_apisum HSL.out rfl ⟨rfl, EH.out⟩
      · rw [if_neg ht0] at hS
        subst hS
        have g1 : (tE != 0) = true := by simp [ht0]
        go_wp2_with (first | (refine wpl_storew rfl _ (.tmp 10) _ rfl rfl rfl ZB.out agg_apisum HZ.out (xs := List.replicate 32 (.int .u8 0)) (by simp) (one_zeros 32) ?_))
        intro w4 b4 u4
        have b5 : Blk w4 (w.heap.size + 5) (zero32.map u8v) 36 := by rw [zero32_map]; exact b4
        go_wp2
        exact ret_row2 rfl rfl b5 agg_apisum HZ.out rfl ⟨rfl, u4.ext EB.out (by omega)⟩
end

section
open Go Go.RowKit

set_option maxRecDepth 100000 in
set_option maxHeartbeats 4000000 in
theorem rchanged_new_c (root k old v lv : List UInt8) (ls : List (List UInt8)) (a : Option Addr) (n c : Nat) (w : World) (hr : root.length = 32) (hk : k.length = 32) (ho : old.length = 32) (hv : v.length = 32) (hlv : lv.length = 32) (hn : ls.length = n) (hn63 : n ≤ 9223372036854775807) (h32 : All32 ls) (hcl : Cells w a (rows ls)) (hvz : (v == zero32) = false) (hoz : (old == zero32) = true) :
    Calls Try.prog 32 #[.agg (root.map u8v).toArray, .agg (k.map u8v).toArray, .agg (old.map u8v).toArray, .agg (v.map u8v).toArray, .agg (mpL lv (.slice a n c)).toArray] w fun e w' => e = .returned (.tuple #[.agg ((changedS root k old v lv ls).map u8v).toArray, .int .i64 (changedE root k old v lv ls)]) ∧ Ext w w' := by
  have HR := hid (show (root.map u8v).length = 32 by rw [List.length_map, hr])
  have HK := hid (show (k.map u8v).length = 32 by rw [List.length_map, hk])
  have HO := hid (show (old.map u8v).length = 32 by rw [List.length_map, ho])
  have HV := hid (show (v.map u8v).length = 32 by rw [List.length_map, hv])
  have HZ := hid (show (zero32.map u8v).length = 32 by rw [List.length_map, zero32_len])
  have HL33 := hid (mpL_length hlv (.slice a n c))
  have HLE : Hid (0 + 32 ≤ (mpL lv (.slice a n c)).length) := hid (by rw [mpL_length hlv]; omega)
  have HLV := hid (mpL_lev hlv (.slice a n c))
  have HAT := hid (mpL_at hlv (.slice a n c))
  have HC := hid hcl
  have HKL := hid hk
  have HN := hid hn
  have H32 := hid h32
  have HEZ := hid (fun w => eq_arr Try.underlying36 v zero32 hv zero32_len w)
  have HNZ := hid (fun w => neq_arr Try.underlying36 old zero32 ho zero32_len w)
  have hab := hid (fun w' h => rabsent_c root k lv ls a n c w' hr hk hlv hn hn63 h32 h)
  have hup := hid (fun s w' hs hcnt h => rup_c lv k s ls a n c w' hlv hk hs hn hcnt h32 h)
  have hupl := hid (fun s hs => upL_length (lv := lv) (k := k) (ls := ls) (depL lv 256) s hs)
  have hmk := hid (fun w' => depth_c lv (.slice a n c) w' hlv)
  have hlf := hid (fun w' => rleafOf_c k v w' hk hv)
  have hlfl := hid (mleafL_length k v)
  have hab0 := hid (fun h => absentE_ok (root := root) (k := k) (lv := lv) (ls := ls) h)
  have hc256 := cntL_le lv 256
  have hd256 := depL_le lv 256
  obtain ⟨E, hE⟩ : ∃ E, changedE root k old v lv ls = E := ⟨_, rfl⟩
  obtain ⟨S, hS⟩ : ∃ S, changedS root k old v lv ls = S := ⟨_, rfl⟩
  rw [hE, hS]
  unfold changedE at hE
  unfold changedS freshL at hS
  rw [hn] at hS hab0
  generalize thereE root k old lv ls = tE at *
  generalize absentE root k lv ls = aE at *
  generalize depL lv 256 = D at *
  generalize cntL lv 256 = M at *
  generalize hvs : mpL lv (.slice a n c) = vs at *
  clear hr hk ho hlv hn h32 hcl hvs
  go_enter Try.func32, Try.ntmps32
  go_upto_region 1 with (fail)
  generalize hwA : World.alloc (World.alloc (World.alloc (World.alloc (World.alloc (World.alloc w _) _) _) _) _) _ = wA
  have rA : Blk wA w.heap.size (root.map u8v) 36 := by rw [← hwA]; exact (((((Blk.mk_alloc rfl rfl).alloc _).alloc _).alloc _).alloc _).alloc _
  have kA : Blk wA (w.heap.size + 1) (k.map u8v) 36 := by rw [← hwA]; exact ((((Blk.mk_alloc (by simp) rfl).alloc _).alloc _).alloc _).alloc _
  have oA : Blk wA (w.heap.size + 2) (old.map u8v) 36 := by rw [← hwA]; exact (((Blk.mk_alloc (by simp) rfl).alloc _).alloc _).alloc _
  have vA : Blk wA (w.heap.size + 3) (v.map u8v) 36 := by rw [← hwA]; exact ((Blk.mk_alloc (by simp) rfl).alloc _).alloc _
  have pA : Blk wA (w.heap.size + 4) vs 50 := by rw [← hwA]; exact (Blk.mk_alloc (by simp) rfl).alloc _
  have zA : Blk wA (w.heap.size + 5) (zero32.map u8v) 36 := by rw [← hwA, zero32_map]; exact Blk.mk_alloc (by simp) rfl
  have eA : Ext w wA := by rw [← hwA]; exact ((((((Ext.refl w).alloc _).alloc _).alloc _).alloc _).alloc _).alloc _
  clear hwA
  have RA := hid rA
  have KA := hid kA
  have OA := hid oA
  have VA := hid vA
  have PA := hid pA
  have ZA := hid zA
  have EA := hid eA
  clear rA kA oA vA pA zA eA
  rw [hvz, if_neg (by decide), hoz, if_pos rfl] at hE hS
  rw [hvz] at HEZ
  rw [hoz] at HNZ
  clear hvz hoz tE
  subst hE
  go_wp2_with (first | (refine wpl_loadw rfl 36 (.tmp 8) rfl rfl VA.out agg_apisum HV.out ?_) | (refine wpg_cmp rfl .eql _ _ _ _ rfl rfl rfl guard_sum HEZ.out ?_) | (refine wpg_cmp rfl .neq _ _ _ _ rfl rfl rfl guard_sum HNZ.out ?_) | (refine wpl_loadw rfl 36 (.tmp 7) rfl rfl OA.out agg_apisum HO.out ?_) | (refine wpl_loadw rfl 36 (.tmp 6) rfl rfl KA.out agg_apisum HK.out ?_) | (refine wpl_loadw rfl 36 (.tmp 5) rfl rfl RA.out agg_apisum HR.out ?_) | (refine wpl_loadw rfl 50 (.tmp 9) rfl rfl PA.out agg_mproof HL33.out ?_))
  refine (hab.out _ (HC.out.ext EA.out)).mono ?_
  rintro e wB ⟨rfl, eB⟩
  have RB := hid (RA.out.ext eB)
  have KB := hid (KA.out.ext eB)
  have OB := hid (OA.out.ext eB)
  have VB := hid (VA.out.ext eB)
  have PB := hid (PA.out.ext eB)
  have ZB := hid (ZA.out.ext eB)
  have EB := hid (EA.out.ext eB)
  clear eB RA KA OA VA PA ZA EA
  clear RB OB HEZ HNZ hab HR HO
  by_cases ht0 : aE = 0
  · rw [if_pos ht0] at hS
    have hdis := hab0.out ht0
    subst ht0
    clear hab0
    have hg9 : w.heap.size + 5 < wB.heap.size := ZB.out.lt
    generalize hlf2 : mleafL k v = lf at *
    have HLF := hid (show (lf.map u8v).length = 32 by rw [List.length_map, hlfl.out])
    have HS := hid hS
    clear hS
    go_wp2_with (first | (refine wpl_loadw rfl 50 (.tmp 9) rfl rfl PB.out agg_mproof HL33.out ?_))
    refine (hmk.out _).mono ?_
    rintro e wE ⟨rfl, eE⟩
    have KE := hid (KB.out.ext eE)
    have VE := hid (VB.out.ext eE)
    have PE := hid (PB.out.ext eE)
    have ZE := hid (ZB.out.ext eE)
    have EE := hid (EB.out.ext eE)
    clear eE KB VB PB ZB EB
    clear hmk HLE HLV
    have c32 : wE.cell? ⟨w.heap.size + 4, 32, none⟩ = some (.slice a n c) := PE.out.cell' HAT.out
    by_cases hnm : n = M
    · have hS := HS.out
      rw [if_pos hnm] at hS
      clear HS hdis hlf2
      subst hnm
      have g1 : ((n : Int) == (n : Int)) = true := by simp
      have g2 : (n == n) = true := by simp
      have hupz := hid (fun w' h => hup.out lf w' hlfl.out (Nat.le_refl _) h)
      have hul := hupl.out lf hlfl.out
      rw [hS] at hul hupz
      have HSL : Hid ((S.map u8v).length = 32) := hid (by rw [List.length_map, hul])
      have os := one_u8 S
      clear hS hul hup hupl
      go_wp2_with fail
      clear c32
      obtain ⟨C, hC⟩ : ∃ C : World → Prop, C = Cls w wE [w.heap.size + 1, w.heap.size + 3, w.heap.size + 4] [(w.heap.size + 5, 32, 36)] := ⟨_, rfl⟩
      have hC0 : ∀ w', C w' ↔ Cls w wE [w.heap.size + 1, w.heap.size + 3, w.heap.size + 4] [(w.heap.size + 5, 32, 36)] w' := fun w' => by rw [hC]
      clear hC
      have HCC := hid hC0
      clear hC0
      have hCx : ∀ w w', C w → Ext w w' → C w' := fun w w' h1 h2 => (HCC.out w').2 (((HCC.out w).1 h1).ext h2)
      have hCA : C wE := (HCC.out _).2 (Cls.one_room EE.out (Kept.three KE.out.lt VE.out.lt PE.out.lt) ZE.out HZ.out)
      refine wp_region_held_drew (S := C) (by kernel_rfl) (hCx _ _ hCA (Ext.refl _).drew) (fun hS0 => ?_)
      refine held_take 0 (v := _) rfl (by kernel_rfl) (by kernel_rfl) (by kernel_rfl) (fun _ _ _ h => h) (yieldsI_loadw rfl 36 _ rfl rfl (fun w1 h => ((HCC.out w1).1 h).blk KE.out (by simp)) agg_apisum HK.out) hS0 ?_
      simp only [Act.put, List.setIfInBounds_toArray, List.set_cons_succ, List.set_cons_zero]
      refine held_take 1 (v := _) rfl (by kernel_rfl) (by kernel_rfl) (by kernel_rfl) (fun _ _ _ h => h) (yieldsI_loadw rfl 36 _ rfl rfl (fun w1 h => ((HCC.out w1).1 h).blk KE.out (by simp)) agg_apisum HK.out) hS0 ?_
      simp only [Act.put, List.setIfInBounds_toArray, List.set_cons_succ, List.set_cons_zero]
      refine held_take 2 (v := _) rfl (by kernel_rfl) (by kernel_rfl) (by kernel_rfl) (fun _ _ _ h => h) (yieldsI_loadw rfl 36 _ rfl rfl (fun w1 h => ((HCC.out w1).1 h).blk VE.out (by simp)) agg_apisum HV.out) hS0 ?_
      simp only [Act.put, List.setIfInBounds_toArray, List.set_cons_succ, List.set_cons_zero]
      refine held_take 4 (v := _) rfl (by kernel_rfl) (by kernel_rfl) (by kernel_rfl) (fun _ _ _ h => h) (yieldsI_loadw rfl 50 _ rfl rfl (fun w1 h => ((HCC.out w1).1 h).blk PE.out (by simp)) agg_mproof HL33.out) hS0 ?_
      simp only [Act.put, List.setIfInBounds_toArray, List.set_cons_succ, List.set_cons_zero]
      generalize wE.drew = wX at *
      refine held_one (i := 3) (by kernel_rfl) rfl ?_
      intro Q' hQ
      go_wp2_with fail
      refine (hlf.out _).mono ?_
      rintro e wY ⟨rfl, eq9⟩
      have hS9 := hCx _ _ hS0 eq9
      go_wp2_with fail
      refine hQ _ _ hS9 ?_
      clear hQ Q' hS0 eq9
      have hS0 := hS9
      clear hS9
      try dsimp only
      try simp only [Act.put, List.setIfInBounds_toArray, List.set_cons_succ, List.set_cons_zero]
      refine held_one (i := 5) (by kernel_rfl) rfl ?_
      intro Q' hQ
      go_wp2_with fail
      refine (hupz.out _ (HC.out.ext ((HCC.out _).1 hS0).base)).mono ?_
      rintro e wU ⟨rfl, eq9⟩
      have hS9 := hCx _ _ hS0 eq9
      go_wp2_with fail
      refine hQ _ _ hS9 ?_
      clear hQ Q' hS0 eq9
      have hS0 := hS9
      clear hS9
      try dsimp only
      try simp only [Act.put, List.setIfInBounds_toArray, List.set_cons_succ, List.set_cons_zero]
      obtain ⟨vz9, hvz9, zG9⟩ := ((HCC.out wU).1 hS0).at_room (r := w.heap.size + 5) (n := 32) (T := 36) (by simp)
      have ZG9 := hid zG9
      have HVZ9 := hid hvz9
      have HG9 := hid hS0
      clear zG9 hvz9 hS0
      refine held_one (i := 6) (by kernel_rfl) rfl ?_
      intro Q' hQ
      go_wp2_with (refine wpl_storew rfl _ _ _ rfl rfl rfl ZG9.out agg_apisum HVZ9.out HSL.out os ?_)
      intro wH b9 u9
      have hS0 : C wH := (HCC.out wH).2 (((HCC.out wU).1 HG9.out).store u9 b9 (by simp [HSL.out]) (by omega) (by simp <;> omega))
      go_wp2_with fail
      refine hQ _ _ hS0 ?_
      have B9 := hid b9
      clear hQ Q' b9 u9 ZG9 HVZ9 HG9
      try dsimp only
      try simp only [Act.put, List.setIfInBounds_toArray, List.set_cons_succ, List.set_cons_zero]
      refine held_take 7 (v := ?tv1) rfl (by kernel_rfl) (by kernel_rfl) (by kernel_rfl) (fun _ _ _ h => h) (.inl ⟨rfl, ?ty1⟩) hS0 ?tr1
      case ty1 => (intro _ _; go_simp; try with_reducible rfl)
      case tr1 =>
      simp only [Act.put, List.setIfInBounds_toArray, List.set_cons_succ, List.set_cons_zero]
      refine wpAnyH_done (by kernel_rfl) ?_ _
      have EH := hid ((HCC.out wH).1 hS0).base
      clear hS0 hCx hCA HCC
      go_wp2
      exact ret_row2 rfl rfl B9.out agg_apisum HSL.out rfl ⟨rfl, EH.out⟩
    · obtain ⟨hn2, hne, hdt⟩ := hdis.resolve_left hnm
      have hS := HS.out
      rw [if_neg hnm] at hS
      obtain ⟨o, ho⟩ : ∃ o, ls[M]? = some o := ⟨ls[M]'(by rw [HN.out]; omega), by simp⟩
      obtain ⟨u, hu⟩ : ∃ u, ls[M + 1]? = some u := ⟨ls[M + 1]'(by rw [HN.out]; omega), by simp⟩
      have hol : o.length = 32 := H32.out.at ho
      have hul : u.length = 32 := H32.out.at hu
      obtain ⟨A, rfl, hca, hcb⟩ : ∃ A, a = some A ∧ CellsAt w (A.add (M * 32)) (o.map u8v) ∧ CellsAt w (A.add ((M + 1) * 32)) (u.map u8v) := by
        cases a with
        | none => rcases HC.out with h | ⟨_, _, h, _⟩
                  · have := rows_length H32.out; rw [h, HN.out] at this; simp at this; omega
                  · cases h
        | some A => exact ⟨A, rfl, HC.out.rowAt H32.out ho, HC.out.rowAt H32.out hu⟩
      have hS2 : upL lv k ls D (downL k D (difL o k) (sideL k (difL o k) lf (mleafL o u))) = S := by rw [ho, hu] at hS; exact hS
      have hne2 : o ≠ k := by rw [ho] at hne; exact hne
      have hdt2 : D ≤ difL o k := by rw [ho] at hdt; exact hdt
      have hdl := difL_lt hol HKL.out hne2
      have hvl : v.length = 32 := by have := HV.out; rw [List.length_map] at this; exact this
      have hpair := mapRoot_pair k v o u HKL.out hol (difL o k) hdl (difL_part o k hdl) (256 - D) D hdt2 (by omega) (fun j _ hj => difL_same o k hj)
      rw [hlf2] at hpair
      rw [← hpair] at hS2
      have hpl := mapRootL_length (256 - D) D [k ++ v, o ++ u]
      have hkv : (k ++ v).length = 64 := by rw [List.length_append, HKL.out, hvl]
      have hou : (o ++ u).length = 64 := by rw [List.length_append, hol, hul]
      have hparts : Parts (256 - D) D [k ++ v, o ++ u] := by
        unfold Parts
        simp only [List.pairwise_cons, List.mem_singleton, forall_eq, List.not_mem_nil, false_imp_iff, implies_true, List.Pairwise.nil, and_true]
        refine ⟨difL o k, hdt2, by omega, ?_⟩
        rw [bitL_app HKL.out hdl, bitL_app hol hdl]
        exact fun e => difL_part o k hdl e.symm
      have hall : All64 [k ++ v, o ++ u] := by
        intro l hl
        simp only [List.mem_cons, List.not_mem_nil, or_false] at hl
        rcases hl with rfl | rfl
        · exact hkv
        · exact hou
      have hmr := hid (fun a' c' w' h => mapRoot_c (256 - D) D [k ++ v, o ++ u] a' 2 c' w' rfl (by omega) hall (by omega) hparts h)
      generalize mapRootL (256 - D) D [k ++ v, o ++ u] = F at *
      have HO := hid (show (o.map u8v).length = 32 by rw [List.length_map, hol])
      have HU := hid (show (u.map u8v).length = 32 by rw [List.length_map, hul])
      have HVL := hid hvl
      have HOL := hid hol
      have HUL := hid hul
      have HKV := hid hkv
      have HOU := hid hou
      have hupz := hid (fun w' h => hup.out F w' hpl (by omega) h)
      have hul2 := hupl.out F hpl
      rw [hS2] at hul2 hupz
      have HSL : Hid ((S.map u8v).length = 32) := hid (by rw [List.length_map, hul2])
      have os := one_u8 S
      obtain ⟨M1, hM1⟩ : ∃ M1, M1 = M + 1 := ⟨_, rfl⟩
      have hM1n : M1 < n := by omega
      have hMn : M < n := by omega
      rw [← hM1] at hcb
      have g1 : ((n : Int) == (M : Int)) = false := by simp; omega
      have g2 : (n == M) = false := by simp [hnm]
      have hwm : IntKind.i64.wrap ((M : Int) + 1) = (M1 : Int) := by rw [IntWalk.i64_in _ (by omega)]; omega
      have HN2 := hid hn2
      have HCA0 := hid hca
      have HCB0 := hid hcb
      clear hca hcb hol hul hS2 hul2 hup hupl hn2 hM1 H32 HN HS hS hne hdt hnm hne2 ho hu hdis hpair hpl hkv hou hparts hall hvl hlf2 hlf hlfl hdt2 hdl HLF
      generalize hkv9 : k ++ v = kv at *
      generalize hou9 : o ++ u = ou at *
      have HKV9 := hid hkv9
      have HOU9 := hid hou9
      clear hkv9 hou9
      go_wp2_with fail
      clear c32
      obtain ⟨C, hC⟩ : ∃ C : World → Prop, C = Cls w wE [w.heap.size + 1, w.heap.size + 3, w.heap.size + 4, w.heap.size + 5] [] := ⟨_, rfl⟩
      have hC0 : ∀ w', C w' ↔ Cls w wE [w.heap.size + 1, w.heap.size + 3, w.heap.size + 4, w.heap.size + 5] [] w' := fun w' => by rw [hC]
      clear hC
      have HCC := hid hC0
      clear hC0
      have hCx : ∀ w w', C w → Ext w w' → C w' := fun w w' h1 h2 => (HCC.out w').2 (((HCC.out w).1 h1).ext h2)
      have hCA : C wE := (HCC.out _).2 (Cls.no_room EE.out (Kept.four KE.out.lt VE.out.lt PE.out.lt ZE.out.lt))
      have e32 : ∀ w1, C w1 → w1.cell? ⟨w.heap.size + 4, 32, none⟩ = some (.slice (some A) n c) := fun w1 h1 => (((HCC.out w1).1 h1).blk PE.out (by simp)).cell' HAT.out
      refine wp_region_held_drew (S := C) (by kernel_rfl) (hCx _ _ hCA (Ext.refl _).drew) (fun hS0 => ?_)
      refine held_take 0 (v := _) rfl (by kernel_rfl) (by kernel_rfl) (by kernel_rfl) (fun _ _ _ h => h) (yieldsI_loadw rfl 36 _ rfl rfl (fun w1 h => ((HCC.out w1).1 h).blk KE.out (by simp)) agg_apisum HK.out) hS0 ?_
      simp only [Act.put, List.setIfInBounds_toArray, List.set_cons_succ, List.set_cons_zero]
      refine held_take 1 (v := _) rfl (by kernel_rfl) (by kernel_rfl) (by kernel_rfl) (fun _ _ _ h => h) (yieldsI_loadw rfl 36 _ rfl rfl (fun w1 h => ((HCC.out w1).1 h).blk VE.out (by simp)) agg_apisum HV.out) hS0 ?_
      simp only [Act.put, List.setIfInBounds_toArray, List.set_cons_succ, List.set_cons_zero]
      refine held_take 2 (v := _) rfl (by kernel_rfl) (by kernel_rfl) (by kernel_rfl) (fun _ _ _ h => h) (yieldsI_run rfl (fun w1 _ => exec_entry rfl rfl rfl HKL.out HVL.out w1)) hS0 ?_
      simp only [Act.put, List.setIfInBounds_toArray, List.set_cons_succ, List.set_cons_zero]
      rw [HKV9.out]
      refine held_take 3 (v := ?tv2) rfl (by kernel_rfl) (by kernel_rfl) (by kernel_rfl) (fun _ _ _ h => h) (.inl ⟨rfl, ?ty2⟩) hS0 ?tr2
      case ty2 => (intro _ _; go_simp; try with_reducible rfl)
      case tr2 =>
      simp only [Act.put, List.setIfInBounds_toArray, List.set_cons_succ, List.set_cons_zero]
      refine held_take 4 (v := ?tv3) rfl (by kernel_rfl) (by kernel_rfl) (by kernel_rfl) (fun _ _ _ h => h) (.inl ⟨rfl, ?ty3⟩) hS0 ?tr3
      case ty3 => (intro wq hwq; have hcq := (e32) wq hwq; go_simp; try with_reducible rfl)
      case tr3 =>
      simp only [Act.put, List.setIfInBounds_toArray, List.set_cons_succ, List.set_cons_zero]
      refine held_take 5 (v := ?tv4) rfl (by kernel_rfl) (by kernel_rfl) (by kernel_rfl) (fun _ _ _ h => h) (.inl ⟨rfl, ?ty4⟩) hS0 ?tr4
      case ty4 => (intro _ _; go_simp; try with_reducible rfl)
      case tr4 =>
      simp only [Act.put, List.setIfInBounds_toArray, List.set_cons_succ, List.set_cons_zero]
      refine held_take 6 (v := _) rfl (by kernel_rfl) (by kernel_rfl) (by kernel_rfl) (fun _ _ _ h => h) (yieldsI_run rfl (fun w1 _ => exec_index (i := M) rfl rfl rfl Try.underlying22 size_apisum hMn w1)) hS0 ?_
      simp only [Act.put, List.setIfInBounds_toArray, List.set_cons_succ, List.set_cons_zero]
      refine held_take 7 (v := _) rfl (by kernel_rfl) (by kernel_rfl) (by kernel_rfl) (fun _ _ _ h => h) (yieldsI_run rfl (fun w1 h => exec_load_at rfl rfl (HCA0.out.ext ((HCC.out w1).1 h).base) agg_apisum HO.out)) hS0 ?_
      simp only [Act.put, List.setIfInBounds_toArray, List.set_cons_succ, List.set_cons_zero]
      refine held_take 8 (v := ?tv5) rfl (by kernel_rfl) (by kernel_rfl) (by kernel_rfl) (fun _ _ _ h => h) (.inl ⟨rfl, ?ty5⟩) hS0 ?tr5
      case ty5 => (intro _ _; go_simp; try with_reducible rfl)
      case tr5 =>
      simp only [Act.put, List.setIfInBounds_toArray, List.set_cons_succ, List.set_cons_zero]
      refine held_take 9 (v := ?tv6) rfl (by kernel_rfl) (by kernel_rfl) (by kernel_rfl) (fun _ _ _ h => h) (.inl ⟨rfl, ?ty6⟩) hS0 ?tr6
      case ty6 => (intro wq hwq; have hcq := (e32) wq hwq; go_simp; try with_reducible rfl)
      case tr6 =>
      simp only [Act.put, List.setIfInBounds_toArray, List.set_cons_succ, List.set_cons_zero]
      refine held_take 10 (v := ?tv7) rfl (by kernel_rfl) (by kernel_rfl) (by kernel_rfl) (fun _ _ _ h => h) (.inl ⟨rfl, ?ty7⟩) hS0 ?tr7
      case ty7 => (intro _ _; go_simp; try with_reducible rfl)
      case tr7 =>
      simp only [Act.put, List.setIfInBounds_toArray, List.set_cons_succ, List.set_cons_zero]
      refine held_take 11 (v := ?tv8) rfl (by kernel_rfl) (by kernel_rfl) (by kernel_rfl) (fun _ _ _ h => h) (.inl ⟨rfl, ?ty8⟩) hS0 ?tr8
      case ty8 => (intro _ _; go_simp; try with_reducible rfl)
      case tr8 =>
      simp only [Act.put, List.setIfInBounds_toArray, List.set_cons_succ, List.set_cons_zero]
      refine held_take 12 (v := _) rfl (by kernel_rfl) (by kernel_rfl) (by kernel_rfl) (fun _ _ _ h => h) (yieldsI_run rfl (fun w1 _ => exec_index (i := M1) rfl rfl rfl Try.underlying22 size_apisum hM1n w1)) hS0 ?_
      simp only [Act.put, List.setIfInBounds_toArray, List.set_cons_succ, List.set_cons_zero]
      refine held_take 13 (v := _) rfl (by kernel_rfl) (by kernel_rfl) (by kernel_rfl) (fun _ _ _ h => h) (yieldsI_run rfl (fun w1 h => exec_load_at rfl rfl (HCB0.out.ext ((HCC.out w1).1 h).base) agg_apisum HU.out)) hS0 ?_
      simp only [Act.put, List.setIfInBounds_toArray, List.set_cons_succ, List.set_cons_zero]
      refine held_take 14 (v := _) rfl (by kernel_rfl) (by kernel_rfl) (by kernel_rfl) (fun _ _ _ h => h) (yieldsI_run rfl (fun w1 _ => exec_entry rfl rfl rfl HOL.out HUL.out w1)) hS0 ?_
      simp only [Act.put, List.setIfInBounds_toArray, List.set_cons_succ, List.set_cons_zero]
      rw [HOU9.out]
      clear hwm
      generalize wE.drew = wX at *
      have hgX : w.heap.size + 5 < wX.heap.size := Nat.lt_of_lt_of_le ZE.out.lt ((HCC.out wX).1 hS0).kept.1
      refine held_one (i := 15) (by kernel_rfl) rfl ?_
      intro Q' hQ
      go_wp2_with (refine wpl_entries rfl rfl rfl rfl HKV.out HOU.out ?_)
      go_wp2_with fail
      generalize hwY : World.alloc wX _ = wY
      have eY : Ext wX wY := by rw [← hwY]; exact (Ext.refl wX).alloc _
      have bY : Blk wY wX.heap.size (rows [kv, ou]) 88 := by rw [← hwY]; exact Blk.mk_alloc rfl rfl
      have hSY := hCx _ _ hS0 eY
      have BY := hid bY
      clear hwY bY
      refine hQ _ _ hSY ?_
      clear hQ Q' hS0 eY
      generalize wX.heap.size = gl at *
      try dsimp only
      try simp only [Act.put, List.setIfInBounds_toArray, List.set_cons_succ, List.set_cons_zero]
      have hS0 := hSY
      refine held_take 16 (v := ?tv9) rfl (by kernel_rfl) (by kernel_rfl) (by kernel_rfl) (fun _ _ _ h => h) (.inl ⟨rfl, ?ty9⟩) hS0 ?tr9
      case ty9 => (intro _ _; go_simp; try with_reducible rfl)
      case tr9 =>
      simp only [Act.put, List.setIfInBounds_toArray, List.set_cons_succ, List.set_cons_zero]
      refine wpAnyH_done (by kernel_rfl) ?_ _
      have EY := hid ((HCC.out wY).1 hS0).base
      have KY := hid (((HCC.out wY).1 hS0).blk KE.out (by simp))
      have PY := hid (((HCC.out wY).1 hS0).blk PE.out (by simp))
      have ZY := hid (((HCC.out wY).1 hS0).blk ZE.out (by simp))
      clear hS0 hCx hCA HCC e32 KE VE PE ZE EE hSY C
      go_wp2_with fail
      have hgl : w.heap.size + 5 ≠ gl := by omega
      obtain ⟨C, hC⟩ : ∃ C : World → Prop, C = Cls w wY [w.heap.size + 1, w.heap.size + 4, gl] [(w.heap.size + 5, 32, 36)] := ⟨_, rfl⟩
      have hC0 : ∀ w', C w' ↔ Cls w wY [w.heap.size + 1, w.heap.size + 4, gl] [(w.heap.size + 5, 32, 36)] w' := fun w' => by rw [hC]
      clear hC
      have HCC := hid hC0
      clear hC0
      have hCx : ∀ w w', C w → Ext w w' → C w' := fun w w' h1 h2 => (HCC.out w').2 (((HCC.out w).1 h1).ext h2)
      have hCA : C wY := (HCC.out _).2 (Cls.one_room EY.out (Kept.three KY.out.lt PY.out.lt BY.out.lt) ZY.out HZ.out)
      have hcy : ∀ w1, C w1 → Cells w1 (some ⟨gl, 0, none⟩) (rows [kv, ou]) := fun w1 h1 => Cells.of_blk0 (((HCC.out w1).1 h1).blk BY.out (by simp))
      refine wp_region_held_drew (S := C) (by kernel_rfl) (hCx _ _ hCA (Ext.refl _).drew) (fun hS0 => ?_)
      refine held_take 0 (v := _) rfl (by kernel_rfl) (by kernel_rfl) (by kernel_rfl) (fun _ _ _ h => h) (yieldsI_loadw rfl 36 _ rfl rfl (fun w1 h => ((HCC.out w1).1 h).blk KY.out (by simp)) agg_apisum HK.out) hS0 ?_
      simp only [Act.put, List.setIfInBounds_toArray, List.set_cons_succ, List.set_cons_zero]
      refine held_take 1 (v := ?tv10) rfl (by kernel_rfl) (by kernel_rfl) (by kernel_rfl) (fun _ _ _ h => h) (.inl ⟨rfl, ?ty10⟩) hS0 ?tr10
      case ty10 => (intro _ _; go_simp; try with_reducible rfl)
      case tr10 =>
      simp only [Act.put, List.setIfInBounds_toArray, List.set_cons_succ, List.set_cons_zero]
      refine held_take 2 (v := ?tv11) rfl (by kernel_rfl) (by kernel_rfl) (by kernel_rfl) (fun _ _ _ h => h) (.inl ⟨rfl, ?ty11⟩) hS0 ?tr11
      case ty11 => (intro _ _; go_simp; try with_reducible rfl)
      case tr11 =>
      simp only [Act.put, List.setIfInBounds_toArray, List.set_cons_succ, List.set_cons_zero]
      refine held_take 4 (v := _) rfl (by kernel_rfl) (by kernel_rfl) (by kernel_rfl) (fun _ _ _ h => h) (yieldsI_loadw rfl 50 _ rfl rfl (fun w1 h => ((HCC.out w1).1 h).blk PY.out (by simp)) agg_mproof HL33.out) hS0 ?_
      simp only [Act.put, List.setIfInBounds_toArray, List.set_cons_succ, List.set_cons_zero]
      generalize wY.drew = wX2 at *
      refine held_one (i := 3) (by kernel_rfl) rfl ?_
      intro Q' hQ
      go_wp2_with fail
      refine (hmr.out _ _ _ (hcy _ hS0)).mono ?_
      rintro e wF ⟨rfl, eq9⟩
      have hS9 := hCx _ _ hS0 eq9
      go_wp2_with fail
      refine hQ _ _ hS9 ?_
      clear hQ Q' hS0 eq9
      have hS0 := hS9
      clear hS9
      try dsimp only
      try simp only [Act.put, List.setIfInBounds_toArray, List.set_cons_succ, List.set_cons_zero]
      refine held_one (i := 5) (by kernel_rfl) rfl ?_
      intro Q' hQ
      go_wp2_with fail
      refine (hupz.out _ (HC.out.ext ((HCC.out _).1 hS0).base)).mono ?_
      rintro e wU ⟨rfl, eq9⟩
      have hS9 := hCx _ _ hS0 eq9
      go_wp2_with fail
      refine hQ _ _ hS9 ?_
      clear hQ Q' hS0 eq9
      have hS0 := hS9
      clear hS9
      try dsimp only
      try simp only [Act.put, List.setIfInBounds_toArray, List.set_cons_succ, List.set_cons_zero]
      obtain ⟨vz9, hvz9, zG9⟩ := ((HCC.out wU).1 hS0).at_room (r := w.heap.size + 5) (n := 32) (T := 36) (by simp)
      have ZG9 := hid zG9
      have HVZ9 := hid hvz9
      have HG9 := hid hS0
      clear zG9 hvz9 hS0
      refine held_one (i := 6) (by kernel_rfl) rfl ?_
      intro Q' hQ
      go_wp2_with (refine wpl_storew rfl _ _ _ rfl rfl rfl ZG9.out agg_apisum HVZ9.out HSL.out os ?_)
      intro wH b9 u9
      have hS0 : C wH := (HCC.out wH).2 (((HCC.out wU).1 HG9.out).store u9 b9 (by simp [HSL.out]) (by omega) (by simp <;> omega))
      go_wp2_with fail
      refine hQ _ _ hS0 ?_
      have B9 := hid b9
      clear hQ Q' b9 u9 ZG9 HVZ9 HG9
      try dsimp only
      try simp only [Act.put, List.setIfInBounds_toArray, List.set_cons_succ, List.set_cons_zero]
      refine held_take 7 (v := ?tv12) rfl (by kernel_rfl) (by kernel_rfl) (by kernel_rfl) (fun _ _ _ h => h) (.inl ⟨rfl, ?ty12⟩) hS0 ?tr12
      case ty12 => (intro _ _; go_simp; try with_reducible rfl)
      case tr12 =>
      simp only [Act.put, List.setIfInBounds_toArray, List.set_cons_succ, List.set_cons_zero]
      refine wpAnyH_done (by kernel_rfl) ?_ _
      have EH := hid ((HCC.out wH).1 hS0).base
      clear hS0 hCx hCA HCC
      go_wp2
      exact ret_row2 rfl rfl B9.out agg_apisum HSL.out rfl ⟨rfl, EH.out⟩
  · rw [if_neg ht0] at hS
    subst hS
    have g1 : (aE != 0) = true := by simp [ht0]
    go_wp2_with (first | (refine wpl_storew rfl _ (.tmp 10) _ rfl rfl rfl ZB.out agg_apisum HZ.out (xs := List.replicate 32 (.int .u8 0)) (by simp) (one_zeros 32) ?_))
    intro w4 b4 u4
    have b5 : Blk w4 (w.heap.size + 5) (zero32.map u8v) 36 := by rw [zero32_map]; exact b4
    go_wp2
    exact ret_row2 rfl rfl b5 agg_apisum HZ.out rfl ⟨rfl, u4.ext EB.out (by omega)⟩

theorem rchanged_c (root k old v lv : List UInt8) (ls : List (List UInt8)) (a : Option Addr) (n c : Nat) (w : World) (hr : root.length = 32) (hk : k.length = 32) (ho : old.length = 32) (hv : v.length = 32) (hlv : lv.length = 32) (hn : ls.length = n) (hn63 : n ≤ 9223372036854775807) (h32 : All32 ls) (hcl : Cells w a (rows ls)) :
    Calls Try.prog 32 #[.agg (root.map u8v).toArray, .agg (k.map u8v).toArray, .agg (old.map u8v).toArray, .agg (v.map u8v).toArray, .agg (mpL lv (.slice a n c)).toArray] w fun e w' => e = .returned (.tuple #[.agg ((changedS root k old v lv ls).map u8v).toArray, .int .i64 (changedE root k old v lv ls)]) ∧ Ext w w' := by
  cases hvz : (v == zero32) with
  | true => exact rchanged_old_c root k old v lv ls a n c w hr hk ho hv hlv hn hn63 h32 hcl (.inl hvz)
  | false =>
    cases hoz : (old == zero32) with
    | false => exact rchanged_old_c root k old v lv ls a n c w hr hk ho hv hlv hn hn63 h32 hcl (.inr hoz)
    | true => exact rchanged_new_c root k old v lv ls a n c w hr hk ho hv hlv hn hn63 h32 hcl hvz hoz
end

section
open Go Go.RowKit

theorem changedS_length {root k old v lv : List UInt8} {ls : List (List UInt8)} : (changedS root k old v lv ls).length = 32 := by
  unfold changedS
  split
  · exact zero32_len
  · split
    · split
      · exact upL_length _ _ (freshL_length _ _ _ _)
      · exact zero32_len
    · split
      · exact upL_length _ _ (mleafL_length _ _)
      · exact zero32_len

set_option maxRecDepth 100000 in
set_option maxHeartbeats 4000000 in
theorem rawMapProofs_c (root k old v lv : List UInt8) (ls : List (List UInt8)) (a : Option Addr) (n c : Nat) (w : World) (hr : root.length = 32) (hk : k.length = 32) (ho : old.length = 32) (hv : v.length = 32) (hlv : lv.length = 32) (hn : ls.length = n) (hn63 : n ≤ 9223372036854775807) (h32 : All32 ls) (hcl : Cells w a (rows ls)) :
    Calls Try.prog 7 #[.agg (root.map u8v).toArray, .agg (k.map u8v).toArray, .agg (old.map u8v).toArray, .agg (v.map u8v).toArray, .agg (mpL lv (.slice a n c)).toArray] w fun e w' => e = .returned (.bool true) ∧ Ext w w' := by
  have HR := hid (show (root.map u8v).length = 32 by rw [List.length_map, hr])
  have HK := hid (show (k.map u8v).length = 32 by rw [List.length_map, hk])
  have HO := hid (show (old.map u8v).length = 32 by rw [List.length_map, ho])
  have HV := hid (show (v.map u8v).length = 32 by rw [List.length_map, hv])
  have HL33 := hid (mpL_length hlv (.slice a n c))
  have HC := hid hcl
  have hth := hid (fun w' h => there_c root k v lv ls a n c w' hr hk hv hlv hn hn63 h32 h)
  have hrth := hid (fun w' h => rthere_c root k v lv ls a n c w' hr hk hv hlv hn hn63 h32 h)
  have hab := hid (fun w' h => absent_c root k lv ls a n c w' hr hk hlv hn hn63 h32 h)
  have hrab := hid (fun w' h => rabsent_c root k lv ls a n c w' hr hk hlv hn hn63 h32 h)
  have hch := hid (fun w' h => changed_c root k old v lv ls a n c w' hr hk ho hv hlv hn hn63 h32 h)
  have hrch := hid (fun w' h => rchanged_c root k old v lv ls a n c w' hr hk ho hv hlv hn hn63 h32 h)
  have hSl := changedS_length (root := root) (k := k) (old := old) (v := v) (lv := lv) (ls := ls)
  generalize thereE root k v lv ls = tE at *
  generalize absentE root k lv ls = aE at *
  generalize changedE root k old v lv ls = cE at *
  generalize changedS root k old v lv ls = S at *
  generalize hvs : mpL lv (.slice a n c) = vs at *
  have HS := hid (show (S.map u8v).length = 32 by rw [List.length_map, hSl])
  have HSE := hid (fun w => eq_self Try.underlying36 S hSl w)
  have os := one_u8 S
  clear hr hk ho hv hlv hn h32 hcl hvs hSl
  have k1 : (tE != tE) = false := by simp
  have k2 : (aE != aE) = false := by simp
  have k3 : (cE == cE) = true := by simp
  go_enter Try.func7, Try.ntmps7
  go_upto_region 1 with (fail)
  generalize hwA : World.alloc (World.alloc (World.alloc (World.alloc (World.alloc w _) _) _) _) _ = wA
  have rA : Blk wA w.heap.size (root.map u8v) 36 := by rw [← hwA]; exact ((((Blk.mk_alloc rfl rfl).alloc _).alloc _).alloc _).alloc _
  have kA : Blk wA (w.heap.size + 1) (k.map u8v) 36 := by rw [← hwA]; exact (((Blk.mk_alloc (by simp) rfl).alloc _).alloc _).alloc _
  have oA : Blk wA (w.heap.size + 2) (old.map u8v) 36 := by rw [← hwA]; exact ((Blk.mk_alloc (by simp) rfl).alloc _).alloc _
  have vA : Blk wA (w.heap.size + 3) (v.map u8v) 36 := by rw [← hwA]; exact (Blk.mk_alloc (by simp) rfl).alloc _
  have pA : Blk wA (w.heap.size + 4) vs 50 := by rw [← hwA]; exact Blk.mk_alloc (by simp) rfl
  have eA : Ext w wA := by rw [← hwA]; exact (((((Ext.refl w).alloc _).alloc _).alloc _).alloc _).alloc _
  clear hwA
  have RA := hid rA
  have KA := hid kA
  have OA := hid oA
  have VA := hid vA
  have PA := hid pA
  have EA := hid eA
  clear rA kA oA vA pA eA
  go_wp2_with fail
  refine (landed_c wA).mono ?_
  rintro e wB ⟨rfl, eB⟩
  have RB := hid (RA.out.ext eB)
  have KB := hid (KA.out.ext eB)
  have OB := hid (OA.out.ext eB)
  have VB := hid (VA.out.ext eB)
  have PB := hid (PA.out.ext eB)
  have EB := hid (EA.out.ext eB)
  clear eB RA KA OA VA PA EA
  go_wp2_with fail
  obtain ⟨C, hC⟩ : ∃ C : World → Prop, C = Cls w wB [w.heap.size, w.heap.size + 1, w.heap.size + 2, w.heap.size + 3, w.heap.size + 4] [] := ⟨_, rfl⟩
  have hC0 : ∀ w', C w' ↔ Cls w wB [w.heap.size, w.heap.size + 1, w.heap.size + 2, w.heap.size + 3, w.heap.size + 4] [] w' := fun w' => by rw [hC]
  clear hC
  have HCC := hid hC0
  clear hC0
  have hCx : ∀ w w', C w → Ext w w' → C w' := fun w w' h1 h2 => (HCC.out w').2 (((HCC.out w).1 h1).ext h2)
  have hCA : C wB := (HCC.out _).2 (Cls.no_room EB.out (Kept.five RB.out.lt KB.out.lt OB.out.lt VB.out.lt PB.out.lt))
  refine wp_region_held_drew (S := C) (by kernel_rfl) (hCx _ _ hCA (Ext.refl _).drew) (fun hS0 => ?_)
  refine held_take 0 (v := _) rfl (by kernel_rfl) (by kernel_rfl) (by kernel_rfl) (fun _ _ _ h => h) (yieldsI_loadw rfl 36 _ rfl rfl (fun w1 h => ((HCC.out w1).1 h).blk RB.out (by simp)) agg_apisum HR.out) hS0 ?_
  simp only [Act.put, List.setIfInBounds_toArray, List.set_cons_succ, List.set_cons_zero]
  refine held_take 1 (v := _) rfl (by kernel_rfl) (by kernel_rfl) (by kernel_rfl) (fun _ _ _ h => h) (yieldsI_loadw rfl 36 _ rfl rfl (fun w1 h => ((HCC.out w1).1 h).blk KB.out (by simp)) agg_apisum HK.out) hS0 ?_
  simp only [Act.put, List.setIfInBounds_toArray, List.set_cons_succ, List.set_cons_zero]
  refine held_take 2 (v := _) rfl (by kernel_rfl) (by kernel_rfl) (by kernel_rfl) (fun _ _ _ h => h) (yieldsI_loadw rfl 36 _ rfl rfl (fun w1 h => ((HCC.out w1).1 h).blk VB.out (by simp)) agg_apisum HV.out) hS0 ?_
  simp only [Act.put, List.setIfInBounds_toArray, List.set_cons_succ, List.set_cons_zero]
  refine held_take 3 (v := _) rfl (by kernel_rfl) (by kernel_rfl) (by kernel_rfl) (fun _ _ _ h => h) (yieldsI_loadw rfl 50 _ rfl rfl (fun w1 h => ((HCC.out w1).1 h).blk PB.out (by simp)) agg_mproof HL33.out) hS0 ?_
  simp only [Act.put, List.setIfInBounds_toArray, List.set_cons_succ, List.set_cons_zero]
  refine held_take 5 (v := _) rfl (by kernel_rfl) (by kernel_rfl) (by kernel_rfl) (fun _ _ _ h => h) (yieldsI_loadw rfl 36 _ rfl rfl (fun w1 h => ((HCC.out w1).1 h).blk RB.out (by simp)) agg_apisum HR.out) hS0 ?_
  simp only [Act.put, List.setIfInBounds_toArray, List.set_cons_succ, List.set_cons_zero]
  refine held_take 6 (v := _) rfl (by kernel_rfl) (by kernel_rfl) (by kernel_rfl) (fun _ _ _ h => h) (yieldsI_loadw rfl 36 _ rfl rfl (fun w1 h => ((HCC.out w1).1 h).blk KB.out (by simp)) agg_apisum HK.out) hS0 ?_
  simp only [Act.put, List.setIfInBounds_toArray, List.set_cons_succ, List.set_cons_zero]
  refine held_take 7 (v := _) rfl (by kernel_rfl) (by kernel_rfl) (by kernel_rfl) (fun _ _ _ h => h) (yieldsI_loadw rfl 36 _ rfl rfl (fun w1 h => ((HCC.out w1).1 h).blk VB.out (by simp)) agg_apisum HV.out) hS0 ?_
  simp only [Act.put, List.setIfInBounds_toArray, List.set_cons_succ, List.set_cons_zero]
  refine held_take 8 (v := _) rfl (by kernel_rfl) (by kernel_rfl) (by kernel_rfl) (fun _ _ _ h => h) (yieldsI_loadw rfl 50 _ rfl rfl (fun w1 h => ((HCC.out w1).1 h).blk PB.out (by simp)) agg_mproof HL33.out) hS0 ?_
  simp only [Act.put, List.setIfInBounds_toArray, List.set_cons_succ, List.set_cons_zero]
  generalize wB.drew = wX at *
  refine held_one (i := 4) (by kernel_rfl) rfl ?_
  intro Q' hQ
  go_wp2_with fail
  refine (hth.out _ (HC.out.ext ((HCC.out _).1 hS0).base)).mono ?_
  rintro e wY ⟨rfl, eq9⟩
  have hS9 := hCx _ _ hS0 eq9
  go_wp2_with fail
  refine hQ _ _ hS9 ?_
  clear hQ Q' hS0 eq9
  have hS0 := hS9
  clear hS9
  try dsimp only
  try simp only [Act.put, List.setIfInBounds_toArray, List.set_cons_succ, List.set_cons_zero]
  refine held_one (i := 9) (by kernel_rfl) rfl ?_
  intro Q' hQ
  go_wp2_with fail
  refine (hrth.out _ (HC.out.ext ((HCC.out _).1 hS0).base)).mono ?_
  rintro e wZ ⟨rfl, eq9⟩
  have hS9 := hCx _ _ hS0 eq9
  go_wp2_with fail
  refine hQ _ _ hS9 ?_
  clear hQ Q' hS0 eq9
  have hS0 := hS9
  clear hS9
  try dsimp only
  try simp only [Act.put, List.setIfInBounds_toArray, List.set_cons_succ, List.set_cons_zero]
  refine held_take 10 (v := ?tv1) rfl (by kernel_rfl) (by kernel_rfl) (by kernel_rfl) (fun _ _ _ h => h) (.inl ⟨rfl, ?ty1⟩) hS0 ?tr1
  case ty1 => (intro _ _; go_simp; try with_reducible rfl)
  case tr1 =>
  simp only [Act.put, List.setIfInBounds_toArray, List.set_cons_succ, List.set_cons_zero]
  refine held_take 11 (v := ?tv2) rfl (by kernel_rfl) (by kernel_rfl) (by kernel_rfl) (fun _ _ _ h => h) (.inl ⟨rfl, ?ty2⟩) hS0 ?tr2
  case ty2 => (intro _ _; go_simp; try with_reducible rfl)
  case tr2 =>
  simp only [Act.put, List.setIfInBounds_toArray, List.set_cons_succ, List.set_cons_zero]
  refine held_take 12 (v := _) rfl (by kernel_rfl) (by kernel_rfl) (by kernel_rfl) (fun _ _ _ h => h) (yieldsI_loadw rfl 36 _ rfl rfl (fun w1 h => ((HCC.out w1).1 h).blk RB.out (by simp)) agg_apisum HR.out) hS0 ?_
  simp only [Act.put, List.setIfInBounds_toArray, List.set_cons_succ, List.set_cons_zero]
  refine held_take 13 (v := _) rfl (by kernel_rfl) (by kernel_rfl) (by kernel_rfl) (fun _ _ _ h => h) (yieldsI_loadw rfl 36 _ rfl rfl (fun w1 h => ((HCC.out w1).1 h).blk KB.out (by simp)) agg_apisum HK.out) hS0 ?_
  simp only [Act.put, List.setIfInBounds_toArray, List.set_cons_succ, List.set_cons_zero]
  refine held_take 14 (v := _) rfl (by kernel_rfl) (by kernel_rfl) (by kernel_rfl) (fun _ _ _ h => h) (yieldsI_loadw rfl 50 _ rfl rfl (fun w1 h => ((HCC.out w1).1 h).blk PB.out (by simp)) agg_mproof HL33.out) hS0 ?_
  simp only [Act.put, List.setIfInBounds_toArray, List.set_cons_succ, List.set_cons_zero]
  refine held_take 16 (v := _) rfl (by kernel_rfl) (by kernel_rfl) (by kernel_rfl) (fun _ _ _ h => h) (yieldsI_loadw rfl 36 _ rfl rfl (fun w1 h => ((HCC.out w1).1 h).blk RB.out (by simp)) agg_apisum HR.out) hS0 ?_
  simp only [Act.put, List.setIfInBounds_toArray, List.set_cons_succ, List.set_cons_zero]
  refine held_take 17 (v := _) rfl (by kernel_rfl) (by kernel_rfl) (by kernel_rfl) (fun _ _ _ h => h) (yieldsI_loadw rfl 36 _ rfl rfl (fun w1 h => ((HCC.out w1).1 h).blk KB.out (by simp)) agg_apisum HK.out) hS0 ?_
  simp only [Act.put, List.setIfInBounds_toArray, List.set_cons_succ, List.set_cons_zero]
  refine held_take 18 (v := _) rfl (by kernel_rfl) (by kernel_rfl) (by kernel_rfl) (fun _ _ _ h => h) (yieldsI_loadw rfl 50 _ rfl rfl (fun w1 h => ((HCC.out w1).1 h).blk PB.out (by simp)) agg_mproof HL33.out) hS0 ?_
  simp only [Act.put, List.setIfInBounds_toArray, List.set_cons_succ, List.set_cons_zero]
  refine held_one (i := 15) (by kernel_rfl) rfl ?_
  intro Q' hQ
  go_wp2_with fail
  refine (hab.out _ (HC.out.ext ((HCC.out _).1 hS0).base)).mono ?_
  rintro e wU ⟨rfl, eq9⟩
  have hS9 := hCx _ _ hS0 eq9
  go_wp2_with fail
  refine hQ _ _ hS9 ?_
  clear hQ Q' hS0 eq9
  have hS0 := hS9
  clear hS9
  try dsimp only
  try simp only [Act.put, List.setIfInBounds_toArray, List.set_cons_succ, List.set_cons_zero]
  refine held_one (i := 19) (by kernel_rfl) rfl ?_
  intro Q' hQ
  go_wp2_with fail
  refine (hrab.out _ (HC.out.ext ((HCC.out _).1 hS0).base)).mono ?_
  rintro e wC ⟨rfl, eq9⟩
  have hS9 := hCx _ _ hS0 eq9
  go_wp2_with fail
  refine hQ _ _ hS9 ?_
  clear hQ Q' hS0 eq9
  have hS0 := hS9
  clear hS9
  try dsimp only
  try simp only [Act.put, List.setIfInBounds_toArray, List.set_cons_succ, List.set_cons_zero]
  refine held_take 20 (v := ?tv3) rfl (by kernel_rfl) (by kernel_rfl) (by kernel_rfl) (fun _ _ _ h => h) (.inl ⟨rfl, ?ty3⟩) hS0 ?tr3
  case ty3 => (intro _ _; go_simp; try with_reducible rfl)
  case tr3 =>
  simp only [Act.put, List.setIfInBounds_toArray, List.set_cons_succ, List.set_cons_zero]
  refine held_take 21 (v := ?tv4) rfl (by kernel_rfl) (by kernel_rfl) (by kernel_rfl) (fun _ _ _ h => h) (.inl ⟨rfl, ?ty4⟩) hS0 ?tr4
  case ty4 => (intro _ _; go_simp; try with_reducible rfl)
  case tr4 =>
  simp only [Act.put, List.setIfInBounds_toArray, List.set_cons_succ, List.set_cons_zero]
  refine wpAnyH_done (by kernel_rfl) ?_ _
  have EC := hid ((HCC.out wC).1 hS0).base
  have RC := hid (((HCC.out wC).1 hS0).blk RB.out (by simp))
  have KC := hid (((HCC.out wC).1 hS0).blk KB.out (by simp))
  have OC := hid (((HCC.out wC).1 hS0).blk OB.out (by simp))
  have VC := hid (((HCC.out wC).1 hS0).blk VB.out (by simp))
  have PC := hid (((HCC.out wC).1 hS0).blk PB.out (by simp))
  clear hS0 hCx hCA HCC RB KB OB VB PB EB hth hrth hab hrab
  go_wp2_with (first | (refine wpl_loadw rfl 36 (.tmp 5) rfl rfl RC.out agg_apisum HR.out ?_) | (refine wpl_loadw rfl 36 (.tmp 6) rfl rfl KC.out agg_apisum HK.out ?_) | (refine wpl_loadw rfl 36 (.tmp 7) rfl rfl OC.out agg_apisum HO.out ?_) | (refine wpl_loadw rfl 36 (.tmp 8) rfl rfl VC.out agg_apisum HV.out ?_) | (refine wpl_loadw rfl 50 (.tmp 9) rfl rfl PC.out agg_mproof HL33.out ?_))
  refine (hch.out _ (HC.out.ext EC.out)).mono ?_
  rintro e wD ⟨rfl, eD⟩
  have RD := hid (RC.out.ext eD)
  have KD := hid (KC.out.ext eD)
  have OD := hid (OC.out.ext eD)
  have VD := hid (VC.out.ext eD)
  have PD := hid (PC.out.ext eD)
  have ED := hid (EC.out.ext eD)
  clear eD RC KC OC VC PC EC
  go_wp2_with (first | (refine wpl_storew rfl _ (.tmp 11) _ rfl rfl rfl (Blk.mk_alloc (vs := List.replicate 32 (.int .u8 0)) rfl rfl) agg_apisum (by simp) HS.out os ?_))
  intro wE bE uE
  have eE : Ext wD wE := uE.ext ((Ext.refl wD).alloc _) (Nat.le_refl _)
  have SE := hid bE
  have RE := hid (RD.out.ext eE)
  have KE := hid (KD.out.ext eE)
  have OE := hid (OD.out.ext eE)
  have VE := hid (VD.out.ext eE)
  have PE := hid (PD.out.ext eE)
  have EE := hid (ED.out.ext eE)
  clear eE RD KD OD VD PD ED
  clear uE bE hch
  generalize wD.heap.size = g9 at *
  go_wp2_with (first | (refine wpl_loadw rfl 36 (.tmp 5) rfl rfl RE.out agg_apisum HR.out ?_) | (refine wpl_loadw rfl 36 (.tmp 6) rfl rfl KE.out agg_apisum HK.out ?_) | (refine wpl_loadw rfl 36 (.tmp 7) rfl rfl OE.out agg_apisum HO.out ?_) | (refine wpl_loadw rfl 36 (.tmp 8) rfl rfl VE.out agg_apisum HV.out ?_) | (refine wpl_loadw rfl 50 (.tmp 9) rfl rfl PE.out agg_mproof HL33.out ?_))
  refine (hrch.out _ (HC.out.ext EE.out)).mono ?_
  rintro e wF ⟨rfl, eF⟩
  have SF := hid (SE.out.ext eF)
  have EF := hid (EE.out.ext eF)
  clear eF SE EE
  clear RE KE OE VE PE hrch
  go_wp2_with (first | (refine wpl_storew rfl _ (.tmp 13) _ rfl rfl rfl (Blk.mk_alloc (vs := List.replicate 32 (.int .u8 0)) rfl rfl) agg_apisum (by simp) HS.out os ?_))
  intro wG bG uG
  have eG : Ext wF wG := uG.ext ((Ext.refl wF).alloc _) (Nat.le_refl _)
  have TG := hid bG
  have SG := hid (SF.out.ext eG)
  have EG := hid (EF.out.ext eG)
  clear eG SF EF
  clear uG bG
  generalize wF.heap.size = g10 at *
  go_wp2_with (first | (refine wpl_loadw rfl 36 (.tmp 11) rfl rfl SG.out agg_apisum HS.out ?_) | (refine wpl_loadw rfl 36 (.tmp 13) rfl rfl TG.out agg_apisum HS.out ?_) | (refine wpg_cmp rfl .eql _ _ _ _ rfl rfl rfl guard_sum HSE.out ?_))
  go_ret
  exact ⟨rfl, EG.out⟩
end

section
open Go Go.RowKit Go.ChangeShapes Go.WideShapes Go.ChangeAt Go.Deep

theorem cells?_at {w : World} {base : Nat} {p : Addr} {k : Nat} {cs : List Value} (h : w.cells? base p k = some cs) : cs.length = k ∧ CellsAt w p cs := by
  unfold World.cells? at h
  split at h
  · refine ⟨by simpa using mapM_some_length h, fun j u hu => ?_⟩
    have hj : j < k := by
      have h1 := (List.getElem?_eq_some_iff.1 hu).1
      have h2 := mapM_some_length h
      simp at h2; omega
    have := mapM_some_get h j j (by simp [hj])
    rw [hu] at this
    exact this
  · cases h

section
variable {H : Type} {enc : TypeId × Value → H} {P : Program} {w : World}
theorem octets_of_trod {base : Nat} {sp : Nat → Bool} {held : Bool} {t e : TypeId} {n f : Nat} {cs : List Value} {x : DataW H × List MemPlace} (ht : P.underlying t = some (.array n e)) (he : P.underlying e = some (.int .u8)) (hce : P.cellsOf e = 1) (hct : P.cellsOf t = n)
    (hf : DataW.trod enc P w base sp held f t cs = some x) : ∃ l : List UInt8, l.length = n ∧ cs = l.map u8v := by
  obtain ⟨xs, m, _, _, hlen, hxl, hel⟩ := DataW.trod_array ht hf
  have hcl : cs.length = n := by rw [hlen, hct]
  obtain ⟨l, hl⟩ := u8s_of cs fun i u hu => by
    have hi : i < n := by
      have := (List.getElem?_eq_some_iff.1 hu).1
      omega
    have h1 := hel i hi
    rw [hce, Nat.mul_one] at h1
    have hx : xs[i]? = some xs[i] := by simp
    have h2 : (cs.drop i).take 1 = [u] := by
      have h3 := List.getElem?_drop (xs := cs) (i := i) (j := 0)
      rw [Nat.add_zero, hu] at h3
      cases hd : cs.drop i with
      | nil => rw [hd] at h3; simp at h3
      | cons y r => rw [hd] at h3; simp at h3; simp [h3]
    have h4 : DataW.trod enc P w base sp held m e [u] = some xs[i] := by
      rw [← h2, ← hx]; exact h1
    obtain ⟨k, hk, _, hw⟩ := DataW.trod_int he h4
    have hu' : u = .int .u8 k := by simpa using hk
    rw [hu']; exact u8_of hw
  refine ⟨l, ?_, hl⟩
  have := congrArg List.length hl
  rw [hcl, List.length_map] at this; exact this.symm

/-- a slice of rows, its cell read -/
theorem sums_of_trod {base f : Nat} {held : Bool} {t e q : TypeId} {cs : List Value} {x : DataW H × List MemPlace} (ht : P.underlying t = some (.slice e)) (he : P.underlying e = some (.array 32 q)) (hq : P.underlying q = some (.int .u8)) (cq : P.cellsOf q = 1) (ce : P.cellsOf e = 32)
    (hf : DataW.trod enc P w base (fun _ => true) held f t cs = some x) :
    ∃ (a : Option Addr) (n c : Nat) (ls : List (List UInt8)) (es sp : List (DataW H)), cs = [.slice a n c] ∧ ls.length = n ∧ All32 ls ∧ n ≤ c ∧ c ≤ maxLen ∧ (a = none → c = 0) ∧ Cells w a (rows ls) ∧ ((x.1 = .nil ∧ c = 0) ∨ (x.1 = .slice es sp ∧ es.length + sp.length = c)) := by
  rcases DataW.trod_slice ht hf with ⟨h0, h1⟩ | ⟨a, len, cap, elems, rest, n, _, rfl, rfl, hb, hl, hm, hlen, hel, hsp, hns⟩
  · exact ⟨none, 0, 0, [], [], [], h0, rfl, All32.nil, Nat.le_refl _, Nat.zero_le _, fun _ => rfl, .inl rfl, .inl ⟨by rw [h1], rfl⟩⟩
  · have each : ∀ i, i < len → ∃ l : List UInt8, l.length = 32 ∧ CellsAt w (a.add (i * 32)) (l.map u8v) := by
      intro i hi
      have h1 := hel i hi
      have hx : elems[i]? = some (elems[i]'(by omega)) := by simp
      rw [ce, hx, Option.bind_eq_some_iff] at h1
      obtain ⟨cs', hcs, hy⟩ := h1
      obtain ⟨l, hl1, rfl⟩ := octets_of_trod he hq cq ce hy
      exact ⟨l, hl1, (cells?_at hcs).2⟩
    obtain ⟨g, hg⟩ := choose_lt each
    have h32 : All32 ((List.range len).map g) := fun l hl => by
      obtain ⟨i, hi, rfl⟩ := List.mem_map.1 hl
      exact (hg i (List.mem_range.1 hi)).1
    obtain ⟨hrl, _⟩ := hsp rfl
    refine ⟨some a, len, cap, (List.range len).map g, _, _, rfl, by simp, h32, hl, hm, (fun h => by cases h), ?_, .inr ⟨rfl, by simp; omega⟩⟩
    by_cases h0 : len = 0
    · left; subst h0; rfl
    · obtain ⟨hl0, hc0⟩ := hg 0 (by omega)
      obtain ⟨b, off, spot⟩ := a
      have hspot : spot = none := by
        have := hc0 0 (u8v ((g 0)[0]'(by omega))) (by simp [hl0])
        simpa [Addr.add] using World.cell?_spot this
      subst hspot
      refine .inr ⟨b, off, rfl, fun i u hu => ?_⟩
      have hi : i < 32 * len := by
        have := (List.getElem?_eq_some_iff.1 hu).1
        rw [rows_length h32] at this; simpa using this
      obtain ⟨_, hcr⟩ := hg (i / 32) (by omega)
      have hrow : ((List.range len).map g)[i / 32]? = some (g (i / 32)) := by
        rw [List.getElem?_map, List.getElem?_range (by omega)]; rfl
      have h2 := rows_at h32 hrow
      have h3 : ((g (i / 32)).map u8v)[i % 32]? = some u := by
        rw [← h2, List.getElem?_take_of_lt (Nat.mod_lt _ (by omega)), List.getElem?_drop, Nat.div_add_mod]; exact hu
      have h4 := hcr _ _ h3
      rw [addr_add, addr_add] at h4
      rw [show off + i / 32 * 32 + i % 32 = off + i by omega] at h4
      exact h4

/-- a struct of two ints and a slice of rows -/
theorem open_proof {r : Reach} {b0 base : Nat} {held : Bool} {t e q : TypeId} {f0 f1 f2 : Field} {v : Value} {d : DataW H} {ps : List MemPlace} (ht : P.underlying t = some (.struct #[f0, f1, f2])) (h0 : P.underlying f0.type = some (.int .i64)) (h1 : P.underlying f1.type = some (.int .i64))
    (h2 : P.underlying f2.type = some (.slice e)) (he : P.underlying e = some (.array 32 q)) (hq : P.underlying q = some (.int .u8)) (cq : P.cellsOf q = 1) (ce : P.cellsOf e = 32) (c0 : P.cellsOf f0.type = 1) (c1 : P.cellsOf f1.type = 1) (c2 : P.cellsOf f2.type = 1) (ct : P.cellsOf t = 3)
    (o0 : f0.offset = 0) (o1 : f1.offset = 1) (o2 : f2.offset = 2)
    (hval : Value.okWide P w r b0 t v) (hd : DataW.Trod enc P w base (fun _ => true) held t v d ps) :
    ∃ (I Z : Int) (a : Option Addr) (n c : Nat) (ls : List (List UInt8)), v = .agg #[.int .i64 I, .int .i64 Z, .slice a n c] ∧ ls.length = n ∧ All32 ls ∧ n ≤ c ∧ c ≤ maxLen ∧ (a = none → c = 0) ∧ Cells w a (rows ls) ∧
      ∃ (D : DataW H) (es sp : List (DataW H)), d = .agg [.lit (.int .i64 I), .lit (.int .i64 Z), D] ∧ ((D = .nil ∧ c = 0) ∨ (D = .slice es sp ∧ es.length + sp.length = c)) ∧ (Lit.int .i64 I).wf = true ∧ (Lit.int .i64 Z).wf = true := by
  obtain ⟨cs, rfl, hs⟩ := okWide_struct ht hval
  obtain ⟨fuel, hf⟩ := hd
  obtain ⟨y0, y1, y2, m, hx, hl, g0, g1, g2⟩ := trod_struct3 ht hf
  rw [c0, o0] at g0
  rw [c1, o1] at g1
  rw [c2, o2] at g2
  obtain ⟨I, hI, hI2, wI⟩ := DataW.trod_int h0 g0
  obtain ⟨Z, hZ, hZ2, wZ⟩ := DataW.trod_int h1 g1
  obtain ⟨a, n, c, ls, es, sp, hsl, hln, h32, hnc, hcm, hnil, hcl, hdd⟩ := sums_of_trod h2 he hq cq ce g2
  have hcs : cs = #[.int .i64 I, .int .i64 Z, .slice a n c] := by
    have hsz : cs.size = 3 := by rw [hs, ct]
    obtain ⟨l⟩ := cs
    match l, hsz with
    | [p0, p1, p2], _ =>
      simp [Value.cells] at hI hZ hsl
      rw [hI, hZ, hsl]
  refine ⟨I, Z, a, n, c, ls, by rw [hcs], hln, h32, hnc, hcm, hnil, hcl, y2.1, es, sp, ?_, hdd, wI, wZ⟩
  simp only [Prod.mk.injEq] at hx
  rw [hx.1, hI2, hZ2]
end
end

section
open Go Go.RowKit Go.ChangeShapes Go.WideShapes Go.ChangeAt Go.Deep

section
variable {H : Type} {enc : TypeId × Value → H} {P : Program} {w : World}
theorem open_mproof {r : Reach} {b0 base : Nat} {held : Bool} {t e q : TypeId} {f0 f1 : Field} {v : Value} {d : DataW H} {ps : List MemPlace} (ht : P.underlying t = some (.struct #[f0, f1])) (h0 : P.underlying f0.type = some (.array 32 q))
    (h1 : P.underlying f1.type = some (.slice e)) (he : P.underlying e = some (.array 32 q)) (hq : P.underlying q = some (.int .u8)) (cq : P.cellsOf q = 1) (ce : P.cellsOf e = 32) (c0 : P.cellsOf f0.type = 32) (c1 : P.cellsOf f1.type = 1) (ct : P.cellsOf t = 33)
    (o0 : f0.offset = 0) (o1 : f1.offset = 32)
    (hval : Value.okWide P w r b0 t v) (hd : DataW.Trod enc P w base (fun _ => true) held t v d ps) :
    ∃ (lv : List UInt8) (a : Option Addr) (n c : Nat) (ls : List (List UInt8)), v = .agg (mpL lv (.slice a n c)).toArray ∧ lv.length = 32 ∧ ls.length = n ∧ All32 ls ∧ n ≤ c ∧ c ≤ maxLen ∧ (a = none → c = 0) ∧ Cells w a (rows ls) := by
  obtain ⟨cs, rfl, hs⟩ := okWide_struct ht hval
  obtain ⟨fuel, hf⟩ := hd
  obtain ⟨y0, y1, m, hx, hl, g0, g1⟩ := trod_struct2 ht hf
  rw [c0, o0] at g0
  rw [c1, o1] at g1
  obtain ⟨lv, hlv, hc0⟩ := octets_of_trod h0 hq cq c0 g0
  obtain ⟨a, n, c, ls, es, sp, hsl, hln, h32, hnc, hcm, hnil, hcl, hdd⟩ := sums_of_trod h1 he hq cq ce g1
  refine ⟨lv, a, n, c, ls, ?_, hlv, hln, h32, hnc, hcm, hnil, hcl⟩
  have hl33 : (Value.agg cs).cells.toList.length = 33 := by rw [hl, ct]
  have e0 : (Value.agg cs).cells.toList = cs.toList := rfl
  rw [e0] at hl33 hc0 hsl
  have hcs : cs.toList = mpL lv (.slice a n c) := by
    rw [List.drop_zero] at hc0
    have h3 : cs.toList = cs.toList.take 32 ++ cs.toList.drop 32 := (List.take_append_drop 32 _).symm
    have h4 : cs.toList.drop 32 = [.slice a n c] := by
      rw [← hsl, List.take_of_length_le]
      rw [List.length_drop]; omega
    rw [h3, hc0, h4]; rfl
  have : cs = cs.toList.toArray := by simp
  rw [this, hcs]
end
end
end Go.Proofs.Ytfiigjdiohmkmaa
