/- The Summer's take, Write, Copy, NewSummer; conditions: the octets' number, and where they lie. -/
import Derived.Test.YtjgglnflicemjaaP4
import Derived.Laws.MakeOwn
namespace Go.Proofs.Ytjgglnflicemjaa
open Go Go.RowKit

theorem run_mk8 (w : World) (n : Nat) (hn : n ≤ 140737488355328) : (Instr.makeSlice 26 (.int .i64 (n : Int)) (.int .i64 (n : Int))).run Try.prog w =
    .ok (.slice (some ⟨w.heap.size, 0, none⟩) n n) (w.alloc (.cells ((List.replicate n (0 : UInt8)).map u8v).toArray 5)) := by
  obtain ⟨i0, hi, hz, hs, hb⟩ := info_parts info_u8
  have h := run_make (P := Try.prog) w 26 5 i0 (.int .u8 0) Try.underlying26 hi hz .i64 .i64 n n (by omega) (by omega) (by rw [hb]; omega) (by omega)
  rw [h, hs]
  have : madeCells (Value.int .u8 0).cells ((n : Int).toNat * 1) = ((List.replicate n (0 : UInt8)).map u8v).toArray := by
    have e : (Value.int .u8 0).cells = #[.int .u8 0] := rfl
    apply Array.ext
    · simp [size_madeCells]
    · intro i h1 h2
      simp [madeCells, e, u8v, Nat.mod_one]
  rw [this]
  simp

theorem wpl_mk8 {ops : Array Oper} {rest : List Oper} {o : Oper} {a : Act} {w : World} {Q : Exit → Act → World → Prop} (hgd : o.guard = none) (x y : Operand) (ho : o.op = .makeSlice 26 x y) {n : Nat}
    (hx : a.eval x = .int .i64 (n : Int)) (hy : a.eval y = .int .i64 (n : Int)) (hn : n ≤ 140737488355328)
    (h : wpList Try.prog ops Q rest (a.put o.dst (.slice (some ⟨w.heap.size, 0, none⟩) n n)) (w.alloc (.cells ((List.replicate n (0 : UInt8)).map u8v).toArray 5))) : wpList Try.prog ops Q (o :: rest) a w :=
  wpList_plain hgd fun K hK => by
    unfold Oper.wp execOp
    simp only [ho, hx, hy, Result.andThen_ok, Sem.run_bind, Sem.run_pure, run_mk8 w n hn]
    exact hK _ _ h

theorem take_c (s0 t b : List UInt8) (tot : Int) (g n c : Nat) (a : Option Addr) (T : TypeId) (w : World) (hs : s0.length = 64) (hb : b.length = n)
    (hH : Holds w g T s0 t tot) (hn : n ≤ 140737488355328) (hnc : n ≤ c) (hc : c ≤ 140737488355328) (h0 : a = none → n = 0) (hcl : Cells w a (b.map u8v)) (haw : n = 0 ∨ ∀ x, a = some x → some x.block ≠ some g) :
    Calls Try.prog 76 #[.pointer (some ⟨g, 0, none⟩), .slice a n c] w (takePost w g T s0 (t ++ b) tot) := by
  obtain ⟨r, hr, hrt, hB⟩ := hH
  have hm : t.length = 32 * (t.length / 32) + t.length % 32 := by omega
  generalize hmm : t.length / 32 = m at *
  generalize hhh : t.length % 32 = h at *
  have hlt : h < 32 := by omega
  by_cases h1 : h = 0
  · subst h1
    exact take_c0 s0 t b r tot g m n c a T w hs hr hb (by omega) hB hn hnc hc h0 hcl haw
  · by_cases h2 : h + n < 32
    · exact take_c1 s0 t b r tot g m h n c a T w hs hr hb hm (by omega) h2 hrt hB hnc hc h0 hcl haw
    · have hsplit : b.take (32 - h) ++ b.drop (32 - h) = b := List.take_append_drop _ _
      have := take_c2 s0 t (b.take (32 - h)) (b.drop (32 - h)) r tot g m h n (n - (32 - h)) c a T w hs hr (by rw [List.length_drop, hb]) (by rw [List.length_take, hb]; omega) hm (by omega) hlt (by omega) hrt hB hnc hc h0 (by rw [hsplit]; exact hcl) haw
      rwa [List.append_assoc, hsplit] at this

theorem cells_grown0 {w w' : World} {a : Option Addr} {xs : List Value} {r : Option Nat} {n : Nat} (h : Cells w a xs) (hl : xs.length = n) (k : w.grownBy w' r) (hn : n = 0 ∨ ∀ x, a = some x → some x.block ≠ r) : Cells w' a xs := by
  rcases hn with rfl | hn
  · exact .inl (List.length_eq_zero_iff.1 hl)
  · exact h.grown k hn
theorem away_of {w0 : World} {a : Option Addr} {xs : List Value} {n g : Nat} (h : Cells w0 a xs) (hl : xs.length = n) (hg : w0.heap.size ≤ g) : n = 0 ∨ ∀ x, a = some x → some x.block ≠ some g := by
  by_cases h0 : n = 0
  · exact .inl h0
  · refine .inr ?_
    intro x hx
    obtain ⟨b, off, rfl, hc⟩ := h.some_of (by omega)
    cases hx
    have h1 : b < w0.heap.size := block_lt_of_cell (hc 0 _ (List.getElem?_eq_getElem (by omega)))
    intro e
    have h2 : b = g := by injection e
    omega

abbrev SmT : TypeId := 120
theorem agg_sm : AggT Try.prog 120 98 := ⟨⟨_, Try.underlying120, rfl⟩, by kernel_rfl⟩

theorem Holds.blk {w : World} {g : Nat} {T : TypeId} {s0 t : List UInt8} {tot : Int} (h : Holds w g T s0 t tot) : ∃ vs, vs.length = vs.length ∧ Blk w g vs T := by
  obtain ⟨r, _, _, hb⟩ := h; exact ⟨_, rfl, hb⟩
theorem Holds.lt {w : World} {g : Nat} {T : TypeId} {s0 t : List UInt8} {tot : Int} (h : Holds w g T s0 t tot) : g < w.heap.size := by
  obtain ⟨r, _, _, hb⟩ := h; exact hb.lt
theorem Holds.ext {w w' : World} {g : Nat} {T : TypeId} {s0 t : List UInt8} {tot : Int} (h : Holds w g T s0 t tot) (k : Ext w w') : Holds w' g T s0 t tot := by
  obtain ⟨r, h1, h2, hb⟩ := h; exact ⟨r, h1, h2, hb.ext k⟩
theorem Holds.grown {w w' : World} {g : Nat} {T : TypeId} {s0 t : List UInt8} {tot : Int} {r : Option Nat} (h : Holds w g T s0 t tot) (k : w.grownBy w' r) (hn : some g ≠ r) : Holds w' g T s0 t tot := by
  obtain ⟨r, h1, h2, hb⟩ := h; exact ⟨r, h1, h2, hb.grown k hn⟩

def writePost (w : World) (g : Nat) (T : TypeId) (s0 t b : List UInt8) (tot : Int) (e : Ending) (w' : World) : Prop :=
  if (b.length : Int) ≤ 1048576 - tot then e = .returned (.int .i64 0) ∧ Holds w' g T s0 (t ++ b) (tot + b.length) ∧ w.grownBy w' (some g)
  else e = .returned (.int .i64 5) ∧ w = w'

set_option maxRecDepth 100000 in
set_option maxHeartbeats 1000000 in
theorem write_c (s0 t b : List UInt8) (tot : Int) (g n c : Nat) (a : Option Addr) (T : TypeId) (w : World) (hs : s0.length = 64) (hb : b.length = n) (ht0 : 0 ≤ tot) (ht1 : tot ≤ 1048576)
    (hH : Holds w g T s0 t tot) (hn : n ≤ 140737488355328) (hnc : n ≤ c) (hc : c ≤ 140737488355328) (h0 : a = none → n = 0) (hcl : Cells w a (b.map u8v)) (haw : n = 0 ∨ ∀ x, a = some x → some x.block ≠ some g) :
    Calls Try.prog 35 #[.pointer (some ⟨g, 0, none⟩), .slice a n c] w (writePost w g T s0 t b tot) := by
  obtain ⟨r, hr, hrt, hB⟩ := hH
  unfold writePost
  rw [hb]
  have HB := hid hb
  have HR := hid hr
  have HRT := hid hrt
  have H0 := hid h0
  have HA := hid haw
  have HC := hid hcl
  have HBL := hid hB
  have HS := hid hs
  have c1 := hB.cell' (sm_total (t.length % 32 : Nat) tot (absN_length hs _) hr)
  have f1 := hB.frozen 97
  have k1 : IntKind.i64.wrap (1048576 - tot) = 1048576 - tot := IntWalk.i64_in _ (by omega)
  clear hb hr hrt h0 haw hcl hB hs
  by_cases hle : (n : Int) ≤ 1048576 - tot
  · simp only [if_pos hle]
    have k2 : IntKind.i64.wrap (tot + n) = tot + n := IntWalk.i64_in _ (by omega)
    have hd : decide ((1048576 - tot) < (n : Int)) = false := decide_eq_false (by omega)
    go_enter Try.func35, Try.ntmps35
    go_wp2_with fail
    have b2 := HBL.out.set 97 (.int .i64 (tot + n))
    rw [sm_set_total _ _ _ (absN_length HS.out _) HR.out] at b2
    have hH2 : Holds (w.setCell ⟨g, 97, none⟩ (.int .i64 (tot + n))) g T s0 t (tot + n) := ⟨r, HR.out, HRT.out, b2⟩
    have g2 := grown_set (grown_refl w (some g)) 97 (.int .i64 (tot + n))
    generalize World.setCell w _ _ = w2 at *
    refine (take_c s0 t b (tot + n) g n c a T w2 HS.out HB.out hH2 hn hnc hc H0.out (cells_grown0 HC.out (by rw [List.length_map]; exact HB.out) g2 HA.out) HA.out).mono ?_
    rintro e w3 ⟨rfl, h3, g3⟩
    go_wp2
    go_ret
    exact ⟨rfl, h3, grown_trans g2 g3⟩
  · simp only [if_neg hle]
    have hd : decide ((1048576 - tot) < (n : Int)) = true := decide_eq_true (by omega)
    go_enter Try.func35, Try.ntmps35
    go_wp2
    go_ret
    exact ⟨rfl, rfl⟩

set_option maxRecDepth 100000 in
set_option maxHeartbeats 1000000 in
theorem copy_c (s0 t : List UInt8) (tot : Int) (g : Nat) (T : TypeId) (w : World) (hs : s0.length = 64) (hH : Holds w g T s0 t tot) :
    Calls Try.prog 37 #[.pointer (some ⟨g, 0, none⟩)] w fun e w' => e = .returned (.pointer (some ⟨w.heap.size, 0, none⟩)) ∧ Holds w' w.heap.size SmT s0 t tot ∧ Ext w w' := by
  obtain ⟨r, hr, hrt, hB⟩ := hH
  have hl := sm_length (t.length % 32 : Nat) tot (absN_length (t := t) hs (t.length / 32)) hr
  have h1 : ∀ v ∈ sm (absN s0 t (t.length / 32)) r (t.length % 32 : Nat) tot, v.oneCell' = true := by
    intro v hv
    unfold sm at hv
    simp only [List.mem_append, List.mem_cons, List.not_mem_nil, or_false] at hv
    rcases hv with hv | hv | hv | hv
    · exact one_u8 _ v hv
    · exact one_u8 _ v hv
    · rw [hv]; rfl
    · rw [hv]; rfl
  have HB := hid hB
  have HL := hid hl
  have HR := hid hr
  have HRT := hid hrt
  clear hB hl hr hrt
  go_enter Try.func37, Try.ntmps37
  go_wp2_with (first | (refine wpl_loadw rfl _ _ rfl rfl HB.out agg_sm HL.out ?_) | (refine wpl_storew rfl _ _ _ rfl rfl rfl (Blk.mk_alloc rfl rfl) agg_sm rfl HL.out h1 ?_))
  intro w2 b2 u2
  have e2 := u2.ext ((Ext.refl w).alloc _) (Nat.le_refl _)
  go_wp2
  go_ret
  exact ⟨rfl, ⟨r, HR.out, HRT.out, b2⟩, e2⟩

def initS (d : Int) : List UInt8 := (List.replicate 64 0).set 63 (UInt8.ofNat d.toNat)
theorem initS_length (d : Int) : (initS d).length = 64 := by simp [initS]

theorem zero_sm : Try.zeroCells120 = (sm (List.replicate 64 0) (List.replicate 32 0) 0 0).toArray := by kernel_rfl

def newPost (d : Int) (w : World) (e : Ending) (w' : World) : Prop :=
  if d < 0 ∨ 255 < d then e = .returned (.tuple #[.pointer none, .int .i64 3]) ∧ w = w'
  else e = .returned (.tuple #[.pointer (some ⟨w.heap.size, 0, none⟩), .int .i64 0]) ∧ Holds w' w.heap.size SmT (initS d) [] 0 ∧ Ext w w'

set_option maxRecDepth 100000 in
set_option maxHeartbeats 1000000 in
theorem newSummer_c (d : Int) (w : World) :
    Calls Try.prog 34 #[.int .i64 d] w (newPost d w) := by
  unfold newPost
  by_cases hd : d < 0 ∨ 255 < d
  · simp only [if_pos hd]
    by_cases h1 : d < 0
    · clear hd
      go_enter Try.func34, Try.ntmps34
      go_wp2
      go_ret2
      exact ⟨rfl, rfl⟩
    · have h2 : 255 < d := by omega
      clear hd
      go_enter Try.func34, Try.ntmps34
      go_wp2
      go_ret2
      exact ⟨rfl, rfl⟩
  · simp only [if_neg hd]
    have h1 : ¬ d < 0 := by omega
    have h2 : ¬ 255 < d := by omega
    have h3 : IntKind.u8.wrap d = d := IntWalk.u8_in _ (by omega)
    clear hd
    go_enter Try.func34, Try.ntmps34
    go_wp2
    go_ret2
    have hz : Try.zeroCells120.setIfInBounds 63 (.int .u8 d) = (sm (initS d) (List.replicate 32 0) 0 0).toArray := by
      rw [zero_sm, List.setIfInBounds_toArray]
      congr 1
      unfold sm initS
      rw [List.set_append_left _ _ (by simp), List.map_set]
      have : u8v (UInt8.ofNat d.toNat) = .int .u8 d := by
        unfold u8v
        rw [UInt8.toNat_ofNat']
        congr 1
        omega
      rw [this]
    exact ⟨rfl, ⟨List.replicate 32 0, rfl, rfl, Blk.mk_alloc rfl hz.symm⟩, (Ext.refl w).alloc _⟩
end Go.Proofs.Ytjgglnflicemjaa
