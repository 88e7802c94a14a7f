/- Take16; conditions: the slice's size. -/
import Derived.Test.YtjgglnflicemjaaN3
import Derived.Laws.ResultCell
namespace Go.Proofs.Ytjgglnflicemjaa
open Go Go.RowKit

theorem agg_16 : AggT Try.prog 31 16 := ⟨⟨_, Try.underlying31, rfl⟩, by kernel_rfl⟩
/-- the end of a function whose first result lies in a block of its own, the second in a slot -/
theorem ret_row2 {P : Program} {fn : Func} {R : Ending → World → Prop} {a : Act} {w : World} {p u : Tmp} {ty : TypeId} {g : Nat} {vs : List Value} {T : TypeId}
    (hres : fn.results = #[.cell p ty, .tmp u]) (hp : a.tmps.getD p undef = .pointer (some ⟨g, 0, none⟩)) (hb : Blk w g vs T)
    {n : Nat} (ht : AggT P ty n) (hn : vs.length = n)
    (hdef : a.defers = []) (hR : R (.returned (.tuple #[.agg vs.toArray, a.tmps.getD u undef])) w) : bodyPost P fn R .ret a w := by
  have h1 := run_load_sub (P := P) (off := 0) hb ht (by omega)
  have h2 : (vs.drop 0).take n = vs := by simp [← hn]
  rw [h2] at h1
  refine bodyPost_ret ?_ hdef hR
  rw [results_cell_tmp hres, hp]
  simp [asAddr, h1]

theorem wpl_loadc {P : Program} {ops : Array Oper} {rest : List Oper} {o : Oper} {a : Act} {w : World} {Q : Exit → Act → World → Prop} (hgd : o.guard = none) (ty : TypeId) (x : Operand) (ho : o.op = .load ty x) {b off n : Nat} {vs : List Value}
    (hx : a.eval x = .pointer (some ⟨b, off, none⟩)) (hb : ∀ j u, vs[j]? = some u → w.cell? ⟨b, off + j, none⟩ = some u) (ht : AggT P ty n) (hn : vs.length = n)
    (h : wpList P ops Q rest (a.put o.dst (.agg vs.toArray)) w) : wpList P ops Q (o :: rest) a w :=
  wpList_plain hgd fun K hK => by
    unfold Oper.wp execOp
    simp only [ho, hx, Instr.loadAt, Instr.sureAddr, Sem.run_bind, Sem.run_pure, Result.andThen_ok, run_load_cells hb ht hn]
    exact hK _ _ h

def takeV (l : List UInt8) (n m : Nat) (at_ : Int) : Value :=
  if roomE n at_ m = 0 then .tuple #[.agg (((l.drop at_.toNat).take m).map u8v).toArray, .int .i64 0] else .tuple #[.agg (List.replicate m (.int .u8 0)).toArray, .int .i64 (roomE n at_ m)]

set_option maxRecDepth 100000 in
set_option maxHeartbeats 1000000 in
theorem take16_c (l : List UInt8) (a : Option Addr) (n c : Nat) (at_ : Int) (w : World) (hnl : l.length = n) (hn : n ≤ 140737488355328) (hc : n ≤ c) (hcl : Cells w a (l.map u8v)) :
    Calls Try.prog 20 #[.slice a n c, .int .i64 at_] w fun e w' => e = .returned (takeV l n 16 at_) ∧ Ext w w' := by
  have HN := hid hnl
  have HC := hid hcl
  clear hnl hcl
  by_cases h : roomE n at_ 16 = 0
  · obtain ⟨p, rfl, hp⟩ := roomE_zero h (by omega)
    have hv : takeV l n 16 (p : Int) = .tuple #[.agg (((l.drop p).take 16).map u8v).toArray, .int .i64 0] := by
      unfold takeV
      rw [if_pos (by exact h)]; rfl
    rw [hv]
    obtain ⟨b, off, rfl, hcell⟩ := HC.out.some_of (by rw [List.length_map, HN.out]; omega)
    have hol : (((l.drop p).take 16).map u8v).length = 16 := by rw [List.length_map, List.length_take, List.length_drop, HN.out]; omega
    have H := hid h
    have ne : ¬ c = p := by omega
    have k16 : IntKind.i64.wrap ((p : Int) + 16) = (p : Int) + 16 := IntWalk.i64_in _ (by omega)
    have ha := run_arrayAt (P := Try.prog) Try.underlying31 (len := 16) (Nat.le_refl 16)
    have hpart := fun (w' : World) (e : Ext w w') => (HC.out.ext e).part p 16
    simp only [← List.map_drop, ← List.map_take] at hpart
    have h1v := one_u8 ((l.drop p).take 16)
    generalize ((l.drop p).take 16).map u8v = vs at *
    have HOL := hid hol
    clear hv h hcell hol
    go_enter Try.func20, Try.ntmps20
    go_wp2_with fail
    refine (room_c _ n c _ 16 _ (by omega) (by omega) (by omega)).mono ?_
    rintro e w' ⟨rfl, rfl⟩
    rw [H.out]
    have hcs : ∀ j u, vs[j]? = some u → (w.alloc (.cells #[.int .u8 0, .int .u8 0, .int .u8 0, .int .u8 0, .int .u8 0, .int .u8 0, .int .u8 0, .int .u8 0, .int .u8 0, .int .u8 0, .int .u8 0, .int .u8 0, .int .u8 0, .int .u8 0, .int .u8 0, .int .u8 0] 31)).cell? ⟨b, off + p + j, none⟩ = some u := by
      rcases hpart _ ((Ext.refl w).alloc _) with h | ⟨_, _, h, h2⟩
      · rw [h]; intro j u hu; simp at hu
      · cases h; exact h2
    go_wp2_with (first | (refine wpl_loadc rfl _ _ rfl rfl hcs agg_16 HOL.out ?_) | (refine wpl_storew rfl _ _ _ rfl rfl rfl (Blk.mk_alloc rfl rfl) agg_16 rfl HOL.out h1v ?_))
    intro w2 b2 u2
    go_wp2
    refine ret_row2 rfl rfl b2 agg_16 HOL.out rfl ⟨rfl, u2.ext ((Ext.refl w).alloc _) (Nat.le_refl _)⟩
  · have hv : takeV l n 16 at_ = .tuple #[.agg (List.replicate 16 (.int .u8 0)).toArray, .int .i64 (roomE n at_ 16)] := by
      unfold takeV
      rw [if_neg (by exact h)]; rfl
    rw [hv]
    have hne : (roomE n at_ 16 != 0) = true := by rw [bne_iff_ne]; exact h
    clear hv h
    go_enter Try.func20, Try.ntmps20
    go_wp2_with fail
    refine (room_c _ n c _ 16 _ (by omega) (by omega) (by omega)).mono ?_
    rintro e w' ⟨rfl, rfl⟩
    go_wp2_with (first | (refine wpl_storew rfl _ _ _ rfl rfl rfl (Blk.mk_alloc rfl rfl) agg_16 rfl rfl (by intro v hv; simp at hv; rw [hv]; rfl) ?_))
    intro w2 b2 u2
    go_wp2
    refine ret_row2 rfl rfl b2 agg_16 rfl rfl ⟨rfl, u2.ext ((Ext.refl w).alloc _) (Nat.le_refl _)⟩
end Go.Proofs.Ytjgglnflicemjaa
