/-
  The frame of the laws of chapter 17: descriptions of forms and of matrices.
-/
import Derived.Test.YtnfmjlhkknndhaaGreatW5

/-
 The frame of the laws of chapter 17: descriptions of forms and of matrices.
-/
namespace Go.Proofs.YtnfmjlhkknndhaaGreat
open Go Go.ChangeShapes Go.WideShapes Go.ChangeAt Go.RowKit
open Go.IntKind (wrap i64 i32 i16 i8 u64 u32 u16 u8)
theorem gw0 (W : World) : GW noS W := fun h => by cases h
theorem u8_wf {n : Int} (h : (Lit.int .u8 n).wf = true) : 0 ≤ n ∧ n ≤ 255 := by simpa [Lit.wf, IntKind.min, IntKind.max, IntKind.signed, IntKind.bits] using h
theorem len_5 {cs : List Value} (h : cs.length = 5) : ∃ a b c d e, cs = [a, b, c, d, e] := by
 match cs, h with
 | [a, b, c, d, e], _ => exact ⟨a, b, c, d, e, rfl⟩
theorem cells_u16 : Tryz.prog.cellsOf 22 = 1 := by kernel_rfl
theorem cells_u8 : Tryz.prog.cellsOf 5 = 1 := by kernel_rfl
theorem cells_2u16 : Tryz.prog.cellsOf 23 = 2 := by kernel_rfl
theorem cells_2u8 : Tryz.prog.cellsOf 24 = 2 := by kernel_rfl
theorem cells_r17 : Tryz.prog.cellsOf 26 = 5 := by kernel_rfl
section
variable {H : Type} {enc : TypeId × Value → H} {w : World} {sp : Nat → Bool} {held : Bool}
theorem repc_two {k : IntKind} {t e : TypeId} (hu : Tryz.prog.underlying t = some (.array 2 e)) (he : Tryz.prog.underlying e = some (.int k)) (h1 : Tryz.prog.cellsOf t = 2) (h2 : Tryz.prog.cellsOf e = 1) {fuel : Nat} {cs : List Value} {y : DataW H × List MemPlace} (h : DataW.trod enc Tryz.prog w 0 sp held fuel t cs = some y) :
  ∃ a b, RepC (Ctx.args noS) w (.st [.int k a, .int k b]) cs ∧ (Lit.int k a).wf = true ∧ (Lit.int k b).wf = true := by
 obtain ⟨hl, f', hf⟩ := trod_array hu h
 rw [h1] at hl
 rw [h2] at hf
 obtain ⟨a, b, e⟩ := len_two hl
 rw [e] at hf ⊢
 obtain ⟨y0, g0⟩ := hf 0 (by decide)
 obtain ⟨y1, g1⟩ := hf 1 (by decide)
 obtain ⟨n0, e0, w0⟩ := trod_int he g0
 obtain ⟨n1, e1, w1⟩ := trod_int he g1
 have z0 : [a] = [.int k n0] := e0
 have z1 : [b] = [.int k n1] := e1
 simp only [List.cons.injEq, and_true] at z0 z1
 subst z0 z1
 exact ⟨n0, n1, ⟨_, _, rfl, rfl, _, _, rfl, rfl, rfl⟩, w0, w1⟩
theorem rep_r17 {v : Value} {d : DataW H} {ps : List MemPlace} (h : DataW.Trod enc Tryz.prog w 0 sp held 26 v d ps) :
  ∃ d i0 i1 m0 m1, Rep1 (Ctx.args noS) w (.st [.int .u16 d, .st [.int .u16 i0, .int .u16 i1], .st [.int .u8 m0, .int .u8 m1]]) v ∧ OkX d i0 i1 m0 m1 := by
 obtain ⟨fuel, h⟩ := h
 obtain ⟨hl, f', hf⟩ := trod_fields Tryz.underlying26 h
 rw [cells_r17] at hl
 obtain ⟨a, b, c, e, g, hc⟩ := len_5 hl
 rw [hc] at hf
 obtain ⟨y0, h0⟩ := hf _ (List.mem_cons_self ..)
 obtain ⟨y1, h1⟩ := hf _ (List.mem_cons_of_mem _ (List.mem_cons_self ..))
 obtain ⟨y2, h2⟩ := hf _ (List.mem_cons_of_mem _ (List.mem_cons_of_mem _ (List.mem_cons_self ..)))
 dsimp only at h0 h1 h2
 rw [cells_u16] at h0
 rw [cells_2u16] at h1
 rw [cells_2u8] at h2
 obtain ⟨n0, e0, w0⟩ := trod_int Tryz.underlying22 h0
 have z0 : [a] = [.int .u16 n0] := e0
 simp only [List.cons.injEq, and_true] at z0
 subst z0
 obtain ⟨i0, i1, r1, w1, w2⟩ := repc_two (cs := [b, c]) Tryz.underlying23 Tryz.underlying22 cells_2u16 cells_u16 h1
 obtain ⟨m0, m1, r2, w3, w4⟩ := repc_two (cs := [e, g]) Tryz.underlying24 Tryz.underlying5 cells_2u8 cells_u8 h2
 have k0 := u16_wf w0
 have k1 := u16_wf w1
 have k2 := u16_wf w2
 have k3 := u8_wf w3
 have k4 := u8_wf w4
 exact ⟨n0, i0, i1, m0, m1, (rep1_agg rfl).2 ⟨_, agg_cells hc, [.int .u16 n0], _, rfl, rfl, [b, c], _, rfl, r1, [e, g], _, rfl, r2, rfl⟩, ⟨by omega, by omega, by omega, by omega, by omega, by omega, by omega, by omega, by omega, by omega⟩⟩
end
end Go.Proofs.YtnfmjlhkknndhaaGreat
