/- Laws for structs of 3, 5, 12, 19, 20 and 32 cells in memory. -/
import Derived.Test.YtdakdlgkhnjhoaaExt
namespace Go.Proofs.Ytdakdlgkhnjhoaa.Ext
open Go.RowKit Go.Proofs.YtdakdlgkhnjhoaaW.PrintWords Go.Proofs.YtdakdlgkhnjhoaaW.PrintLast Go.Proofs.YtdakdlgkhnjhoaaW.PrintMore
theorem puts3 {w : World} {g t : Nat} {z0 z1 z2 u0 u1 u2 : Value} (h : w.heap[g]? = some (.cells #[z0, z1, z2] t (0, 0))) : (((w.setCell ⟨g, 0, none⟩ u0).setCell ⟨g, 1, none⟩ u1).setCell ⟨g, 2, none⟩ u2).heap[g]? = some (.cells #[u0, u1, u2] t (0, 0)) := by
  refine blk_put (cs := #[u0, u1, z2]) ?_ 2 _ rfl
  refine blk_put (cs := #[u0, z1, z2]) ?_ 1 _ rfl
  refine blk_put (cs := #[z0, z1, z2]) ?_ 0 _ rfl
  exact h
theorem cat3 {c0 c1 c2 d : Prop} (h : c0 ∧ c1 ∧ c2) (k : d) : c0 ∧ c1 ∧ c2 ∧ d := by obtain ⟨h0, h1, h2⟩ := h; exact ⟨h0, h1, h2, k⟩
theorem cells3 {w : World} {g t : Nat} {z0 z1 z2 : Value} (h : w.heap[g]? = some (.cells #[z0, z1, z2] t (0, 0))) : w.cell? ⟨g, 0, none⟩ = some z0 ∧ w.cell? ⟨g, 1, none⟩ = some z1 ∧ w.cell? ⟨g, 2, none⟩ = some z2 := ⟨(blk_cell h 0).trans rfl, (blk_cell h 1).trans rfl, (blk_cell h 2).trans rfl⟩
theorem froz3 {w : World} {g t : Nat} {cs : Array Value} (h : w.heap[g]? = some (.cells cs t (0, 0))) : w.frozen? ⟨g, 0, none⟩ = false ∧ w.frozen? ⟨g, 1, none⟩ = false ∧ w.frozen? ⟨g, 2, none⟩ = false := ⟨blk_frozen h 0, blk_frozen h 1, blk_frozen h 2⟩
theorem puts5 {w : World} {g t : Nat} {z0 z1 z2 z3 z4 u0 u1 u2 u3 u4 : Value} (h : w.heap[g]? = some (.cells #[z0, z1, z2, z3, z4] t (0, 0))) : (((((w.setCell ⟨g, 0, none⟩ u0).setCell ⟨g, 1, none⟩ u1).setCell ⟨g, 2, none⟩ u2).setCell ⟨g, 3, none⟩ u3).setCell ⟨g, 4, none⟩ u4).heap[g]? = some (.cells #[u0, u1, u2, u3, u4] t (0, 0)) := by
  refine blk_put (cs := #[u0, u1, u2, u3, z4]) ?_ 4 _ rfl
  refine blk_put (cs := #[u0, u1, u2, z3, z4]) ?_ 3 _ rfl
  refine blk_put (cs := #[u0, u1, z2, z3, z4]) ?_ 2 _ rfl
  refine blk_put (cs := #[u0, z1, z2, z3, z4]) ?_ 1 _ rfl
  refine blk_put (cs := #[z0, z1, z2, z3, z4]) ?_ 0 _ rfl
  exact h
theorem cat5 {c0 c1 c2 c3 c4 d : Prop} (h : c0 ∧ c1 ∧ c2 ∧ c3 ∧ c4) (k : d) : c0 ∧ c1 ∧ c2 ∧ c3 ∧ c4 ∧ d := by obtain ⟨h0, h1, h2, h3, h4⟩ := h; exact ⟨h0, h1, h2, h3, h4, k⟩
theorem cells5 {w : World} {g t : Nat} {z0 z1 z2 z3 z4 : Value} (h : w.heap[g]? = some (.cells #[z0, z1, z2, z3, z4] t (0, 0))) : w.cell? ⟨g, 0, none⟩ = some z0 ∧ w.cell? ⟨g, 1, none⟩ = some z1 ∧ w.cell? ⟨g, 2, none⟩ = some z2 ∧ w.cell? ⟨g, 3, none⟩ = some z3 ∧ w.cell? ⟨g, 4, none⟩ = some z4 := ⟨(blk_cell h 0).trans rfl, (blk_cell h 1).trans rfl, (blk_cell h 2).trans rfl, (blk_cell h 3).trans rfl, (blk_cell h 4).trans rfl⟩
theorem froz5 {w : World} {g t : Nat} {cs : Array Value} (h : w.heap[g]? = some (.cells cs t (0, 0))) : w.frozen? ⟨g, 0, none⟩ = false ∧ w.frozen? ⟨g, 1, none⟩ = false ∧ w.frozen? ⟨g, 2, none⟩ = false ∧ w.frozen? ⟨g, 3, none⟩ = false ∧ w.frozen? ⟨g, 4, none⟩ = false := ⟨blk_frozen h 0, blk_frozen h 1, blk_frozen h 2, blk_frozen h 3, blk_frozen h 4⟩
theorem puts7 {w : World} {g t : Nat} {z0 z1 z2 z3 z4 z5 z6 u0 u1 u2 u3 u4 u5 u6 : Value} (h : w.heap[g]? = some (.cells #[z0, z1, z2, z3, z4, z5, z6] t (0, 0))) : (((((((w.setCell ⟨g, 0, none⟩ u0).setCell ⟨g, 1, none⟩ u1).setCell ⟨g, 2, none⟩ u2).setCell ⟨g, 3, none⟩ u3).setCell ⟨g, 4, none⟩ u4).setCell ⟨g, 5, none⟩ u5).setCell ⟨g, 6, none⟩ u6).heap[g]? = some (.cells #[u0, u1, u2, u3, u4, u5, u6] t (0, 0)) := by
  refine blk_put (cs := #[u0, u1, u2, u3, u4, u5, z6]) ?_ 6 _ rfl
  refine blk_put (cs := #[u0, u1, u2, u3, u4, z5, z6]) ?_ 5 _ rfl
  refine blk_put (cs := #[u0, u1, u2, u3, z4, z5, z6]) ?_ 4 _ rfl
  refine blk_put (cs := #[u0, u1, u2, z3, z4, z5, z6]) ?_ 3 _ rfl
  refine blk_put (cs := #[u0, u1, z2, z3, z4, z5, z6]) ?_ 2 _ rfl
  refine blk_put (cs := #[u0, z1, z2, z3, z4, z5, z6]) ?_ 1 _ rfl
  refine blk_put (cs := #[z0, z1, z2, z3, z4, z5, z6]) ?_ 0 _ rfl
  exact h
theorem cat7 {c0 c1 c2 c3 c4 c5 c6 d : Prop} (h : c0 ∧ c1 ∧ c2 ∧ c3 ∧ c4 ∧ c5 ∧ c6) (k : d) : c0 ∧ c1 ∧ c2 ∧ c3 ∧ c4 ∧ c5 ∧ c6 ∧ d := by obtain ⟨h0, h1, h2, h3, h4, h5, h6⟩ := h; exact ⟨h0, h1, h2, h3, h4, h5, h6, k⟩
theorem cells7 {w : World} {g t : Nat} {z0 z1 z2 z3 z4 z5 z6 : Value} (h : w.heap[g]? = some (.cells #[z0, z1, z2, z3, z4, z5, z6] t (0, 0))) : w.cell? ⟨g, 0, none⟩ = some z0 ∧ w.cell? ⟨g, 1, none⟩ = some z1 ∧ w.cell? ⟨g, 2, none⟩ = some z2 ∧ w.cell? ⟨g, 3, none⟩ = some z3 ∧ w.cell? ⟨g, 4, none⟩ = some z4 ∧ w.cell? ⟨g, 5, none⟩ = some z5 ∧ w.cell? ⟨g, 6, none⟩ = some z6 := ⟨(blk_cell h 0).trans rfl, (blk_cell h 1).trans rfl, (blk_cell h 2).trans rfl, (blk_cell h 3).trans rfl, (blk_cell h 4).trans rfl, (blk_cell h 5).trans rfl, (blk_cell h 6).trans rfl⟩
theorem froz7 {w : World} {g t : Nat} {cs : Array Value} (h : w.heap[g]? = some (.cells cs t (0, 0))) : w.frozen? ⟨g, 0, none⟩ = false ∧ w.frozen? ⟨g, 1, none⟩ = false ∧ w.frozen? ⟨g, 2, none⟩ = false ∧ w.frozen? ⟨g, 3, none⟩ = false ∧ w.frozen? ⟨g, 4, none⟩ = false ∧ w.frozen? ⟨g, 5, none⟩ = false ∧ w.frozen? ⟨g, 6, none⟩ = false := ⟨blk_frozen h 0, blk_frozen h 1, blk_frozen h 2, blk_frozen h 3, blk_frozen h 4, blk_frozen h 5, blk_frozen h 6⟩
theorem puts12 {w : World} {g t : Nat} {z0 z1 z2 z3 z4 z5 z6 z7 z8 z9 z10 z11 u0 u1 u2 u3 u4 u5 u6 u7 u8 u9 u10 u11 : Value} (h : w.heap[g]? = some (.cells #[z0, z1, z2, z3, z4, z5, z6, z7, z8, z9, z10, z11] t (0, 0))) : ((((((((((((w.setCell ⟨g, 0, none⟩ u0).setCell ⟨g, 1, none⟩ u1).setCell ⟨g, 2, none⟩ u2).setCell ⟨g, 3, none⟩ u3).setCell ⟨g, 4, none⟩ u4).setCell ⟨g, 5, none⟩ u5).setCell ⟨g, 6, none⟩ u6).setCell ⟨g, 7, none⟩ u7).setCell ⟨g, 8, none⟩ u8).setCell ⟨g, 9, none⟩ u9).setCell ⟨g, 10, none⟩ u10).setCell ⟨g, 11, none⟩ u11).heap[g]? = some (.cells #[u0, u1, u2, u3, u4, u5, u6, u7, u8, u9, u10, u11] t (0, 0)) := by
  refine blk_put (cs := #[u0, u1, u2, u3, u4, u5, u6, u7, u8, u9, u10, z11]) ?_ 11 _ rfl
  refine blk_put (cs := #[u0, u1, u2, u3, u4, u5, u6, u7, u8, u9, z10, z11]) ?_ 10 _ rfl
  refine blk_put (cs := #[u0, u1, u2, u3, u4, u5, u6, u7, u8, z9, z10, z11]) ?_ 9 _ rfl
  refine blk_put (cs := #[u0, u1, u2, u3, u4, u5, u6, u7, z8, z9, z10, z11]) ?_ 8 _ rfl
  refine blk_put (cs := #[u0, u1, u2, u3, u4, u5, u6, z7, z8, z9, z10, z11]) ?_ 7 _ rfl
  refine blk_put (cs := #[u0, u1, u2, u3, u4, u5, z6, z7, z8, z9, z10, z11]) ?_ 6 _ rfl
  refine blk_put (cs := #[u0, u1, u2, u3, u4, z5, z6, z7, z8, z9, z10, z11]) ?_ 5 _ rfl
  refine blk_put (cs := #[u0, u1, u2, u3, z4, z5, z6, z7, z8, z9, z10, z11]) ?_ 4 _ rfl
  refine blk_put (cs := #[u0, u1, u2, z3, z4, z5, z6, z7, z8, z9, z10, z11]) ?_ 3 _ rfl
  refine blk_put (cs := #[u0, u1, z2, z3, z4, z5, z6, z7, z8, z9, z10, z11]) ?_ 2 _ rfl
  refine blk_put (cs := #[u0, z1, z2, z3, z4, z5, z6, z7, z8, z9, z10, z11]) ?_ 1 _ rfl
  refine blk_put (cs := #[z0, z1, z2, z3, z4, z5, z6, z7, z8, z9, z10, z11]) ?_ 0 _ rfl
  exact h
theorem cat12 {c0 c1 c2 c3 c4 c5 c6 c7 c8 c9 c10 c11 d : Prop} (h : c0 ∧ c1 ∧ c2 ∧ c3 ∧ c4 ∧ c5 ∧ c6 ∧ c7 ∧ c8 ∧ c9 ∧ c10 ∧ c11) (k : d) : c0 ∧ c1 ∧ c2 ∧ c3 ∧ c4 ∧ c5 ∧ c6 ∧ c7 ∧ c8 ∧ c9 ∧ c10 ∧ c11 ∧ d := by obtain ⟨h0, h1, h2, h3, h4, h5, h6, h7, h8, h9, h10, h11⟩ := h; exact ⟨h0, h1, h2, h3, h4, h5, h6, h7, h8, h9, h10, h11, k⟩
theorem cells12 {w : World} {g t : Nat} {z0 z1 z2 z3 z4 z5 z6 z7 z8 z9 z10 z11 : Value} (h : w.heap[g]? = some (.cells #[z0, z1, z2, z3, z4, z5, z6, z7, z8, z9, z10, z11] t (0, 0))) : w.cell? ⟨g, 0, none⟩ = some z0 ∧ w.cell? ⟨g, 1, none⟩ = some z1 ∧ w.cell? ⟨g, 2, none⟩ = some z2 ∧ w.cell? ⟨g, 3, none⟩ = some z3 ∧ w.cell? ⟨g, 4, none⟩ = some z4 ∧ w.cell? ⟨g, 5, none⟩ = some z5 ∧ w.cell? ⟨g, 6, none⟩ = some z6 ∧ w.cell? ⟨g, 7, none⟩ = some z7 ∧ w.cell? ⟨g, 8, none⟩ = some z8 ∧ w.cell? ⟨g, 9, none⟩ = some z9 ∧ w.cell? ⟨g, 10, none⟩ = some z10 ∧ w.cell? ⟨g, 11, none⟩ = some z11 := ⟨(blk_cell h 0).trans rfl, (blk_cell h 1).trans rfl, (blk_cell h 2).trans rfl, (blk_cell h 3).trans rfl, (blk_cell h 4).trans rfl, (blk_cell h 5).trans rfl, (blk_cell h 6).trans rfl, (blk_cell h 7).trans rfl, (blk_cell h 8).trans rfl, (blk_cell h 9).trans rfl, (blk_cell h 10).trans rfl, (blk_cell h 11).trans rfl⟩
theorem froz12 {w : World} {g t : Nat} {cs : Array Value} (h : w.heap[g]? = some (.cells cs t (0, 0))) : w.frozen? ⟨g, 0, none⟩ = false ∧ w.frozen? ⟨g, 1, none⟩ = false ∧ w.frozen? ⟨g, 2, none⟩ = false ∧ w.frozen? ⟨g, 3, none⟩ = false ∧ w.frozen? ⟨g, 4, none⟩ = false ∧ w.frozen? ⟨g, 5, none⟩ = false ∧ w.frozen? ⟨g, 6, none⟩ = false ∧ w.frozen? ⟨g, 7, none⟩ = false ∧ w.frozen? ⟨g, 8, none⟩ = false ∧ w.frozen? ⟨g, 9, none⟩ = false ∧ w.frozen? ⟨g, 10, none⟩ = false ∧ w.frozen? ⟨g, 11, none⟩ = false := ⟨blk_frozen h 0, blk_frozen h 1, blk_frozen h 2, blk_frozen h 3, blk_frozen h 4, blk_frozen h 5, blk_frozen h 6, blk_frozen h 7, blk_frozen h 8, blk_frozen h 9, blk_frozen h 10, blk_frozen h 11⟩
theorem puts18 {w : World} {g t : Nat} {z0 z1 z2 z3 z4 z5 z6 z7 z8 z9 z10 z11 z12 z13 z14 z15 z16 z17 u0 u1 u2 u3 u4 u5 u6 u7 u8 u9 u10 u11 u12 u13 u14 u15 u16 u17 : Value} (h : w.heap[g]? = some (.cells #[z0, z1, z2, z3, z4, z5, z6, z7, z8, z9, z10, z11, z12, z13, z14, z15, z16, z17] t (0, 0))) : ((((((((((((((((((w.setCell ⟨g, 0, none⟩ u0).setCell ⟨g, 1, none⟩ u1).setCell ⟨g, 2, none⟩ u2).setCell ⟨g, 3, none⟩ u3).setCell ⟨g, 4, none⟩ u4).setCell ⟨g, 5, none⟩ u5).setCell ⟨g, 6, none⟩ u6).setCell ⟨g, 7, none⟩ u7).setCell ⟨g, 8, none⟩ u8).setCell ⟨g, 9, none⟩ u9).setCell ⟨g, 10, none⟩ u10).setCell ⟨g, 11, none⟩ u11).setCell ⟨g, 12, none⟩ u12).setCell ⟨g, 13, none⟩ u13).setCell ⟨g, 14, none⟩ u14).setCell ⟨g, 15, none⟩ u15).setCell ⟨g, 16, none⟩ u16).setCell ⟨g, 17, none⟩ u17).heap[g]? = some (.cells #[u0, u1, u2, u3, u4, u5, u6, u7, u8, u9, u10, u11, u12, u13, u14, u15, u16, u17] t (0, 0)) := by
  refine blk_put (cs := #[u0, u1, u2, u3, u4, u5, u6, u7, u8, u9, u10, u11, u12, u13, u14, u15, u16, z17]) ?_ 17 _ rfl
  refine blk_put (cs := #[u0, u1, u2, u3, u4, u5, u6, u7, u8, u9, u10, u11, u12, u13, u14, u15, z16, z17]) ?_ 16 _ rfl
  refine blk_put (cs := #[u0, u1, u2, u3, u4, u5, u6, u7, u8, u9, u10, u11, u12, u13, u14, z15, z16, z17]) ?_ 15 _ rfl
  refine blk_put (cs := #[u0, u1, u2, u3, u4, u5, u6, u7, u8, u9, u10, u11, u12, u13, z14, z15, z16, z17]) ?_ 14 _ rfl
  refine blk_put (cs := #[u0, u1, u2, u3, u4, u5, u6, u7, u8, u9, u10, u11, u12, z13, z14, z15, z16, z17]) ?_ 13 _ rfl
  refine blk_put (cs := #[u0, u1, u2, u3, u4, u5, u6, u7, u8, u9, u10, u11, z12, z13, z14, z15, z16, z17]) ?_ 12 _ rfl
  refine blk_put (cs := #[u0, u1, u2, u3, u4, u5, u6, u7, u8, u9, u10, z11, z12, z13, z14, z15, z16, z17]) ?_ 11 _ rfl
  refine blk_put (cs := #[u0, u1, u2, u3, u4, u5, u6, u7, u8, u9, z10, z11, z12, z13, z14, z15, z16, z17]) ?_ 10 _ rfl
  refine blk_put (cs := #[u0, u1, u2, u3, u4, u5, u6, u7, u8, z9, z10, z11, z12, z13, z14, z15, z16, z17]) ?_ 9 _ rfl
  refine blk_put (cs := #[u0, u1, u2, u3, u4, u5, u6, u7, z8, z9, z10, z11, z12, z13, z14, z15, z16, z17]) ?_ 8 _ rfl
  refine blk_put (cs := #[u0, u1, u2, u3, u4, u5, u6, z7, z8, z9, z10, z11, z12, z13, z14, z15, z16, z17]) ?_ 7 _ rfl
  refine blk_put (cs := #[u0, u1, u2, u3, u4, u5, z6, z7, z8, z9, z10, z11, z12, z13, z14, z15, z16, z17]) ?_ 6 _ rfl
  refine blk_put (cs := #[u0, u1, u2, u3, u4, z5, z6, z7, z8, z9, z10, z11, z12, z13, z14, z15, z16, z17]) ?_ 5 _ rfl
  refine blk_put (cs := #[u0, u1, u2, u3, z4, z5, z6, z7, z8, z9, z10, z11, z12, z13, z14, z15, z16, z17]) ?_ 4 _ rfl
  refine blk_put (cs := #[u0, u1, u2, z3, z4, z5, z6, z7, z8, z9, z10, z11, z12, z13, z14, z15, z16, z17]) ?_ 3 _ rfl
  refine blk_put (cs := #[u0, u1, z2, z3, z4, z5, z6, z7, z8, z9, z10, z11, z12, z13, z14, z15, z16, z17]) ?_ 2 _ rfl
  refine blk_put (cs := #[u0, z1, z2, z3, z4, z5, z6, z7, z8, z9, z10, z11, z12, z13, z14, z15, z16, z17]) ?_ 1 _ rfl
  refine blk_put (cs := #[z0, z1, z2, z3, z4, z5, z6, z7, z8, z9, z10, z11, z12, z13, z14, z15, z16, z17]) ?_ 0 _ rfl
  exact h
theorem cat18 {c0 c1 c2 c3 c4 c5 c6 c7 c8 c9 c10 c11 c12 c13 c14 c15 c16 c17 d : Prop} (h : c0 ∧ c1 ∧ c2 ∧ c3 ∧ c4 ∧ c5 ∧ c6 ∧ c7 ∧ c8 ∧ c9 ∧ c10 ∧ c11 ∧ c12 ∧ c13 ∧ c14 ∧ c15 ∧ c16 ∧ c17) (k : d) : c0 ∧ c1 ∧ c2 ∧ c3 ∧ c4 ∧ c5 ∧ c6 ∧ c7 ∧ c8 ∧ c9 ∧ c10 ∧ c11 ∧ c12 ∧ c13 ∧ c14 ∧ c15 ∧ c16 ∧ c17 ∧ d := by obtain ⟨h0, h1, h2, h3, h4, h5, h6, h7, h8, h9, h10, h11, h12, h13, h14, h15, h16, h17⟩ := h; exact ⟨h0, h1, h2, h3, h4, h5, h6, h7, h8, h9, h10, h11, h12, h13, h14, h15, h16, h17, k⟩
theorem cells18 {w : World} {g t : Nat} {z0 z1 z2 z3 z4 z5 z6 z7 z8 z9 z10 z11 z12 z13 z14 z15 z16 z17 : Value} (h : w.heap[g]? = some (.cells #[z0, z1, z2, z3, z4, z5, z6, z7, z8, z9, z10, z11, z12, z13, z14, z15, z16, z17] t (0, 0))) : w.cell? ⟨g, 0, none⟩ = some z0 ∧ w.cell? ⟨g, 1, none⟩ = some z1 ∧ w.cell? ⟨g, 2, none⟩ = some z2 ∧ w.cell? ⟨g, 3, none⟩ = some z3 ∧ w.cell? ⟨g, 4, none⟩ = some z4 ∧ w.cell? ⟨g, 5, none⟩ = some z5 ∧ w.cell? ⟨g, 6, none⟩ = some z6 ∧ w.cell? ⟨g, 7, none⟩ = some z7 ∧ w.cell? ⟨g, 8, none⟩ = some z8 ∧ w.cell? ⟨g, 9, none⟩ = some z9 ∧ w.cell? ⟨g, 10, none⟩ = some z10 ∧ w.cell? ⟨g, 11, none⟩ = some z11 ∧ w.cell? ⟨g, 12, none⟩ = some z12 ∧ w.cell? ⟨g, 13, none⟩ = some z13 ∧ w.cell? ⟨g, 14, none⟩ = some z14 ∧ w.cell? ⟨g, 15, none⟩ = some z15 ∧ w.cell? ⟨g, 16, none⟩ = some z16 ∧ w.cell? ⟨g, 17, none⟩ = some z17 := ⟨(blk_cell h 0).trans rfl, (blk_cell h 1).trans rfl, (blk_cell h 2).trans rfl, (blk_cell h 3).trans rfl, (blk_cell h 4).trans rfl, (blk_cell h 5).trans rfl, (blk_cell h 6).trans rfl, (blk_cell h 7).trans rfl, (blk_cell h 8).trans rfl, (blk_cell h 9).trans rfl, (blk_cell h 10).trans rfl, (blk_cell h 11).trans rfl, (blk_cell h 12).trans rfl, (blk_cell h 13).trans rfl, (blk_cell h 14).trans rfl, (blk_cell h 15).trans rfl, (blk_cell h 16).trans rfl, (blk_cell h 17).trans rfl⟩
theorem froz18 {w : World} {g t : Nat} {cs : Array Value} (h : w.heap[g]? = some (.cells cs t (0, 0))) : w.frozen? ⟨g, 0, none⟩ = false ∧ w.frozen? ⟨g, 1, none⟩ = false ∧ w.frozen? ⟨g, 2, none⟩ = false ∧ w.frozen? ⟨g, 3, none⟩ = false ∧ w.frozen? ⟨g, 4, none⟩ = false ∧ w.frozen? ⟨g, 5, none⟩ = false ∧ w.frozen? ⟨g, 6, none⟩ = false ∧ w.frozen? ⟨g, 7, none⟩ = false ∧ w.frozen? ⟨g, 8, none⟩ = false ∧ w.frozen? ⟨g, 9, none⟩ = false ∧ w.frozen? ⟨g, 10, none⟩ = false ∧ w.frozen? ⟨g, 11, none⟩ = false ∧ w.frozen? ⟨g, 12, none⟩ = false ∧ w.frozen? ⟨g, 13, none⟩ = false ∧ w.frozen? ⟨g, 14, none⟩ = false ∧ w.frozen? ⟨g, 15, none⟩ = false ∧ w.frozen? ⟨g, 16, none⟩ = false ∧ w.frozen? ⟨g, 17, none⟩ = false := ⟨blk_frozen h 0, blk_frozen h 1, blk_frozen h 2, blk_frozen h 3, blk_frozen h 4, blk_frozen h 5, blk_frozen h 6, blk_frozen h 7, blk_frozen h 8, blk_frozen h 9, blk_frozen h 10, blk_frozen h 11, blk_frozen h 12, blk_frozen h 13, blk_frozen h 14, blk_frozen h 15, blk_frozen h 16, blk_frozen h 17⟩
theorem puts19 {w : World} {g t : Nat} {z0 z1 z2 z3 z4 z5 z6 z7 z8 z9 z10 z11 z12 z13 z14 z15 z16 z17 z18 u0 u1 u2 u3 u4 u5 u6 u7 u8 u9 u10 u11 u12 u13 u14 u15 u16 u17 u18 : Value} (h : w.heap[g]? = some (.cells #[z0, z1, z2, z3, z4, z5, z6, z7, z8, z9, z10, z11, z12, z13, z14, z15, z16, z17, z18] t (0, 0))) : (((((((((((((((((((w.setCell ⟨g, 0, none⟩ u0).setCell ⟨g, 1, none⟩ u1).setCell ⟨g, 2, none⟩ u2).setCell ⟨g, 3, none⟩ u3).setCell ⟨g, 4, none⟩ u4).setCell ⟨g, 5, none⟩ u5).setCell ⟨g, 6, none⟩ u6).setCell ⟨g, 7, none⟩ u7).setCell ⟨g, 8, none⟩ u8).setCell ⟨g, 9, none⟩ u9).setCell ⟨g, 10, none⟩ u10).setCell ⟨g, 11, none⟩ u11).setCell ⟨g, 12, none⟩ u12).setCell ⟨g, 13, none⟩ u13).setCell ⟨g, 14, none⟩ u14).setCell ⟨g, 15, none⟩ u15).setCell ⟨g, 16, none⟩ u16).setCell ⟨g, 17, none⟩ u17).setCell ⟨g, 18, none⟩ u18).heap[g]? = some (.cells #[u0, u1, u2, u3, u4, u5, u6, u7, u8, u9, u10, u11, u12, u13, u14, u15, u16, u17, u18] t (0, 0)) := by
  refine blk_put (cs := #[u0, u1, u2, u3, u4, u5, u6, u7, u8, u9, u10, u11, u12, u13, u14, u15, u16, u17, z18]) ?_ 18 _ rfl
  refine blk_put (cs := #[u0, u1, u2, u3, u4, u5, u6, u7, u8, u9, u10, u11, u12, u13, u14, u15, u16, z17, z18]) ?_ 17 _ rfl
  refine blk_put (cs := #[u0, u1, u2, u3, u4, u5, u6, u7, u8, u9, u10, u11, u12, u13, u14, u15, z16, z17, z18]) ?_ 16 _ rfl
  refine blk_put (cs := #[u0, u1, u2, u3, u4, u5, u6, u7, u8, u9, u10, u11, u12, u13, u14, z15, z16, z17, z18]) ?_ 15 _ rfl
  refine blk_put (cs := #[u0, u1, u2, u3, u4, u5, u6, u7, u8, u9, u10, u11, u12, u13, z14, z15, z16, z17, z18]) ?_ 14 _ rfl
  refine blk_put (cs := #[u0, u1, u2, u3, u4, u5, u6, u7, u8, u9, u10, u11, u12, z13, z14, z15, z16, z17, z18]) ?_ 13 _ rfl
  refine blk_put (cs := #[u0, u1, u2, u3, u4, u5, u6, u7, u8, u9, u10, u11, z12, z13, z14, z15, z16, z17, z18]) ?_ 12 _ rfl
  refine blk_put (cs := #[u0, u1, u2, u3, u4, u5, u6, u7, u8, u9, u10, z11, z12, z13, z14, z15, z16, z17, z18]) ?_ 11 _ rfl
  refine blk_put (cs := #[u0, u1, u2, u3, u4, u5, u6, u7, u8, u9, z10, z11, z12, z13, z14, z15, z16, z17, z18]) ?_ 10 _ rfl
  refine blk_put (cs := #[u0, u1, u2, u3, u4, u5, u6, u7, u8, z9, z10, z11, z12, z13, z14, z15, z16, z17, z18]) ?_ 9 _ rfl
  refine blk_put (cs := #[u0, u1, u2, u3, u4, u5, u6, u7, z8, z9, z10, z11, z12, z13, z14, z15, z16, z17, z18]) ?_ 8 _ rfl
  refine blk_put (cs := #[u0, u1, u2, u3, u4, u5, u6, z7, z8, z9, z10, z11, z12, z13, z14, z15, z16, z17, z18]) ?_ 7 _ rfl
  refine blk_put (cs := #[u0, u1, u2, u3, u4, u5, z6, z7, z8, z9, z10, z11, z12, z13, z14, z15, z16, z17, z18]) ?_ 6 _ rfl
  refine blk_put (cs := #[u0, u1, u2, u3, u4, z5, z6, z7, z8, z9, z10, z11, z12, z13, z14, z15, z16, z17, z18]) ?_ 5 _ rfl
  refine blk_put (cs := #[u0, u1, u2, u3, z4, z5, z6, z7, z8, z9, z10, z11, z12, z13, z14, z15, z16, z17, z18]) ?_ 4 _ rfl
  refine blk_put (cs := #[u0, u1, u2, z3, z4, z5, z6, z7, z8, z9, z10, z11, z12, z13, z14, z15, z16, z17, z18]) ?_ 3 _ rfl
  refine blk_put (cs := #[u0, u1, z2, z3, z4, z5, z6, z7, z8, z9, z10, z11, z12, z13, z14, z15, z16, z17, z18]) ?_ 2 _ rfl
  refine blk_put (cs := #[u0, z1, z2, z3, z4, z5, z6, z7, z8, z9, z10, z11, z12, z13, z14, z15, z16, z17, z18]) ?_ 1 _ rfl
  refine blk_put (cs := #[z0, z1, z2, z3, z4, z5, z6, z7, z8, z9, z10, z11, z12, z13, z14, z15, z16, z17, z18]) ?_ 0 _ rfl
  exact h
theorem cat19 {c0 c1 c2 c3 c4 c5 c6 c7 c8 c9 c10 c11 c12 c13 c14 c15 c16 c17 c18 d : Prop} (h : c0 ∧ c1 ∧ c2 ∧ c3 ∧ c4 ∧ c5 ∧ c6 ∧ c7 ∧ c8 ∧ c9 ∧ c10 ∧ c11 ∧ c12 ∧ c13 ∧ c14 ∧ c15 ∧ c16 ∧ c17 ∧ c18) (k : d) : c0 ∧ c1 ∧ c2 ∧ c3 ∧ c4 ∧ c5 ∧ c6 ∧ c7 ∧ c8 ∧ c9 ∧ c10 ∧ c11 ∧ c12 ∧ c13 ∧ c14 ∧ c15 ∧ c16 ∧ c17 ∧ c18 ∧ d := by obtain ⟨h0, h1, h2, h3, h4, h5, h6, h7, h8, h9, h10, h11, h12, h13, h14, h15, h16, h17, h18⟩ := h; exact ⟨h0, h1, h2, h3, h4, h5, h6, h7, h8, h9, h10, h11, h12, h13, h14, h15, h16, h17, h18, k⟩
theorem cells19 {w : World} {g t : Nat} {z0 z1 z2 z3 z4 z5 z6 z7 z8 z9 z10 z11 z12 z13 z14 z15 z16 z17 z18 : Value} (h : w.heap[g]? = some (.cells #[z0, z1, z2, z3, z4, z5, z6, z7, z8, z9, z10, z11, z12, z13, z14, z15, z16, z17, z18] t (0, 0))) : w.cell? ⟨g, 0, none⟩ = some z0 ∧ w.cell? ⟨g, 1, none⟩ = some z1 ∧ w.cell? ⟨g, 2, none⟩ = some z2 ∧ w.cell? ⟨g, 3, none⟩ = some z3 ∧ w.cell? ⟨g, 4, none⟩ = some z4 ∧ w.cell? ⟨g, 5, none⟩ = some z5 ∧ w.cell? ⟨g, 6, none⟩ = some z6 ∧ w.cell? ⟨g, 7, none⟩ = some z7 ∧ w.cell? ⟨g, 8, none⟩ = some z8 ∧ w.cell? ⟨g, 9, none⟩ = some z9 ∧ w.cell? ⟨g, 10, none⟩ = some z10 ∧ w.cell? ⟨g, 11, none⟩ = some z11 ∧ w.cell? ⟨g, 12, none⟩ = some z12 ∧ w.cell? ⟨g, 13, none⟩ = some z13 ∧ w.cell? ⟨g, 14, none⟩ = some z14 ∧ w.cell? ⟨g, 15, none⟩ = some z15 ∧ w.cell? ⟨g, 16, none⟩ = some z16 ∧ w.cell? ⟨g, 17, none⟩ = some z17 ∧ w.cell? ⟨g, 18, none⟩ = some z18 := ⟨(blk_cell h 0).trans rfl, (blk_cell h 1).trans rfl, (blk_cell h 2).trans rfl, (blk_cell h 3).trans rfl, (blk_cell h 4).trans rfl, (blk_cell h 5).trans rfl, (blk_cell h 6).trans rfl, (blk_cell h 7).trans rfl, (blk_cell h 8).trans rfl, (blk_cell h 9).trans rfl, (blk_cell h 10).trans rfl, (blk_cell h 11).trans rfl, (blk_cell h 12).trans rfl, (blk_cell h 13).trans rfl, (blk_cell h 14).trans rfl, (blk_cell h 15).trans rfl, (blk_cell h 16).trans rfl, (blk_cell h 17).trans rfl, (blk_cell h 18).trans rfl⟩
theorem froz19 {w : World} {g t : Nat} {cs : Array Value} (h : w.heap[g]? = some (.cells cs t (0, 0))) : w.frozen? ⟨g, 0, none⟩ = false ∧ w.frozen? ⟨g, 1, none⟩ = false ∧ w.frozen? ⟨g, 2, none⟩ = false ∧ w.frozen? ⟨g, 3, none⟩ = false ∧ w.frozen? ⟨g, 4, none⟩ = false ∧ w.frozen? ⟨g, 5, none⟩ = false ∧ w.frozen? ⟨g, 6, none⟩ = false ∧ w.frozen? ⟨g, 7, none⟩ = false ∧ w.frozen? ⟨g, 8, none⟩ = false ∧ w.frozen? ⟨g, 9, none⟩ = false ∧ w.frozen? ⟨g, 10, none⟩ = false ∧ w.frozen? ⟨g, 11, none⟩ = false ∧ w.frozen? ⟨g, 12, none⟩ = false ∧ w.frozen? ⟨g, 13, none⟩ = false ∧ w.frozen? ⟨g, 14, none⟩ = false ∧ w.frozen? ⟨g, 15, none⟩ = false ∧ w.frozen? ⟨g, 16, none⟩ = false ∧ w.frozen? ⟨g, 17, none⟩ = false ∧ w.frozen? ⟨g, 18, none⟩ = false := ⟨blk_frozen h 0, blk_frozen h 1, blk_frozen h 2, blk_frozen h 3, blk_frozen h 4, blk_frozen h 5, blk_frozen h 6, blk_frozen h 7, blk_frozen h 8, blk_frozen h 9, blk_frozen h 10, blk_frozen h 11, blk_frozen h 12, blk_frozen h 13, blk_frozen h 14, blk_frozen h 15, blk_frozen h 16, blk_frozen h 17, blk_frozen h 18⟩
theorem puts20 {w : World} {g t : Nat} {z0 z1 z2 z3 z4 z5 z6 z7 z8 z9 z10 z11 z12 z13 z14 z15 z16 z17 z18 z19 u0 u1 u2 u3 u4 u5 u6 u7 u8 u9 u10 u11 u12 u13 u14 u15 u16 u17 u18 u19 : Value} (h : w.heap[g]? = some (.cells #[z0, z1, z2, z3, z4, z5, z6, z7, z8, z9, z10, z11, z12, z13, z14, z15, z16, z17, z18, z19] t (0, 0))) : ((((((((((((((((((((w.setCell ⟨g, 0, none⟩ u0).setCell ⟨g, 1, none⟩ u1).setCell ⟨g, 2, none⟩ u2).setCell ⟨g, 3, none⟩ u3).setCell ⟨g, 4, none⟩ u4).setCell ⟨g, 5, none⟩ u5).setCell ⟨g, 6, none⟩ u6).setCell ⟨g, 7, none⟩ u7).setCell ⟨g, 8, none⟩ u8).setCell ⟨g, 9, none⟩ u9).setCell ⟨g, 10, none⟩ u10).setCell ⟨g, 11, none⟩ u11).setCell ⟨g, 12, none⟩ u12).setCell ⟨g, 13, none⟩ u13).setCell ⟨g, 14, none⟩ u14).setCell ⟨g, 15, none⟩ u15).setCell ⟨g, 16, none⟩ u16).setCell ⟨g, 17, none⟩ u17).setCell ⟨g, 18, none⟩ u18).setCell ⟨g, 19, none⟩ u19).heap[g]? = some (.cells #[u0, u1, u2, u3, u4, u5, u6, u7, u8, u9, u10, u11, u12, u13, u14, u15, u16, u17, u18, u19] t (0, 0)) := by
  refine blk_put (cs := #[u0, u1, u2, u3, u4, u5, u6, u7, u8, u9, u10, u11, u12, u13, u14, u15, u16, u17, u18, z19]) ?_ 19 _ rfl
  refine blk_put (cs := #[u0, u1, u2, u3, u4, u5, u6, u7, u8, u9, u10, u11, u12, u13, u14, u15, u16, u17, z18, z19]) ?_ 18 _ rfl
  refine blk_put (cs := #[u0, u1, u2, u3, u4, u5, u6, u7, u8, u9, u10, u11, u12, u13, u14, u15, u16, z17, z18, z19]) ?_ 17 _ rfl
  refine blk_put (cs := #[u0, u1, u2, u3, u4, u5, u6, u7, u8, u9, u10, u11, u12, u13, u14, u15, z16, z17, z18, z19]) ?_ 16 _ rfl
  refine blk_put (cs := #[u0, u1, u2, u3, u4, u5, u6, u7, u8, u9, u10, u11, u12, u13, u14, z15, z16, z17, z18, z19]) ?_ 15 _ rfl
  refine blk_put (cs := #[u0, u1, u2, u3, u4, u5, u6, u7, u8, u9, u10, u11, u12, u13, z14, z15, z16, z17, z18, z19]) ?_ 14 _ rfl
  refine blk_put (cs := #[u0, u1, u2, u3, u4, u5, u6, u7, u8, u9, u10, u11, u12, z13, z14, z15, z16, z17, z18, z19]) ?_ 13 _ rfl
  refine blk_put (cs := #[u0, u1, u2, u3, u4, u5, u6, u7, u8, u9, u10, u11, z12, z13, z14, z15, z16, z17, z18, z19]) ?_ 12 _ rfl
  refine blk_put (cs := #[u0, u1, u2, u3, u4, u5, u6, u7, u8, u9, u10, z11, z12, z13, z14, z15, z16, z17, z18, z19]) ?_ 11 _ rfl
  refine blk_put (cs := #[u0, u1, u2, u3, u4, u5, u6, u7, u8, u9, z10, z11, z12, z13, z14, z15, z16, z17, z18, z19]) ?_ 10 _ rfl
  refine blk_put (cs := #[u0, u1, u2, u3, u4, u5, u6, u7, u8, z9, z10, z11, z12, z13, z14, z15, z16, z17, z18, z19]) ?_ 9 _ rfl
  refine blk_put (cs := #[u0, u1, u2, u3, u4, u5, u6, u7, z8, z9, z10, z11, z12, z13, z14, z15, z16, z17, z18, z19]) ?_ 8 _ rfl
  refine blk_put (cs := #[u0, u1, u2, u3, u4, u5, u6, z7, z8, z9, z10, z11, z12, z13, z14, z15, z16, z17, z18, z19]) ?_ 7 _ rfl
  refine blk_put (cs := #[u0, u1, u2, u3, u4, u5, z6, z7, z8, z9, z10, z11, z12, z13, z14, z15, z16, z17, z18, z19]) ?_ 6 _ rfl
  refine blk_put (cs := #[u0, u1, u2, u3, u4, z5, z6, z7, z8, z9, z10, z11, z12, z13, z14, z15, z16, z17, z18, z19]) ?_ 5 _ rfl
  refine blk_put (cs := #[u0, u1, u2, u3, z4, z5, z6, z7, z8, z9, z10, z11, z12, z13, z14, z15, z16, z17, z18, z19]) ?_ 4 _ rfl
  refine blk_put (cs := #[u0, u1, u2, z3, z4, z5, z6, z7, z8, z9, z10, z11, z12, z13, z14, z15, z16, z17, z18, z19]) ?_ 3 _ rfl
  refine blk_put (cs := #[u0, u1, z2, z3, z4, z5, z6, z7, z8, z9, z10, z11, z12, z13, z14, z15, z16, z17, z18, z19]) ?_ 2 _ rfl
  refine blk_put (cs := #[u0, z1, z2, z3, z4, z5, z6, z7, z8, z9, z10, z11, z12, z13, z14, z15, z16, z17, z18, z19]) ?_ 1 _ rfl
  refine blk_put (cs := #[z0, z1, z2, z3, z4, z5, z6, z7, z8, z9, z10, z11, z12, z13, z14, z15, z16, z17, z18, z19]) ?_ 0 _ rfl
  exact h
theorem cat20 {c0 c1 c2 c3 c4 c5 c6 c7 c8 c9 c10 c11 c12 c13 c14 c15 c16 c17 c18 c19 d : Prop} (h : c0 ∧ c1 ∧ c2 ∧ c3 ∧ c4 ∧ c5 ∧ c6 ∧ c7 ∧ c8 ∧ c9 ∧ c10 ∧ c11 ∧ c12 ∧ c13 ∧ c14 ∧ c15 ∧ c16 ∧ c17 ∧ c18 ∧ c19) (k : d) : c0 ∧ c1 ∧ c2 ∧ c3 ∧ c4 ∧ c5 ∧ c6 ∧ c7 ∧ c8 ∧ c9 ∧ c10 ∧ c11 ∧ c12 ∧ c13 ∧ c14 ∧ c15 ∧ c16 ∧ c17 ∧ c18 ∧ c19 ∧ d := by obtain ⟨h0, h1, h2, h3, h4, h5, h6, h7, h8, h9, h10, h11, h12, h13, h14, h15, h16, h17, h18, h19⟩ := h; exact ⟨h0, h1, h2, h3, h4, h5, h6, h7, h8, h9, h10, h11, h12, h13, h14, h15, h16, h17, h18, h19, k⟩
theorem cells20 {w : World} {g t : Nat} {z0 z1 z2 z3 z4 z5 z6 z7 z8 z9 z10 z11 z12 z13 z14 z15 z16 z17 z18 z19 : Value} (h : w.heap[g]? = some (.cells #[z0, z1, z2, z3, z4, z5, z6, z7, z8, z9, z10, z11, z12, z13, z14, z15, z16, z17, z18, z19] t (0, 0))) : w.cell? ⟨g, 0, none⟩ = some z0 ∧ w.cell? ⟨g, 1, none⟩ = some z1 ∧ w.cell? ⟨g, 2, none⟩ = some z2 ∧ w.cell? ⟨g, 3, none⟩ = some z3 ∧ w.cell? ⟨g, 4, none⟩ = some z4 ∧ w.cell? ⟨g, 5, none⟩ = some z5 ∧ w.cell? ⟨g, 6, none⟩ = some z6 ∧ w.cell? ⟨g, 7, none⟩ = some z7 ∧ w.cell? ⟨g, 8, none⟩ = some z8 ∧ w.cell? ⟨g, 9, none⟩ = some z9 ∧ w.cell? ⟨g, 10, none⟩ = some z10 ∧ w.cell? ⟨g, 11, none⟩ = some z11 ∧ w.cell? ⟨g, 12, none⟩ = some z12 ∧ w.cell? ⟨g, 13, none⟩ = some z13 ∧ w.cell? ⟨g, 14, none⟩ = some z14 ∧ w.cell? ⟨g, 15, none⟩ = some z15 ∧ w.cell? ⟨g, 16, none⟩ = some z16 ∧ w.cell? ⟨g, 17, none⟩ = some z17 ∧ w.cell? ⟨g, 18, none⟩ = some z18 ∧ w.cell? ⟨g, 19, none⟩ = some z19 := ⟨(blk_cell h 0).trans rfl, (blk_cell h 1).trans rfl, (blk_cell h 2).trans rfl, (blk_cell h 3).trans rfl, (blk_cell h 4).trans rfl, (blk_cell h 5).trans rfl, (blk_cell h 6).trans rfl, (blk_cell h 7).trans rfl, (blk_cell h 8).trans rfl, (blk_cell h 9).trans rfl, (blk_cell h 10).trans rfl, (blk_cell h 11).trans rfl, (blk_cell h 12).trans rfl, (blk_cell h 13).trans rfl, (blk_cell h 14).trans rfl, (blk_cell h 15).trans rfl, (blk_cell h 16).trans rfl, (blk_cell h 17).trans rfl, (blk_cell h 18).trans rfl, (blk_cell h 19).trans rfl⟩
theorem froz20 {w : World} {g t : Nat} {cs : Array Value} (h : w.heap[g]? = some (.cells cs t (0, 0))) : w.frozen? ⟨g, 0, none⟩ = false ∧ w.frozen? ⟨g, 1, none⟩ = false ∧ w.frozen? ⟨g, 2, none⟩ = false ∧ w.frozen? ⟨g, 3, none⟩ = false ∧ w.frozen? ⟨g, 4, none⟩ = false ∧ w.frozen? ⟨g, 5, none⟩ = false ∧ w.frozen? ⟨g, 6, none⟩ = false ∧ w.frozen? ⟨g, 7, none⟩ = false ∧ w.frozen? ⟨g, 8, none⟩ = false ∧ w.frozen? ⟨g, 9, none⟩ = false ∧ w.frozen? ⟨g, 10, none⟩ = false ∧ w.frozen? ⟨g, 11, none⟩ = false ∧ w.frozen? ⟨g, 12, none⟩ = false ∧ w.frozen? ⟨g, 13, none⟩ = false ∧ w.frozen? ⟨g, 14, none⟩ = false ∧ w.frozen? ⟨g, 15, none⟩ = false ∧ w.frozen? ⟨g, 16, none⟩ = false ∧ w.frozen? ⟨g, 17, none⟩ = false ∧ w.frozen? ⟨g, 18, none⟩ = false ∧ w.frozen? ⟨g, 19, none⟩ = false := ⟨blk_frozen h 0, blk_frozen h 1, blk_frozen h 2, blk_frozen h 3, blk_frozen h 4, blk_frozen h 5, blk_frozen h 6, blk_frozen h 7, blk_frozen h 8, blk_frozen h 9, blk_frozen h 10, blk_frozen h 11, blk_frozen h 12, blk_frozen h 13, blk_frozen h 14, blk_frozen h 15, blk_frozen h 16, blk_frozen h 17, blk_frozen h 18, blk_frozen h 19⟩
theorem puts32 {w : World} {g t : Nat} {z0 z1 z2 z3 z4 z5 z6 z7 z8 z9 z10 z11 z12 z13 z14 z15 z16 z17 z18 z19 z20 z21 z22 z23 z24 z25 z26 z27 z28 z29 z30 z31 u0 u1 u2 u3 u4 u5 u6 u7 u8 u9 u10 u11 u12 u13 u14 u15 u16 u17 u18 u19 u20 u21 u22 u23 u24 u25 u26 u27 u28 u29 u30 u31 : Value} (h : w.heap[g]? = some (.cells #[z0, z1, z2, z3, z4, z5, z6, z7, z8, z9, z10, z11, z12, z13, z14, z15, z16, z17, z18, z19, z20, z21, z22, z23, z24, z25, z26, z27, z28, z29, z30, z31] t (0, 0))) : ((((((((((((((((((((((((((((((((w.setCell ⟨g, 0, none⟩ u0).setCell ⟨g, 1, none⟩ u1).setCell ⟨g, 2, none⟩ u2).setCell ⟨g, 3, none⟩ u3).setCell ⟨g, 4, none⟩ u4).setCell ⟨g, 5, none⟩ u5).setCell ⟨g, 6, none⟩ u6).setCell ⟨g, 7, none⟩ u7).setCell ⟨g, 8, none⟩ u8).setCell ⟨g, 9, none⟩ u9).setCell ⟨g, 10, none⟩ u10).setCell ⟨g, 11, none⟩ u11).setCell ⟨g, 12, none⟩ u12).setCell ⟨g, 13, none⟩ u13).setCell ⟨g, 14, none⟩ u14).setCell ⟨g, 15, none⟩ u15).setCell ⟨g, 16, none⟩ u16).setCell ⟨g, 17, none⟩ u17).setCell ⟨g, 18, none⟩ u18).setCell ⟨g, 19, none⟩ u19).setCell ⟨g, 20, none⟩ u20).setCell ⟨g, 21, none⟩ u21).setCell ⟨g, 22, none⟩ u22).setCell ⟨g, 23, none⟩ u23).setCell ⟨g, 24, none⟩ u24).setCell ⟨g, 25, none⟩ u25).setCell ⟨g, 26, none⟩ u26).setCell ⟨g, 27, none⟩ u27).setCell ⟨g, 28, none⟩ u28).setCell ⟨g, 29, none⟩ u29).setCell ⟨g, 30, none⟩ u30).setCell ⟨g, 31, none⟩ u31).heap[g]? = some (.cells #[u0, u1, u2, u3, u4, u5, u6, u7, u8, u9, u10, u11, u12, u13, u14, u15, u16, u17, u18, u19, u20, u21, u22, u23, u24, u25, u26, u27, u28, u29, u30, u31] t (0, 0)) := by
  refine blk_put (cs := #[u0, u1, u2, u3, u4, u5, u6, u7, u8, u9, u10, u11, u12, u13, u14, u15, u16, u17, u18, u19, u20, u21, u22, u23, u24, u25, u26, u27, u28, u29, u30, z31]) ?_ 31 _ rfl
  refine blk_put (cs := #[u0, u1, u2, u3, u4, u5, u6, u7, u8, u9, u10, u11, u12, u13, u14, u15, u16, u17, u18, u19, u20, u21, u22, u23, u24, u25, u26, u27, u28, u29, z30, z31]) ?_ 30 _ rfl
  refine blk_put (cs := #[u0, u1, u2, u3, u4, u5, u6, u7, u8, u9, u10, u11, u12, u13, u14, u15, u16, u17, u18, u19, u20, u21, u22, u23, u24, u25, u26, u27, u28, z29, z30, z31]) ?_ 29 _ rfl
  refine blk_put (cs := #[u0, u1, u2, u3, u4, u5, u6, u7, u8, u9, u10, u11, u12, u13, u14, u15, u16, u17, u18, u19, u20, u21, u22, u23, u24, u25, u26, u27, z28, z29, z30, z31]) ?_ 28 _ rfl
  refine blk_put (cs := #[u0, u1, u2, u3, u4, u5, u6, u7, u8, u9, u10, u11, u12, u13, u14, u15, u16, u17, u18, u19, u20, u21, u22, u23, u24, u25, u26, z27, z28, z29, z30, z31]) ?_ 27 _ rfl
  refine blk_put (cs := #[u0, u1, u2, u3, u4, u5, u6, u7, u8, u9, u10, u11, u12, u13, u14, u15, u16, u17, u18, u19, u20, u21, u22, u23, u24, u25, z26, z27, z28, z29, z30, z31]) ?_ 26 _ rfl
  refine blk_put (cs := #[u0, u1, u2, u3, u4, u5, u6, u7, u8, u9, u10, u11, u12, u13, u14, u15, u16, u17, u18, u19, u20, u21, u22, u23, u24, z25, z26, z27, z28, z29, z30, z31]) ?_ 25 _ rfl
  refine blk_put (cs := #[u0, u1, u2, u3, u4, u5, u6, u7, u8, u9, u10, u11, u12, u13, u14, u15, u16, u17, u18, u19, u20, u21, u22, u23, z24, z25, z26, z27, z28, z29, z30, z31]) ?_ 24 _ rfl
  refine blk_put (cs := #[u0, u1, u2, u3, u4, u5, u6, u7, u8, u9, u10, u11, u12, u13, u14, u15, u16, u17, u18, u19, u20, u21, u22, z23, z24, z25, z26, z27, z28, z29, z30, z31]) ?_ 23 _ rfl
  refine blk_put (cs := #[u0, u1, u2, u3, u4, u5, u6, u7, u8, u9, u10, u11, u12, u13, u14, u15, u16, u17, u18, u19, u20, u21, z22, z23, z24, z25, z26, z27, z28, z29, z30, z31]) ?_ 22 _ rfl
  refine blk_put (cs := #[u0, u1, u2, u3, u4, u5, u6, u7, u8, u9, u10, u11, u12, u13, u14, u15, u16, u17, u18, u19, u20, z21, z22, z23, z24, z25, z26, z27, z28, z29, z30, z31]) ?_ 21 _ rfl
  refine blk_put (cs := #[u0, u1, u2, u3, u4, u5, u6, u7, u8, u9, u10, u11, u12, u13, u14, u15, u16, u17, u18, u19, z20, z21, z22, z23, z24, z25, z26, z27, z28, z29, z30, z31]) ?_ 20 _ rfl
  refine blk_put (cs := #[u0, u1, u2, u3, u4, u5, u6, u7, u8, u9, u10, u11, u12, u13, u14, u15, u16, u17, u18, z19, z20, z21, z22, z23, z24, z25, z26, z27, z28, z29, z30, z31]) ?_ 19 _ rfl
  refine blk_put (cs := #[u0, u1, u2, u3, u4, u5, u6, u7, u8, u9, u10, u11, u12, u13, u14, u15, u16, u17, z18, z19, z20, z21, z22, z23, z24, z25, z26, z27, z28, z29, z30, z31]) ?_ 18 _ rfl
  refine blk_put (cs := #[u0, u1, u2, u3, u4, u5, u6, u7, u8, u9, u10, u11, u12, u13, u14, u15, u16, z17, z18, z19, z20, z21, z22, z23, z24, z25, z26, z27, z28, z29, z30, z31]) ?_ 17 _ rfl
  refine blk_put (cs := #[u0, u1, u2, u3, u4, u5, u6, u7, u8, u9, u10, u11, u12, u13, u14, u15, z16, z17, z18, z19, z20, z21, z22, z23, z24, z25, z26, z27, z28, z29, z30, z31]) ?_ 16 _ rfl
  refine blk_put (cs := #[u0, u1, u2, u3, u4, u5, u6, u7, u8, u9, u10, u11, u12, u13, u14, z15, z16, z17, z18, z19, z20, z21, z22, z23, z24, z25, z26, z27, z28, z29, z30, z31]) ?_ 15 _ rfl
  refine blk_put (cs := #[u0, u1, u2, u3, u4, u5, u6, u7, u8, u9, u10, u11, u12, u13, z14, z15, z16, z17, z18, z19, z20, z21, z22, z23, z24, z25, z26, z27, z28, z29, z30, z31]) ?_ 14 _ rfl
  refine blk_put (cs := #[u0, u1, u2, u3, u4, u5, u6, u7, u8, u9, u10, u11, u12, z13, z14, z15, z16, z17, z18, z19, z20, z21, z22, z23, z24, z25, z26, z27, z28, z29, z30, z31]) ?_ 13 _ rfl
  refine blk_put (cs := #[u0, u1, u2, u3, u4, u5, u6, u7, u8, u9, u10, u11, z12, z13, z14, z15, z16, z17, z18, z19, z20, z21, z22, z23, z24, z25, z26, z27, z28, z29, z30, z31]) ?_ 12 _ rfl
  refine blk_put (cs := #[u0, u1, u2, u3, u4, u5, u6, u7, u8, u9, u10, z11, z12, z13, z14, z15, z16, z17, z18, z19, z20, z21, z22, z23, z24, z25, z26, z27, z28, z29, z30, z31]) ?_ 11 _ rfl
  refine blk_put (cs := #[u0, u1, u2, u3, u4, u5, u6, u7, u8, u9, z10, z11, z12, z13, z14, z15, z16, z17, z18, z19, z20, z21, z22, z23, z24, z25, z26, z27, z28, z29, z30, z31]) ?_ 10 _ rfl
  refine blk_put (cs := #[u0, u1, u2, u3, u4, u5, u6, u7, u8, z9, z10, z11, z12, z13, z14, z15, z16, z17, z18, z19, z20, z21, z22, z23, z24, z25, z26, z27, z28, z29, z30, z31]) ?_ 9 _ rfl
  refine blk_put (cs := #[u0, u1, u2, u3, u4, u5, u6, u7, z8, z9, z10, z11, z12, z13, z14, z15, z16, z17, z18, z19, z20, z21, z22, z23, z24, z25, z26, z27, z28, z29, z30, z31]) ?_ 8 _ rfl
  refine blk_put (cs := #[u0, u1, u2, u3, u4, u5, u6, z7, z8, z9, z10, z11, z12, z13, z14, z15, z16, z17, z18, z19, z20, z21, z22, z23, z24, z25, z26, z27, z28, z29, z30, z31]) ?_ 7 _ rfl
  refine blk_put (cs := #[u0, u1, u2, u3, u4, u5, z6, z7, z8, z9, z10, z11, z12, z13, z14, z15, z16, z17, z18, z19, z20, z21, z22, z23, z24, z25, z26, z27, z28, z29, z30, z31]) ?_ 6 _ rfl
  refine blk_put (cs := #[u0, u1, u2, u3, u4, z5, z6, z7, z8, z9, z10, z11, z12, z13, z14, z15, z16, z17, z18, z19, z20, z21, z22, z23, z24, z25, z26, z27, z28, z29, z30, z31]) ?_ 5 _ rfl
  refine blk_put (cs := #[u0, u1, u2, u3, z4, z5, z6, z7, z8, z9, z10, z11, z12, z13, z14, z15, z16, z17, z18, z19, z20, z21, z22, z23, z24, z25, z26, z27, z28, z29, z30, z31]) ?_ 4 _ rfl
  refine blk_put (cs := #[u0, u1, u2, z3, z4, z5, z6, z7, z8, z9, z10, z11, z12, z13, z14, z15, z16, z17, z18, z19, z20, z21, z22, z23, z24, z25, z26, z27, z28, z29, z30, z31]) ?_ 3 _ rfl
  refine blk_put (cs := #[u0, u1, z2, z3, z4, z5, z6, z7, z8, z9, z10, z11, z12, z13, z14, z15, z16, z17, z18, z19, z20, z21, z22, z23, z24, z25, z26, z27, z28, z29, z30, z31]) ?_ 2 _ rfl
  refine blk_put (cs := #[u0, z1, z2, z3, z4, z5, z6, z7, z8, z9, z10, z11, z12, z13, z14, z15, z16, z17, z18, z19, z20, z21, z22, z23, z24, z25, z26, z27, z28, z29, z30, z31]) ?_ 1 _ rfl
  refine blk_put (cs := #[z0, z1, z2, z3, z4, z5, z6, z7, z8, z9, z10, z11, z12, z13, z14, z15, z16, z17, z18, z19, z20, z21, z22, z23, z24, z25, z26, z27, z28, z29, z30, z31]) ?_ 0 _ rfl
  exact h
theorem cat32 {c0 c1 c2 c3 c4 c5 c6 c7 c8 c9 c10 c11 c12 c13 c14 c15 c16 c17 c18 c19 c20 c21 c22 c23 c24 c25 c26 c27 c28 c29 c30 c31 d : Prop} (h : c0 ∧ c1 ∧ c2 ∧ c3 ∧ c4 ∧ c5 ∧ c6 ∧ c7 ∧ c8 ∧ c9 ∧ c10 ∧ c11 ∧ c12 ∧ c13 ∧ c14 ∧ c15 ∧ c16 ∧ c17 ∧ c18 ∧ c19 ∧ c20 ∧ c21 ∧ c22 ∧ c23 ∧ c24 ∧ c25 ∧ c26 ∧ c27 ∧ c28 ∧ c29 ∧ c30 ∧ c31) (k : d) : c0 ∧ c1 ∧ c2 ∧ c3 ∧ c4 ∧ c5 ∧ c6 ∧ c7 ∧ c8 ∧ c9 ∧ c10 ∧ c11 ∧ c12 ∧ c13 ∧ c14 ∧ c15 ∧ c16 ∧ c17 ∧ c18 ∧ c19 ∧ c20 ∧ c21 ∧ c22 ∧ c23 ∧ c24 ∧ c25 ∧ c26 ∧ c27 ∧ c28 ∧ c29 ∧ c30 ∧ c31 ∧ d := by obtain ⟨h0, h1, h2, h3, h4, h5, h6, h7, h8, h9, h10, h11, h12, h13, h14, h15, h16, h17, h18, h19, h20, h21, h22, h23, h24, h25, h26, h27, h28, h29, h30, h31⟩ := h; exact ⟨h0, h1, h2, h3, h4, h5, h6, h7, h8, h9, h10, h11, h12, h13, h14, h15, h16, h17, h18, h19, h20, h21, h22, h23, h24, h25, h26, h27, h28, h29, h30, h31, k⟩
theorem cells32 {w : World} {g t : Nat} {z0 z1 z2 z3 z4 z5 z6 z7 z8 z9 z10 z11 z12 z13 z14 z15 z16 z17 z18 z19 z20 z21 z22 z23 z24 z25 z26 z27 z28 z29 z30 z31 : Value} (h : w.heap[g]? = some (.cells #[z0, z1, z2, z3, z4, z5, z6, z7, z8, z9, z10, z11, z12, z13, z14, z15, z16, z17, z18, z19, z20, z21, z22, z23, z24, z25, z26, z27, z28, z29, z30, z31] t (0, 0))) : w.cell? ⟨g, 0, none⟩ = some z0 ∧ w.cell? ⟨g, 1, none⟩ = some z1 ∧ w.cell? ⟨g, 2, none⟩ = some z2 ∧ w.cell? ⟨g, 3, none⟩ = some z3 ∧ w.cell? ⟨g, 4, none⟩ = some z4 ∧ w.cell? ⟨g, 5, none⟩ = some z5 ∧ w.cell? ⟨g, 6, none⟩ = some z6 ∧ w.cell? ⟨g, 7, none⟩ = some z7 ∧ w.cell? ⟨g, 8, none⟩ = some z8 ∧ w.cell? ⟨g, 9, none⟩ = some z9 ∧ w.cell? ⟨g, 10, none⟩ = some z10 ∧ w.cell? ⟨g, 11, none⟩ = some z11 ∧ w.cell? ⟨g, 12, none⟩ = some z12 ∧ w.cell? ⟨g, 13, none⟩ = some z13 ∧ w.cell? ⟨g, 14, none⟩ = some z14 ∧ w.cell? ⟨g, 15, none⟩ = some z15 ∧ w.cell? ⟨g, 16, none⟩ = some z16 ∧ w.cell? ⟨g, 17, none⟩ = some z17 ∧ w.cell? ⟨g, 18, none⟩ = some z18 ∧ w.cell? ⟨g, 19, none⟩ = some z19 ∧ w.cell? ⟨g, 20, none⟩ = some z20 ∧ w.cell? ⟨g, 21, none⟩ = some z21 ∧ w.cell? ⟨g, 22, none⟩ = some z22 ∧ w.cell? ⟨g, 23, none⟩ = some z23 ∧ w.cell? ⟨g, 24, none⟩ = some z24 ∧ w.cell? ⟨g, 25, none⟩ = some z25 ∧ w.cell? ⟨g, 26, none⟩ = some z26 ∧ w.cell? ⟨g, 27, none⟩ = some z27 ∧ w.cell? ⟨g, 28, none⟩ = some z28 ∧ w.cell? ⟨g, 29, none⟩ = some z29 ∧ w.cell? ⟨g, 30, none⟩ = some z30 ∧ w.cell? ⟨g, 31, none⟩ = some z31 := ⟨(blk_cell h 0).trans rfl, (blk_cell h 1).trans rfl, (blk_cell h 2).trans rfl, (blk_cell h 3).trans rfl, (blk_cell h 4).trans rfl, (blk_cell h 5).trans rfl, (blk_cell h 6).trans rfl, (blk_cell h 7).trans rfl, (blk_cell h 8).trans rfl, (blk_cell h 9).trans rfl, (blk_cell h 10).trans rfl, (blk_cell h 11).trans rfl, (blk_cell h 12).trans rfl, (blk_cell h 13).trans rfl, (blk_cell h 14).trans rfl, (blk_cell h 15).trans rfl, (blk_cell h 16).trans rfl, (blk_cell h 17).trans rfl, (blk_cell h 18).trans rfl, (blk_cell h 19).trans rfl, (blk_cell h 20).trans rfl, (blk_cell h 21).trans rfl, (blk_cell h 22).trans rfl, (blk_cell h 23).trans rfl, (blk_cell h 24).trans rfl, (blk_cell h 25).trans rfl, (blk_cell h 26).trans rfl, (blk_cell h 27).trans rfl, (blk_cell h 28).trans rfl, (blk_cell h 29).trans rfl, (blk_cell h 30).trans rfl, (blk_cell h 31).trans rfl⟩
theorem froz32 {w : World} {g t : Nat} {cs : Array Value} (h : w.heap[g]? = some (.cells cs t (0, 0))) : w.frozen? ⟨g, 0, none⟩ = false ∧ w.frozen? ⟨g, 1, none⟩ = false ∧ w.frozen? ⟨g, 2, none⟩ = false ∧ w.frozen? ⟨g, 3, none⟩ = false ∧ w.frozen? ⟨g, 4, none⟩ = false ∧ w.frozen? ⟨g, 5, none⟩ = false ∧ w.frozen? ⟨g, 6, none⟩ = false ∧ w.frozen? ⟨g, 7, none⟩ = false ∧ w.frozen? ⟨g, 8, none⟩ = false ∧ w.frozen? ⟨g, 9, none⟩ = false ∧ w.frozen? ⟨g, 10, none⟩ = false ∧ w.frozen? ⟨g, 11, none⟩ = false ∧ w.frozen? ⟨g, 12, none⟩ = false ∧ w.frozen? ⟨g, 13, none⟩ = false ∧ w.frozen? ⟨g, 14, none⟩ = false ∧ w.frozen? ⟨g, 15, none⟩ = false ∧ w.frozen? ⟨g, 16, none⟩ = false ∧ w.frozen? ⟨g, 17, none⟩ = false ∧ w.frozen? ⟨g, 18, none⟩ = false ∧ w.frozen? ⟨g, 19, none⟩ = false ∧ w.frozen? ⟨g, 20, none⟩ = false ∧ w.frozen? ⟨g, 21, none⟩ = false ∧ w.frozen? ⟨g, 22, none⟩ = false ∧ w.frozen? ⟨g, 23, none⟩ = false ∧ w.frozen? ⟨g, 24, none⟩ = false ∧ w.frozen? ⟨g, 25, none⟩ = false ∧ w.frozen? ⟨g, 26, none⟩ = false ∧ w.frozen? ⟨g, 27, none⟩ = false ∧ w.frozen? ⟨g, 28, none⟩ = false ∧ w.frozen? ⟨g, 29, none⟩ = false ∧ w.frozen? ⟨g, 30, none⟩ = false ∧ w.frozen? ⟨g, 31, none⟩ = false := ⟨blk_frozen h 0, blk_frozen h 1, blk_frozen h 2, blk_frozen h 3, blk_frozen h 4, blk_frozen h 5, blk_frozen h 6, blk_frozen h 7, blk_frozen h 8, blk_frozen h 9, blk_frozen h 10, blk_frozen h 11, blk_frozen h 12, blk_frozen h 13, blk_frozen h 14, blk_frozen h 15, blk_frozen h 16, blk_frozen h 17, blk_frozen h 18, blk_frozen h 19, blk_frozen h 20, blk_frozen h 21, blk_frozen h 22, blk_frozen h 23, blk_frozen h 24, blk_frozen h 25, blk_frozen h 26, blk_frozen h 27, blk_frozen h 28, blk_frozen h 29, blk_frozen h 30, blk_frozen h 31⟩
theorem set2 {w : World} {P : World → Prop} {g t : Nat} (hs : ∀ (W : World) (i : Nat) (u : Value), Typ W g t → P W → P (W.setCell ⟨g, i, none⟩ u)) (hT : Typ w g t) (h : P w) {u0 u1 : Value} : P ((w.setCell ⟨g, 0, none⟩ u0).setCell ⟨g, 1, none⟩ u1) := by
  have h := hs _ 0 u0 hT h
  have hT := hT.set g 0 u0
  exact hs _ 1 u1 hT h
theorem set3 {w : World} {P : World → Prop} {g t : Nat} (hs : ∀ (W : World) (i : Nat) (u : Value), Typ W g t → P W → P (W.setCell ⟨g, i, none⟩ u)) (hT : Typ w g t) (h : P w) {u0 u1 u2 : Value} : P (((w.setCell ⟨g, 0, none⟩ u0).setCell ⟨g, 1, none⟩ u1).setCell ⟨g, 2, none⟩ u2) := by
  have h := hs _ 0 u0 hT h
  have hT := hT.set g 0 u0
  have h := hs _ 1 u1 hT h
  have hT := hT.set g 1 u1
  exact hs _ 2 u2 hT h
theorem set4 {w : World} {P : World → Prop} {g t : Nat} (hs : ∀ (W : World) (i : Nat) (u : Value), Typ W g t → P W → P (W.setCell ⟨g, i, none⟩ u)) (hT : Typ w g t) (h : P w) {u0 u1 u2 u3 : Value} : P ((((w.setCell ⟨g, 0, none⟩ u0).setCell ⟨g, 1, none⟩ u1).setCell ⟨g, 2, none⟩ u2).setCell ⟨g, 3, none⟩ u3) := by
  have h := hs _ 0 u0 hT h
  have hT := hT.set g 0 u0
  have h := hs _ 1 u1 hT h
  have hT := hT.set g 1 u1
  have h := hs _ 2 u2 hT h
  have hT := hT.set g 2 u2
  exact hs _ 3 u3 hT h
theorem set5 {w : World} {P : World → Prop} {g t : Nat} (hs : ∀ (W : World) (i : Nat) (u : Value), Typ W g t → P W → P (W.setCell ⟨g, i, none⟩ u)) (hT : Typ w g t) (h : P w) {u0 u1 u2 u3 u4 : Value} : P (((((w.setCell ⟨g, 0, none⟩ u0).setCell ⟨g, 1, none⟩ u1).setCell ⟨g, 2, none⟩ u2).setCell ⟨g, 3, none⟩ u3).setCell ⟨g, 4, none⟩ u4) := by
  have h := hs _ 0 u0 hT h
  have hT := hT.set g 0 u0
  have h := hs _ 1 u1 hT h
  have hT := hT.set g 1 u1
  have h := hs _ 2 u2 hT h
  have hT := hT.set g 2 u2
  have h := hs _ 3 u3 hT h
  have hT := hT.set g 3 u3
  exact hs _ 4 u4 hT h
theorem set6 {w : World} {P : World → Prop} {g t : Nat} (hs : ∀ (W : World) (i : Nat) (u : Value), Typ W g t → P W → P (W.setCell ⟨g, i, none⟩ u)) (hT : Typ w g t) (h : P w) {u0 u1 u2 u3 u4 u5 : Value} : P ((((((w.setCell ⟨g, 0, none⟩ u0).setCell ⟨g, 1, none⟩ u1).setCell ⟨g, 2, none⟩ u2).setCell ⟨g, 3, none⟩ u3).setCell ⟨g, 4, none⟩ u4).setCell ⟨g, 5, none⟩ u5) := by
  have h := hs _ 0 u0 hT h
  have hT := hT.set g 0 u0
  have h := hs _ 1 u1 hT h
  have hT := hT.set g 1 u1
  have h := hs _ 2 u2 hT h
  have hT := hT.set g 2 u2
  have h := hs _ 3 u3 hT h
  have hT := hT.set g 3 u3
  have h := hs _ 4 u4 hT h
  have hT := hT.set g 4 u4
  exact hs _ 5 u5 hT h
theorem set7 {w : World} {P : World → Prop} {g t : Nat} (hs : ∀ (W : World) (i : Nat) (u : Value), Typ W g t → P W → P (W.setCell ⟨g, i, none⟩ u)) (hT : Typ w g t) (h : P w) {u0 u1 u2 u3 u4 u5 u6 : Value} : P (((((((w.setCell ⟨g, 0, none⟩ u0).setCell ⟨g, 1, none⟩ u1).setCell ⟨g, 2, none⟩ u2).setCell ⟨g, 3, none⟩ u3).setCell ⟨g, 4, none⟩ u4).setCell ⟨g, 5, none⟩ u5).setCell ⟨g, 6, none⟩ u6) := by
  have h := hs _ 0 u0 hT h
  have hT := hT.set g 0 u0
  have h := hs _ 1 u1 hT h
  have hT := hT.set g 1 u1
  have h := hs _ 2 u2 hT h
  have hT := hT.set g 2 u2
  have h := hs _ 3 u3 hT h
  have hT := hT.set g 3 u3
  have h := hs _ 4 u4 hT h
  have hT := hT.set g 4 u4
  have h := hs _ 5 u5 hT h
  have hT := hT.set g 5 u5
  exact hs _ 6 u6 hT h
theorem set12 {w : World} {P : World → Prop} {g t : Nat} (hs : ∀ (W : World) (i : Nat) (u : Value), Typ W g t → P W → P (W.setCell ⟨g, i, none⟩ u)) (hT : Typ w g t) (h : P w) {u0 u1 u2 u3 u4 u5 u6 u7 u8 u9 u10 u11 : Value} : P ((((((((((((w.setCell ⟨g, 0, none⟩ u0).setCell ⟨g, 1, none⟩ u1).setCell ⟨g, 2, none⟩ u2).setCell ⟨g, 3, none⟩ u3).setCell ⟨g, 4, none⟩ u4).setCell ⟨g, 5, none⟩ u5).setCell ⟨g, 6, none⟩ u6).setCell ⟨g, 7, none⟩ u7).setCell ⟨g, 8, none⟩ u8).setCell ⟨g, 9, none⟩ u9).setCell ⟨g, 10, none⟩ u10).setCell ⟨g, 11, none⟩ u11) := by
  have h := hs _ 0 u0 hT h
  have hT := hT.set g 0 u0
  have h := hs _ 1 u1 hT h
  have hT := hT.set g 1 u1
  have h := hs _ 2 u2 hT h
  have hT := hT.set g 2 u2
  have h := hs _ 3 u3 hT h
  have hT := hT.set g 3 u3
  have h := hs _ 4 u4 hT h
  have hT := hT.set g 4 u4
  have h := hs _ 5 u5 hT h
  have hT := hT.set g 5 u5
  have h := hs _ 6 u6 hT h
  have hT := hT.set g 6 u6
  have h := hs _ 7 u7 hT h
  have hT := hT.set g 7 u7
  have h := hs _ 8 u8 hT h
  have hT := hT.set g 8 u8
  have h := hs _ 9 u9 hT h
  have hT := hT.set g 9 u9
  have h := hs _ 10 u10 hT h
  have hT := hT.set g 10 u10
  exact hs _ 11 u11 hT h
theorem set14 {w : World} {P : World → Prop} {g t : Nat} (hs : ∀ (W : World) (i : Nat) (u : Value), Typ W g t → P W → P (W.setCell ⟨g, i, none⟩ u)) (hT : Typ w g t) (h : P w) {u0 u1 u2 u3 u4 u5 u6 u7 u8 u9 u10 u11 u12 u13 : Value} : P ((((((((((((((w.setCell ⟨g, 0, none⟩ u0).setCell ⟨g, 1, none⟩ u1).setCell ⟨g, 2, none⟩ u2).setCell ⟨g, 3, none⟩ u3).setCell ⟨g, 4, none⟩ u4).setCell ⟨g, 5, none⟩ u5).setCell ⟨g, 6, none⟩ u6).setCell ⟨g, 7, none⟩ u7).setCell ⟨g, 8, none⟩ u8).setCell ⟨g, 9, none⟩ u9).setCell ⟨g, 10, none⟩ u10).setCell ⟨g, 11, none⟩ u11).setCell ⟨g, 12, none⟩ u12).setCell ⟨g, 13, none⟩ u13) := by
  have h := hs _ 0 u0 hT h
  have hT := hT.set g 0 u0
  have h := hs _ 1 u1 hT h
  have hT := hT.set g 1 u1
  have h := hs _ 2 u2 hT h
  have hT := hT.set g 2 u2
  have h := hs _ 3 u3 hT h
  have hT := hT.set g 3 u3
  have h := hs _ 4 u4 hT h
  have hT := hT.set g 4 u4
  have h := hs _ 5 u5 hT h
  have hT := hT.set g 5 u5
  have h := hs _ 6 u6 hT h
  have hT := hT.set g 6 u6
  have h := hs _ 7 u7 hT h
  have hT := hT.set g 7 u7
  have h := hs _ 8 u8 hT h
  have hT := hT.set g 8 u8
  have h := hs _ 9 u9 hT h
  have hT := hT.set g 9 u9
  have h := hs _ 10 u10 hT h
  have hT := hT.set g 10 u10
  have h := hs _ 11 u11 hT h
  have hT := hT.set g 11 u11
  have h := hs _ 12 u12 hT h
  have hT := hT.set g 12 u12
  exact hs _ 13 u13 hT h
theorem set18 {w : World} {P : World → Prop} {g t : Nat} (hs : ∀ (W : World) (i : Nat) (u : Value), Typ W g t → P W → P (W.setCell ⟨g, i, none⟩ u)) (hT : Typ w g t) (h : P w) {u0 u1 u2 u3 u4 u5 u6 u7 u8 u9 u10 u11 u12 u13 u14 u15 u16 u17 : Value} : P ((((((((((((((((((w.setCell ⟨g, 0, none⟩ u0).setCell ⟨g, 1, none⟩ u1).setCell ⟨g, 2, none⟩ u2).setCell ⟨g, 3, none⟩ u3).setCell ⟨g, 4, none⟩ u4).setCell ⟨g, 5, none⟩ u5).setCell ⟨g, 6, none⟩ u6).setCell ⟨g, 7, none⟩ u7).setCell ⟨g, 8, none⟩ u8).setCell ⟨g, 9, none⟩ u9).setCell ⟨g, 10, none⟩ u10).setCell ⟨g, 11, none⟩ u11).setCell ⟨g, 12, none⟩ u12).setCell ⟨g, 13, none⟩ u13).setCell ⟨g, 14, none⟩ u14).setCell ⟨g, 15, none⟩ u15).setCell ⟨g, 16, none⟩ u16).setCell ⟨g, 17, none⟩ u17) := by
  have h := hs _ 0 u0 hT h
  have hT := hT.set g 0 u0
  have h := hs _ 1 u1 hT h
  have hT := hT.set g 1 u1
  have h := hs _ 2 u2 hT h
  have hT := hT.set g 2 u2
  have h := hs _ 3 u3 hT h
  have hT := hT.set g 3 u3
  have h := hs _ 4 u4 hT h
  have hT := hT.set g 4 u4
  have h := hs _ 5 u5 hT h
  have hT := hT.set g 5 u5
  have h := hs _ 6 u6 hT h
  have hT := hT.set g 6 u6
  have h := hs _ 7 u7 hT h
  have hT := hT.set g 7 u7
  have h := hs _ 8 u8 hT h
  have hT := hT.set g 8 u8
  have h := hs _ 9 u9 hT h
  have hT := hT.set g 9 u9
  have h := hs _ 10 u10 hT h
  have hT := hT.set g 10 u10
  have h := hs _ 11 u11 hT h
  have hT := hT.set g 11 u11
  have h := hs _ 12 u12 hT h
  have hT := hT.set g 12 u12
  have h := hs _ 13 u13 hT h
  have hT := hT.set g 13 u13
  have h := hs _ 14 u14 hT h
  have hT := hT.set g 14 u14
  have h := hs _ 15 u15 hT h
  have hT := hT.set g 15 u15
  have h := hs _ 16 u16 hT h
  have hT := hT.set g 16 u16
  exact hs _ 17 u17 hT h
theorem set19 {w : World} {P : World → Prop} {g t : Nat} (hs : ∀ (W : World) (i : Nat) (u : Value), Typ W g t → P W → P (W.setCell ⟨g, i, none⟩ u)) (hT : Typ w g t) (h : P w) {u0 u1 u2 u3 u4 u5 u6 u7 u8 u9 u10 u11 u12 u13 u14 u15 u16 u17 u18 : Value} : P (((((((((((((((((((w.setCell ⟨g, 0, none⟩ u0).setCell ⟨g, 1, none⟩ u1).setCell ⟨g, 2, none⟩ u2).setCell ⟨g, 3, none⟩ u3).setCell ⟨g, 4, none⟩ u4).setCell ⟨g, 5, none⟩ u5).setCell ⟨g, 6, none⟩ u6).setCell ⟨g, 7, none⟩ u7).setCell ⟨g, 8, none⟩ u8).setCell ⟨g, 9, none⟩ u9).setCell ⟨g, 10, none⟩ u10).setCell ⟨g, 11, none⟩ u11).setCell ⟨g, 12, none⟩ u12).setCell ⟨g, 13, none⟩ u13).setCell ⟨g, 14, none⟩ u14).setCell ⟨g, 15, none⟩ u15).setCell ⟨g, 16, none⟩ u16).setCell ⟨g, 17, none⟩ u17).setCell ⟨g, 18, none⟩ u18) := by
  have h := hs _ 0 u0 hT h
  have hT := hT.set g 0 u0
  have h := hs _ 1 u1 hT h
  have hT := hT.set g 1 u1
  have h := hs _ 2 u2 hT h
  have hT := hT.set g 2 u2
  have h := hs _ 3 u3 hT h
  have hT := hT.set g 3 u3
  have h := hs _ 4 u4 hT h
  have hT := hT.set g 4 u4
  have h := hs _ 5 u5 hT h
  have hT := hT.set g 5 u5
  have h := hs _ 6 u6 hT h
  have hT := hT.set g 6 u6
  have h := hs _ 7 u7 hT h
  have hT := hT.set g 7 u7
  have h := hs _ 8 u8 hT h
  have hT := hT.set g 8 u8
  have h := hs _ 9 u9 hT h
  have hT := hT.set g 9 u9
  have h := hs _ 10 u10 hT h
  have hT := hT.set g 10 u10
  have h := hs _ 11 u11 hT h
  have hT := hT.set g 11 u11
  have h := hs _ 12 u12 hT h
  have hT := hT.set g 12 u12
  have h := hs _ 13 u13 hT h
  have hT := hT.set g 13 u13
  have h := hs _ 14 u14 hT h
  have hT := hT.set g 14 u14
  have h := hs _ 15 u15 hT h
  have hT := hT.set g 15 u15
  have h := hs _ 16 u16 hT h
  have hT := hT.set g 16 u16
  have h := hs _ 17 u17 hT h
  have hT := hT.set g 17 u17
  exact hs _ 18 u18 hT h
theorem set20 {w : World} {P : World → Prop} {g t : Nat} (hs : ∀ (W : World) (i : Nat) (u : Value), Typ W g t → P W → P (W.setCell ⟨g, i, none⟩ u)) (hT : Typ w g t) (h : P w) {u0 u1 u2 u3 u4 u5 u6 u7 u8 u9 u10 u11 u12 u13 u14 u15 u16 u17 u18 u19 : Value} : P ((((((((((((((((((((w.setCell ⟨g, 0, none⟩ u0).setCell ⟨g, 1, none⟩ u1).setCell ⟨g, 2, none⟩ u2).setCell ⟨g, 3, none⟩ u3).setCell ⟨g, 4, none⟩ u4).setCell ⟨g, 5, none⟩ u5).setCell ⟨g, 6, none⟩ u6).setCell ⟨g, 7, none⟩ u7).setCell ⟨g, 8, none⟩ u8).setCell ⟨g, 9, none⟩ u9).setCell ⟨g, 10, none⟩ u10).setCell ⟨g, 11, none⟩ u11).setCell ⟨g, 12, none⟩ u12).setCell ⟨g, 13, none⟩ u13).setCell ⟨g, 14, none⟩ u14).setCell ⟨g, 15, none⟩ u15).setCell ⟨g, 16, none⟩ u16).setCell ⟨g, 17, none⟩ u17).setCell ⟨g, 18, none⟩ u18).setCell ⟨g, 19, none⟩ u19) := by
  have h := hs _ 0 u0 hT h
  have hT := hT.set g 0 u0
  have h := hs _ 1 u1 hT h
  have hT := hT.set g 1 u1
  have h := hs _ 2 u2 hT h
  have hT := hT.set g 2 u2
  have h := hs _ 3 u3 hT h
  have hT := hT.set g 3 u3
  have h := hs _ 4 u4 hT h
  have hT := hT.set g 4 u4
  have h := hs _ 5 u5 hT h
  have hT := hT.set g 5 u5
  have h := hs _ 6 u6 hT h
  have hT := hT.set g 6 u6
  have h := hs _ 7 u7 hT h
  have hT := hT.set g 7 u7
  have h := hs _ 8 u8 hT h
  have hT := hT.set g 8 u8
  have h := hs _ 9 u9 hT h
  have hT := hT.set g 9 u9
  have h := hs _ 10 u10 hT h
  have hT := hT.set g 10 u10
  have h := hs _ 11 u11 hT h
  have hT := hT.set g 11 u11
  have h := hs _ 12 u12 hT h
  have hT := hT.set g 12 u12
  have h := hs _ 13 u13 hT h
  have hT := hT.set g 13 u13
  have h := hs _ 14 u14 hT h
  have hT := hT.set g 14 u14
  have h := hs _ 15 u15 hT h
  have hT := hT.set g 15 u15
  have h := hs _ 16 u16 hT h
  have hT := hT.set g 16 u16
  have h := hs _ 17 u17 hT h
  have hT := hT.set g 17 u17
  have h := hs _ 18 u18 hT h
  have hT := hT.set g 18 u18
  exact hs _ 19 u19 hT h
theorem set32 {w : World} {P : World → Prop} {g t : Nat} (hs : ∀ (W : World) (i : Nat) (u : Value), Typ W g t → P W → P (W.setCell ⟨g, i, none⟩ u)) (hT : Typ w g t) (h : P w) {u0 u1 u2 u3 u4 u5 u6 u7 u8 u9 u10 u11 u12 u13 u14 u15 u16 u17 u18 u19 u20 u21 u22 u23 u24 u25 u26 u27 u28 u29 u30 u31 : Value} : P ((((((((((((((((((((((((((((((((w.setCell ⟨g, 0, none⟩ u0).setCell ⟨g, 1, none⟩ u1).setCell ⟨g, 2, none⟩ u2).setCell ⟨g, 3, none⟩ u3).setCell ⟨g, 4, none⟩ u4).setCell ⟨g, 5, none⟩ u5).setCell ⟨g, 6, none⟩ u6).setCell ⟨g, 7, none⟩ u7).setCell ⟨g, 8, none⟩ u8).setCell ⟨g, 9, none⟩ u9).setCell ⟨g, 10, none⟩ u10).setCell ⟨g, 11, none⟩ u11).setCell ⟨g, 12, none⟩ u12).setCell ⟨g, 13, none⟩ u13).setCell ⟨g, 14, none⟩ u14).setCell ⟨g, 15, none⟩ u15).setCell ⟨g, 16, none⟩ u16).setCell ⟨g, 17, none⟩ u17).setCell ⟨g, 18, none⟩ u18).setCell ⟨g, 19, none⟩ u19).setCell ⟨g, 20, none⟩ u20).setCell ⟨g, 21, none⟩ u21).setCell ⟨g, 22, none⟩ u22).setCell ⟨g, 23, none⟩ u23).setCell ⟨g, 24, none⟩ u24).setCell ⟨g, 25, none⟩ u25).setCell ⟨g, 26, none⟩ u26).setCell ⟨g, 27, none⟩ u27).setCell ⟨g, 28, none⟩ u28).setCell ⟨g, 29, none⟩ u29).setCell ⟨g, 30, none⟩ u30).setCell ⟨g, 31, none⟩ u31) := by
  have h := hs _ 0 u0 hT h
  have hT := hT.set g 0 u0
  have h := hs _ 1 u1 hT h
  have hT := hT.set g 1 u1
  have h := hs _ 2 u2 hT h
  have hT := hT.set g 2 u2
  have h := hs _ 3 u3 hT h
  have hT := hT.set g 3 u3
  have h := hs _ 4 u4 hT h
  have hT := hT.set g 4 u4
  have h := hs _ 5 u5 hT h
  have hT := hT.set g 5 u5
  have h := hs _ 6 u6 hT h
  have hT := hT.set g 6 u6
  have h := hs _ 7 u7 hT h
  have hT := hT.set g 7 u7
  have h := hs _ 8 u8 hT h
  have hT := hT.set g 8 u8
  have h := hs _ 9 u9 hT h
  have hT := hT.set g 9 u9
  have h := hs _ 10 u10 hT h
  have hT := hT.set g 10 u10
  have h := hs _ 11 u11 hT h
  have hT := hT.set g 11 u11
  have h := hs _ 12 u12 hT h
  have hT := hT.set g 12 u12
  have h := hs _ 13 u13 hT h
  have hT := hT.set g 13 u13
  have h := hs _ 14 u14 hT h
  have hT := hT.set g 14 u14
  have h := hs _ 15 u15 hT h
  have hT := hT.set g 15 u15
  have h := hs _ 16 u16 hT h
  have hT := hT.set g 16 u16
  have h := hs _ 17 u17 hT h
  have hT := hT.set g 17 u17
  have h := hs _ 18 u18 hT h
  have hT := hT.set g 18 u18
  have h := hs _ 19 u19 hT h
  have hT := hT.set g 19 u19
  have h := hs _ 20 u20 hT h
  have hT := hT.set g 20 u20
  have h := hs _ 21 u21 hT h
  have hT := hT.set g 21 u21
  have h := hs _ 22 u22 hT h
  have hT := hT.set g 22 u22
  have h := hs _ 23 u23 hT h
  have hT := hT.set g 23 u23
  have h := hs _ 24 u24 hT h
  have hT := hT.set g 24 u24
  have h := hs _ 25 u25 hT h
  have hT := hT.set g 25 u25
  have h := hs _ 26 u26 hT h
  have hT := hT.set g 26 u26
  have h := hs _ 27 u27 hT h
  have hT := hT.set g 27 u27
  have h := hs _ 28 u28 hT h
  have hT := hT.set g 28 u28
  have h := hs _ 29 u29 hT h
  have hT := hT.set g 29 u29
  have h := hs _ 30 u30 hT h
  have hT := hT.set g 30 u30
  exact hs _ 31 u31 hT h
end Go.Proofs.Ytdakdlgkhnjhoaa.Ext
