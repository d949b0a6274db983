/- Laws for structs of 3, 5, 12, 19, 20 and 32 cells in memory. -/
import Derived.Test.YtlhjdmpclfhoeaaExt
namespace Go.Proofs.Ytlhjdmpclfhoeaa.Ext
open Go.RowKit Go.Proofs.YtlhjdmpclfhoeaaW.PrintWords Go.Proofs.YtlhjdmpclfhoeaaW.PrintLast Go.Proofs.YtlhjdmpclfhoeaaW.PrintMore
theorem cells9 {w : World} {g t : Nat} {z0 z1 z2 z3 z4 z5 z6 z7 z8 : Value} (h : w.heap[g]? = some (.cells #[z0, z1, z2, z3, z4, z5, z6, z7, z8] t (0, 0))) : w.cell? ⟨g, 0, none⟩ = some z0 ∧ w.cell? ⟨g, 1, none⟩ = some z1 ∧ w.cell? ⟨g, 2, none⟩ = some z2 ∧ w.cell? ⟨g, 3, none⟩ = some z3 ∧ w.cell? ⟨g, 4, none⟩ = some z4 ∧ w.cell? ⟨g, 5, none⟩ = some z5 ∧ w.cell? ⟨g, 6, none⟩ = some z6 ∧ w.cell? ⟨g, 7, none⟩ = some z7 ∧ w.cell? ⟨g, 8, none⟩ = some z8 := ⟨(blk_cell h 0).trans rfl, (blk_cell h 1).trans rfl, (blk_cell h 2).trans rfl, (blk_cell h 3).trans rfl, (blk_cell h 4).trans rfl, (blk_cell h 5).trans rfl, (blk_cell h 6).trans rfl, (blk_cell h 7).trans rfl, (blk_cell h 8).trans rfl⟩
theorem froz9 {w : World} {g t : Nat} {cs : Array Value} (h : w.heap[g]? = some (.cells cs t (0, 0))) : w.frozen? ⟨g, 0, none⟩ = false ∧ w.frozen? ⟨g, 1, none⟩ = false ∧ w.frozen? ⟨g, 2, none⟩ = false ∧ w.frozen? ⟨g, 3, none⟩ = false ∧ w.frozen? ⟨g, 4, none⟩ = false ∧ w.frozen? ⟨g, 5, none⟩ = false ∧ w.frozen? ⟨g, 6, none⟩ = false ∧ w.frozen? ⟨g, 7, none⟩ = false ∧ w.frozen? ⟨g, 8, none⟩ = false := ⟨blk_frozen h 0, blk_frozen h 1, blk_frozen h 2, blk_frozen h 3, blk_frozen h 4, blk_frozen h 5, blk_frozen h 6, blk_frozen h 7, blk_frozen h 8⟩
theorem cells18 {w : World} {g t : Nat} {z0 z1 z2 z3 z4 z5 z6 z7 z8 z9 z10 z11 z12 z13 z14 z15 z16 z17 : Value} (h : w.heap[g]? = some (.cells #[z0, z1, z2, z3, z4, z5, z6, z7, z8, z9, z10, z11, z12, z13, z14, z15, z16, z17] t (0, 0))) : w.cell? ⟨g, 0, none⟩ = some z0 ∧ w.cell? ⟨g, 1, none⟩ = some z1 ∧ w.cell? ⟨g, 2, none⟩ = some z2 ∧ w.cell? ⟨g, 3, none⟩ = some z3 ∧ w.cell? ⟨g, 4, none⟩ = some z4 ∧ w.cell? ⟨g, 5, none⟩ = some z5 ∧ w.cell? ⟨g, 6, none⟩ = some z6 ∧ w.cell? ⟨g, 7, none⟩ = some z7 ∧ w.cell? ⟨g, 8, none⟩ = some z8 ∧ w.cell? ⟨g, 9, none⟩ = some z9 ∧ w.cell? ⟨g, 10, none⟩ = some z10 ∧ w.cell? ⟨g, 11, none⟩ = some z11 ∧ w.cell? ⟨g, 12, none⟩ = some z12 ∧ w.cell? ⟨g, 13, none⟩ = some z13 ∧ w.cell? ⟨g, 14, none⟩ = some z14 ∧ w.cell? ⟨g, 15, none⟩ = some z15 ∧ w.cell? ⟨g, 16, none⟩ = some z16 ∧ w.cell? ⟨g, 17, none⟩ = some z17 := ⟨(blk_cell h 0).trans rfl, (blk_cell h 1).trans rfl, (blk_cell h 2).trans rfl, (blk_cell h 3).trans rfl, (blk_cell h 4).trans rfl, (blk_cell h 5).trans rfl, (blk_cell h 6).trans rfl, (blk_cell h 7).trans rfl, (blk_cell h 8).trans rfl, (blk_cell h 9).trans rfl, (blk_cell h 10).trans rfl, (blk_cell h 11).trans rfl, (blk_cell h 12).trans rfl, (blk_cell h 13).trans rfl, (blk_cell h 14).trans rfl, (blk_cell h 15).trans rfl, (blk_cell h 16).trans rfl, (blk_cell h 17).trans rfl⟩
theorem froz18 {w : World} {g t : Nat} {cs : Array Value} (h : w.heap[g]? = some (.cells cs t (0, 0))) : w.frozen? ⟨g, 0, none⟩ = false ∧ w.frozen? ⟨g, 1, none⟩ = false ∧ w.frozen? ⟨g, 2, none⟩ = false ∧ w.frozen? ⟨g, 3, none⟩ = false ∧ w.frozen? ⟨g, 4, none⟩ = false ∧ w.frozen? ⟨g, 5, none⟩ = false ∧ w.frozen? ⟨g, 6, none⟩ = false ∧ w.frozen? ⟨g, 7, none⟩ = false ∧ w.frozen? ⟨g, 8, none⟩ = false ∧ w.frozen? ⟨g, 9, none⟩ = false ∧ w.frozen? ⟨g, 10, none⟩ = false ∧ w.frozen? ⟨g, 11, none⟩ = false ∧ w.frozen? ⟨g, 12, none⟩ = false ∧ w.frozen? ⟨g, 13, none⟩ = false ∧ w.frozen? ⟨g, 14, none⟩ = false ∧ w.frozen? ⟨g, 15, none⟩ = false ∧ w.frozen? ⟨g, 16, none⟩ = false ∧ w.frozen? ⟨g, 17, none⟩ = false := ⟨blk_frozen h 0, blk_frozen h 1, blk_frozen h 2, blk_frozen h 3, blk_frozen h 4, blk_frozen h 5, blk_frozen h 6, blk_frozen h 7, blk_frozen h 8, blk_frozen h 9, blk_frozen h 10, blk_frozen h 11, blk_frozen h 12, blk_frozen h 13, blk_frozen h 14, blk_frozen h 15, blk_frozen h 16, blk_frozen h 17⟩
theorem set2 {w : World} {P : World → Prop} {g t : Nat} (hs : ∀ (W : World) (i : Nat) (u : Value), Typ W g t → P W → P (W.setCell ⟨g, i, none⟩ u)) (hT : Typ w g t) (h : P w) {u0 u1 : Value} : P ((w.setCell ⟨g, 0, none⟩ u0).setCell ⟨g, 1, none⟩ u1) := by
  have h := hs _ 0 u0 hT h
  have hT := hT.set g 0 u0
  exact hs _ 1 u1 hT h
theorem set3 {w : World} {P : World → Prop} {g t : Nat} (hs : ∀ (W : World) (i : Nat) (u : Value), Typ W g t → P W → P (W.setCell ⟨g, i, none⟩ u)) (hT : Typ w g t) (h : P w) {u0 u1 u2 : Value} : P (((w.setCell ⟨g, 0, none⟩ u0).setCell ⟨g, 1, none⟩ u1).setCell ⟨g, 2, none⟩ u2) := by
  have h := hs _ 0 u0 hT h
  have hT := hT.set g 0 u0
  have h := hs _ 1 u1 hT h
  have hT := hT.set g 1 u1
  exact hs _ 2 u2 hT h
theorem set4 {w : World} {P : World → Prop} {g t : Nat} (hs : ∀ (W : World) (i : Nat) (u : Value), Typ W g t → P W → P (W.setCell ⟨g, i, none⟩ u)) (hT : Typ w g t) (h : P w) {u0 u1 u2 u3 : Value} : P ((((w.setCell ⟨g, 0, none⟩ u0).setCell ⟨g, 1, none⟩ u1).setCell ⟨g, 2, none⟩ u2).setCell ⟨g, 3, none⟩ u3) := by
  have h := hs _ 0 u0 hT h
  have hT := hT.set g 0 u0
  have h := hs _ 1 u1 hT h
  have hT := hT.set g 1 u1
  have h := hs _ 2 u2 hT h
  have hT := hT.set g 2 u2
  exact hs _ 3 u3 hT h
theorem set5 {w : World} {P : World → Prop} {g t : Nat} (hs : ∀ (W : World) (i : Nat) (u : Value), Typ W g t → P W → P (W.setCell ⟨g, i, none⟩ u)) (hT : Typ w g t) (h : P w) {u0 u1 u2 u3 u4 : Value} : P (((((w.setCell ⟨g, 0, none⟩ u0).setCell ⟨g, 1, none⟩ u1).setCell ⟨g, 2, none⟩ u2).setCell ⟨g, 3, none⟩ u3).setCell ⟨g, 4, none⟩ u4) := by
  have h := hs _ 0 u0 hT h
  have hT := hT.set g 0 u0
  have h := hs _ 1 u1 hT h
  have hT := hT.set g 1 u1
  have h := hs _ 2 u2 hT h
  have hT := hT.set g 2 u2
  have h := hs _ 3 u3 hT h
  have hT := hT.set g 3 u3
  exact hs _ 4 u4 hT h
theorem set6 {w : World} {P : World → Prop} {g t : Nat} (hs : ∀ (W : World) (i : Nat) (u : Value), Typ W g t → P W → P (W.setCell ⟨g, i, none⟩ u)) (hT : Typ w g t) (h : P w) {u0 u1 u2 u3 u4 u5 : Value} : P ((((((w.setCell ⟨g, 0, none⟩ u0).setCell ⟨g, 1, none⟩ u1).setCell ⟨g, 2, none⟩ u2).setCell ⟨g, 3, none⟩ u3).setCell ⟨g, 4, none⟩ u4).setCell ⟨g, 5, none⟩ u5) := by
  have h := hs _ 0 u0 hT h
  have hT := hT.set g 0 u0
  have h := hs _ 1 u1 hT h
  have hT := hT.set g 1 u1
  have h := hs _ 2 u2 hT h
  have hT := hT.set g 2 u2
  have h := hs _ 3 u3 hT h
  have hT := hT.set g 3 u3
  have h := hs _ 4 u4 hT h
  have hT := hT.set g 4 u4
  exact hs _ 5 u5 hT h
theorem set9 {w : World} {P : World → Prop} {g t : Nat} (hs : ∀ (W : World) (i : Nat) (u : Value), Typ W g t → P W → P (W.setCell ⟨g, i, none⟩ u)) (hT : Typ w g t) (h : P w) {u0 u1 u2 u3 u4 u5 u6 u7 u8 : Value} : P (((((((((w.setCell ⟨g, 0, none⟩ u0).setCell ⟨g, 1, none⟩ u1).setCell ⟨g, 2, none⟩ u2).setCell ⟨g, 3, none⟩ u3).setCell ⟨g, 4, none⟩ u4).setCell ⟨g, 5, none⟩ u5).setCell ⟨g, 6, none⟩ u6).setCell ⟨g, 7, none⟩ u7).setCell ⟨g, 8, none⟩ u8) := by
  have h := hs _ 0 u0 hT h
  have hT := hT.set g 0 u0
  have h := hs _ 1 u1 hT h
  have hT := hT.set g 1 u1
  have h := hs _ 2 u2 hT h
  have hT := hT.set g 2 u2
  have h := hs _ 3 u3 hT h
  have hT := hT.set g 3 u3
  have h := hs _ 4 u4 hT h
  have hT := hT.set g 4 u4
  have h := hs _ 5 u5 hT h
  have hT := hT.set g 5 u5
  have h := hs _ 6 u6 hT h
  have hT := hT.set g 6 u6
  have h := hs _ 7 u7 hT h
  have hT := hT.set g 7 u7
  exact hs _ 8 u8 hT h
end Go.Proofs.Ytlhjdmpclfhoeaa.Ext
