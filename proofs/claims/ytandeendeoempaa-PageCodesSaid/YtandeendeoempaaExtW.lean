/- Laws for structs of 3, 5, 12, 19, 20 and 32 cells in memory. -/
import Derived.Test.YtandeendeoempaaExt
namespace Go.Proofs.Ytandeendeoempaa.Ext
open Go.RowKit Go.Proofs.YtandeendeoempaaW.PrintWords Go.Proofs.YtandeendeoempaaW.PrintLast Go.Proofs.YtandeendeoempaaW.PrintMore
theorem cells7 {w : World} {g t : Nat} {z0 z1 z2 z3 z4 z5 z6 : Value} (h : w.heap[g]? = some (.cells #[z0, z1, z2, z3, z4, z5, z6] t (0, 0))) : w.cell? ⟨g, 0, none⟩ = some z0 ∧ w.cell? ⟨g, 1, none⟩ = some z1 ∧ w.cell? ⟨g, 2, none⟩ = some z2 ∧ w.cell? ⟨g, 3, none⟩ = some z3 ∧ w.cell? ⟨g, 4, none⟩ = some z4 ∧ w.cell? ⟨g, 5, none⟩ = some z5 ∧ w.cell? ⟨g, 6, none⟩ = some z6 := ⟨(blk_cell h 0).trans rfl, (blk_cell h 1).trans rfl, (blk_cell h 2).trans rfl, (blk_cell h 3).trans rfl, (blk_cell h 4).trans rfl, (blk_cell h 5).trans rfl, (blk_cell h 6).trans rfl⟩
theorem froz7 {w : World} {g t : Nat} {cs : Array Value} (h : w.heap[g]? = some (.cells cs t (0, 0))) : w.frozen? ⟨g, 0, none⟩ = false ∧ w.frozen? ⟨g, 1, none⟩ = false ∧ w.frozen? ⟨g, 2, none⟩ = false ∧ w.frozen? ⟨g, 3, none⟩ = false ∧ w.frozen? ⟨g, 4, none⟩ = false ∧ w.frozen? ⟨g, 5, none⟩ = false ∧ w.frozen? ⟨g, 6, none⟩ = false := ⟨blk_frozen h 0, blk_frozen h 1, blk_frozen h 2, blk_frozen h 3, blk_frozen h 4, blk_frozen h 5, blk_frozen h 6⟩
theorem set2 {w : World} {P : World → Prop} {g t : Nat} (hs : ∀ (W : World) (i : Nat) (u : Value), Typ W g t → P W → P (W.setCell ⟨g, i, none⟩ u)) (hT : Typ w g t) (h : P w) {u0 u1 : Value} : P ((w.setCell ⟨g, 0, none⟩ u0).setCell ⟨g, 1, none⟩ u1) := by
  have h := hs _ 0 u0 hT h
  have hT := hT.set g 0 u0
  exact hs _ 1 u1 hT h
theorem set3 {w : World} {P : World → Prop} {g t : Nat} (hs : ∀ (W : World) (i : Nat) (u : Value), Typ W g t → P W → P (W.setCell ⟨g, i, none⟩ u)) (hT : Typ w g t) (h : P w) {u0 u1 u2 : Value} : P (((w.setCell ⟨g, 0, none⟩ u0).setCell ⟨g, 1, none⟩ u1).setCell ⟨g, 2, none⟩ u2) := by
  have h := hs _ 0 u0 hT h
  have hT := hT.set g 0 u0
  have h := hs _ 1 u1 hT h
  have hT := hT.set g 1 u1
  exact hs _ 2 u2 hT h
theorem set4 {w : World} {P : World → Prop} {g t : Nat} (hs : ∀ (W : World) (i : Nat) (u : Value), Typ W g t → P W → P (W.setCell ⟨g, i, none⟩ u)) (hT : Typ w g t) (h : P w) {u0 u1 u2 u3 : Value} : P ((((w.setCell ⟨g, 0, none⟩ u0).setCell ⟨g, 1, none⟩ u1).setCell ⟨g, 2, none⟩ u2).setCell ⟨g, 3, none⟩ u3) := by
  have h := hs _ 0 u0 hT h
  have hT := hT.set g 0 u0
  have h := hs _ 1 u1 hT h
  have hT := hT.set g 1 u1
  have h := hs _ 2 u2 hT h
  have hT := hT.set g 2 u2
  exact hs _ 3 u3 hT h
theorem set5 {w : World} {P : World → Prop} {g t : Nat} (hs : ∀ (W : World) (i : Nat) (u : Value), Typ W g t → P W → P (W.setCell ⟨g, i, none⟩ u)) (hT : Typ w g t) (h : P w) {u0 u1 u2 u3 u4 : Value} : P (((((w.setCell ⟨g, 0, none⟩ u0).setCell ⟨g, 1, none⟩ u1).setCell ⟨g, 2, none⟩ u2).setCell ⟨g, 3, none⟩ u3).setCell ⟨g, 4, none⟩ u4) := by
  have h := hs _ 0 u0 hT h
  have hT := hT.set g 0 u0
  have h := hs _ 1 u1 hT h
  have hT := hT.set g 1 u1
  have h := hs _ 2 u2 hT h
  have hT := hT.set g 2 u2
  have h := hs _ 3 u3 hT h
  have hT := hT.set g 3 u3
  exact hs _ 4 u4 hT h
theorem set6 {w : World} {P : World → Prop} {g t : Nat} (hs : ∀ (W : World) (i : Nat) (u : Value), Typ W g t → P W → P (W.setCell ⟨g, i, none⟩ u)) (hT : Typ w g t) (h : P w) {u0 u1 u2 u3 u4 u5 : Value} : P ((((((w.setCell ⟨g, 0, none⟩ u0).setCell ⟨g, 1, none⟩ u1).setCell ⟨g, 2, none⟩ u2).setCell ⟨g, 3, none⟩ u3).setCell ⟨g, 4, none⟩ u4).setCell ⟨g, 5, none⟩ u5) := by
  have h := hs _ 0 u0 hT h
  have hT := hT.set g 0 u0
  have h := hs _ 1 u1 hT h
  have hT := hT.set g 1 u1
  have h := hs _ 2 u2 hT h
  have hT := hT.set g 2 u2
  have h := hs _ 3 u3 hT h
  have hT := hT.set g 3 u3
  have h := hs _ 4 u4 hT h
  have hT := hT.set g 4 u4
  exact hs _ 5 u5 hT h
end Go.Proofs.Ytandeendeoempaa.Ext
