-- Written by wip/printx.py, a program of this work over the kit's print, for this claim.
import Derived.Test.YtandeendeoempaaPCx0
namespace Go.Proofs.Ytandeendeoempaa.PC
open Go.RowKit Go.Proofs.YtandeendeoempaaW.PrintWords Go.Proofs.YtandeendeoempaaW.PrintLast Go.Proofs.YtandeendeoempaaW.PrintMore
attribute [local go_sem] max2_int min2_int max_two min_two max_three min_three max_four min_four   -- for this text's walks alone
attribute [local go_sem] Ext.pick_u8 Ext.pick_u32 Ext.pick_u64
set_option linter.unusedVariables false
set_option linter.unusedSimpArgs false

/-! ### page_things: function 24 -/
def page_things.g (x : Int) (n3 n4 n5 n6 : Nat) : Int × Bool :=
  if x = 1 then (if n4 = 0 ∧ n5 = 0 ∧ n6 = 0 then (n3, true) else (0, false))
  else if x = 2 then (if n3 = 0 ∧ n5 = 0 ∧ n6 = 0 then (n4, true) else (0, false))
  else if x = 3 then (if n3 = 0 ∧ n4 = 0 ∧ n6 = 0 then (n5, true) else (0, false))
  else if x = 4 then (if n3 = 0 ∧ n4 = 0 ∧ n5 = 0 then (n6, true) else (0, false))
  else (0, false)
theorem page_things.no_1 {n3 n4 n5 n6 : Nat} {r1 : Int} {r2 : Bool} (z : ¬ (n4 = 0 ∧ n5 = 0 ∧ n6 = 0)) (h : page_things.g 1 n3 n4 n5 n6 = (r1, r2)) : 0 = r1 ∧ false = r2 := by
  unfold page_things.g at h; rw [if_pos rfl, if_neg z] at h
  exact Prod.mk.inj h
theorem page_things.yes_1 {n3 n4 n5 n6 : Nat} {r1 : Int} {r2 : Bool} (z : n4 = 0 ∧ n5 = 0 ∧ n6 = 0) (h : page_things.g 1 n3 n4 n5 n6 = (r1, r2)) : (n3 : Int) = r1 ∧ true = r2 := by
  unfold page_things.g at h; rw [if_pos rfl, if_pos z] at h
  exact Prod.mk.inj h
theorem page_things.no_2 {n3 n4 n5 n6 : Nat} {r1 : Int} {r2 : Bool} (z : ¬ (n3 = 0 ∧ n5 = 0 ∧ n6 = 0)) (h : page_things.g 2 n3 n4 n5 n6 = (r1, r2)) : 0 = r1 ∧ false = r2 := by
  unfold page_things.g at h; rw [if_neg (by decide), if_pos rfl, if_neg z] at h
  exact Prod.mk.inj h
theorem page_things.yes_2 {n3 n4 n5 n6 : Nat} {r1 : Int} {r2 : Bool} (z : n3 = 0 ∧ n5 = 0 ∧ n6 = 0) (h : page_things.g 2 n3 n4 n5 n6 = (r1, r2)) : (n4 : Int) = r1 ∧ true = r2 := by
  unfold page_things.g at h; rw [if_neg (by decide), if_pos rfl, if_pos z] at h
  exact Prod.mk.inj h
theorem page_things.no_3 {n3 n4 n5 n6 : Nat} {r1 : Int} {r2 : Bool} (z : ¬ (n3 = 0 ∧ n4 = 0 ∧ n6 = 0)) (h : page_things.g 3 n3 n4 n5 n6 = (r1, r2)) : 0 = r1 ∧ false = r2 := by
  unfold page_things.g at h; rw [if_neg (by decide), if_neg (by decide), if_pos rfl, if_neg z] at h
  exact Prod.mk.inj h
theorem page_things.yes_3 {n3 n4 n5 n6 : Nat} {r1 : Int} {r2 : Bool} (z : n3 = 0 ∧ n4 = 0 ∧ n6 = 0) (h : page_things.g 3 n3 n4 n5 n6 = (r1, r2)) : (n5 : Int) = r1 ∧ true = r2 := by
  unfold page_things.g at h; rw [if_neg (by decide), if_neg (by decide), if_pos rfl, if_pos z] at h
  exact Prod.mk.inj h
theorem page_things.no_4 {n3 n4 n5 n6 : Nat} {r1 : Int} {r2 : Bool} (z : ¬ (n3 = 0 ∧ n4 = 0 ∧ n5 = 0)) (h : page_things.g 4 n3 n4 n5 n6 = (r1, r2)) : 0 = r1 ∧ false = r2 := by
  unfold page_things.g at h; rw [if_neg (by decide), if_neg (by decide), if_neg (by decide), if_pos rfl, if_neg z] at h
  exact Prod.mk.inj h
theorem page_things.yes_4 {n3 n4 n5 n6 : Nat} {r1 : Int} {r2 : Bool} (z : n3 = 0 ∧ n4 = 0 ∧ n5 = 0) (h : page_things.g 4 n3 n4 n5 n6 = (r1, r2)) : (n6 : Int) = r1 ∧ true = r2 := by
  unfold page_things.g at h; rw [if_neg (by decide), if_neg (by decide), if_neg (by decide), if_pos rfl, if_pos z] at h
  exact Prod.mk.inj h
set_option maxHeartbeats 8000000 in
set_option maxRecDepth 100000 in
theorem page_things.walk (x a1 a2 : Int) (A3 A4 A5 A6 : Option Addr) (c3 c4 c5 c6 n3 n4 n5 n6 : Nat) (r1 : Int) (r2 : Bool) (w : World) (h : page_things.g x n3 n4 n5 n6 = (r1, r2)) :
    Calls Try.prog 24 #[.agg #[.int .i64 x, .int .u64 a1, .int .i64 a2, .slice A3 n3 c3, .slice A4 n4 c4, .slice A5 n5 c5, .slice A6 n6 c6]] w fun e w' => e = .returned (.tuple #[.int .i64 r1, .bool r2]) ∧ Below w.heap.size w w' := by
  have hu28 := Try.underlying28; have hu84 := Try.underlying84; have HB := Aside0.mk (Below.refl w.heap.size w)
  rcases (by omega : (1 ≤ x ∧ x ≤ 4) ∨ x < 1 ∨ 4 < x) with hx | hx | hx
  · have b1 : decide (x < 1) = false := decide_eq_false (by omega)
    have b2 : decide (4 < x) = false := decide_eq_false (by omega); replace hx := Aside0.mk hx; have H := Aside0.mk h; clear h
    go_enter Try.func24, Try.ntmps24
    go_wp2_with (first | ((with_reducible refine gate_dst (N := 1) rfl ?_); refine box_event ?hg (N := 1) ?hd (cs := #[.int .i64 x, .int .u64 a1, .int .i64 a2, .slice A3 n3 c3, .slice A4 n4 c4, .slice A5 n5 c5, .slice A6 n6 c6]) (t := 28) ?hr ?_; (case hd => rfl); (case hg => rfl); (case hr => first | (go_simp; done) | (go_simp; rfl)); intro g1 hg w2 hbox hb; have B1 := Aside0.mk hbox; have G1 := Aside0.mk (Nat.le_of_eq hg.symm : w.heap.size ≤ g1); replace HB := Aside0.mk hb; clear hb hg hbox; have d0 : w2.cell? ⟨g1, 0, none⟩ = some (.int .i64 x) := (blk_cell B1.out 0).trans rfl; have d3 : w2.cell? ⟨g1, 3, none⟩ = some (.slice A3 n3 c3) := (blk_cell B1.out 3).trans rfl; have d4 : w2.cell? ⟨g1, 4, none⟩ = some (.slice A4 n4 c4) := (blk_cell B1.out 4).trans rfl; have d5 : w2.cell? ⟨g1, 5, none⟩ = some (.slice A5 n5 c5) := (blk_cell B1.out 5).trans rfl; have d6 : w2.cell? ⟨g1, 6, none⟩ = some (.slice A6 n6 c6) := (blk_cell B1.out 6).trans rfl) | ((with_reducible refine gate_dst (N := 4) rfl ?_); refine box_event ?hg (N := 4) ?hd (cs := #[.int .i64 0, .int .i64 0, .int .i64 0, .int .i64 0]) (t := 84) ?hr ?_; (case hd => rfl); (case hg => rfl); (case hr => first | (go_simp; done) | (go_simp; rfl)); intro gA hg w3 hbox hb; have BA := Aside0.mk hbox; have GA := Aside0.mk (by rw [hg]; exact below_size HB.out : w.heap.size ≤ gA); have NE := Aside0.mk (by rw [hg]; exact Nat.ne_of_lt (blk_lt B1.out) : g1 ≠ gA); replace B1 := Aside0.mk (blk_below B1.out hb); replace HB := Aside0.mk (below_step HB.out hb); clear hb hg hbox; clear d0 d3 d4 d5 d6; have d0 : w3.cell? ⟨g1, 0, none⟩ = some (.int .i64 x) := (blk_cell B1.out 0).trans rfl; have d3 : w3.cell? ⟨g1, 3, none⟩ = some (.slice A3 n3 c3) := (blk_cell B1.out 3).trans rfl; have d4 : w3.cell? ⟨g1, 4, none⟩ = some (.slice A4 n4 c4) := (blk_cell B1.out 4).trans rfl; have d5 : w3.cell? ⟨g1, 5, none⟩ = some (.slice A5 n5 c5) := (blk_cell B1.out 5).trans rfl; have d6 : w3.cell? ⟨g1, 6, none⟩ = some (.slice A6 n6 c6) := (blk_cell B1.out 6).trans rfl) | ((with_reducible refine gate_store (t := 84) (p := 4) rfl ?_); refine Ext.struct_store rfl rfl 84 (.tmp 4) (.tmp 19) rfl (g := gA) (e := 84) #[.int .i64 (n3 : Int), .int .i64 (n4 : Int), .int .i64 (n5 : Int), .int .i64 (n6 : Int)] rfl rfl BA.out rfl (by rfl) rfl ?_; intro w4 hb4 hk4 hl4; replace B1 := Aside0.mk (hk4.blk B1.out NE.out (by simp)); replace BA := Aside0.mk hb4; replace HB := Aside0.mk (hl4 _ _ HB.out GA.out); clear hb4 hk4 hl4; clear d0 d3 d4 d5 d6; have d0 : w4.cell? ⟨g1, 0, none⟩ = some (.int .i64 x) := (blk_cell B1.out 0).trans rfl; have d3 : w4.cell? ⟨g1, 3, none⟩ = some (.slice A3 n3 c3) := (blk_cell B1.out 3).trans rfl; have d4 : w4.cell? ⟨g1, 4, none⟩ = some (.slice A4 n4 c4) := (blk_cell B1.out 4).trans rfl; have d5 : w4.cell? ⟨g1, 5, none⟩ = some (.slice A5 n5 c5) := (blk_cell B1.out 5).trans rfl; have d6 : w4.cell? ⟨g1, 6, none⟩ = some (.slice A6 n6 c6) := (blk_cell B1.out 6).trans rfl) | ((with_reducible refine gate_dst (N := 28) rfl ?_); refine Ext.struct_load_blk rfl 84 (.tmp 4) rfl (g := gA) (e := 84) (cells := #[.int .i64 (n3 : Int), .int .i64 (n4 : Int), .int .i64 (n5 : Int), .int .i64 (n6 : Int)]) rfl hu84 rfl rfl BA.out ?_))
    clear d0 d3 d4 d5 d6
    go_loopg [29] 4 (fun kq v29 w' => (kq = 4 ∧ v29 = .int .i64 0 ∧ Aside0 (True) ∧ Aside0 (w'.heap[g1]? = some (.cells #[.int .i64 x, .int .u64 a1, .int .i64 a2, .slice A3 n3 c3, .slice A4 n4 c4, .slice A5 n5 c5, .slice A6 n6 c6] 28 (0, 0))) ∧ Aside0 (w'.heap[gA]? = some (.cells #[.int .i64 (n3 : Int), .int .i64 (n4 : Int), .int .i64 (n5 : Int), .int .i64 (n6 : Int)] 84 (0, 0))) ∧ Aside0 (Below w.heap.size w w')) ∨ (kq = 3 ∧ v29 = .int .i64 1 ∧ Aside0 ((n3 = 0 ∨ x = 1)) ∧ Aside0 (w'.heap[g1]? = some (.cells #[.int .i64 x, .int .u64 a1, .int .i64 a2, .slice A3 n3 c3, .slice A4 n4 c4, .slice A5 n5 c5, .slice A6 n6 c6] 28 (0, 0))) ∧ Aside0 (w'.heap[gA]? = some (.cells #[.int .i64 (n3 : Int), .int .i64 (n4 : Int), .int .i64 (n5 : Int), .int .i64 (n6 : Int)] 84 (0, 0))) ∧ Aside0 (Below w.heap.size w w')) ∨ (kq = 2 ∧ v29 = .int .i64 2 ∧ Aside0 ((n3 = 0 ∨ x = 1) ∧ (n4 = 0 ∨ x = 2)) ∧ Aside0 (w'.heap[g1]? = some (.cells #[.int .i64 x, .int .u64 a1, .int .i64 a2, .slice A3 n3 c3, .slice A4 n4 c4, .slice A5 n5 c5, .slice A6 n6 c6] 28 (0, 0))) ∧ Aside0 (w'.heap[gA]? = some (.cells #[.int .i64 (n3 : Int), .int .i64 (n4 : Int), .int .i64 (n5 : Int), .int .i64 (n6 : Int)] 84 (0, 0))) ∧ Aside0 (Below w.heap.size w w')) ∨ (kq = 1 ∧ v29 = .int .i64 3 ∧ Aside0 ((n3 = 0 ∨ x = 1) ∧ (n4 = 0 ∨ x = 2) ∧ (n5 = 0 ∨ x = 3)) ∧ Aside0 (w'.heap[g1]? = some (.cells #[.int .i64 x, .int .u64 a1, .int .i64 a2, .slice A3 n3 c3, .slice A4 n4 c4, .slice A5 n5 c5, .slice A6 n6 c6] 28 (0, 0))) ∧ Aside0 (w'.heap[gA]? = some (.cells #[.int .i64 (n3 : Int), .int .i64 (n4 : Int), .int .i64 (n5 : Int), .int .i64 (n6 : Int)] 84 (0, 0))) ∧ Aside0 (Below w.heap.size w w')) ∨ (kq = 0 ∧ v29 = .int .i64 4 ∧ Aside0 ((n3 = 0 ∨ x = 1) ∧ (n4 = 0 ∨ x = 2) ∧ (n5 = 0 ∨ x = 3) ∧ (n6 = 0 ∨ x = 4)) ∧ Aside0 (w'.heap[g1]? = some (.cells #[.int .i64 x, .int .u64 a1, .int .i64 a2, .slice A3 n3 c3, .slice A4 n4 c4, .slice A5 n5 c5, .slice A6 n6 c6] 28 (0, 0))) ∧ Aside0 (w'.heap[gA]? = some (.cells #[.int .i64 (n3 : Int), .int .i64 (n4 : Int), .int .i64 (n5 : Int), .int .i64 (n6 : Int)] 84 (0, 0))) ∧ Aside0 (Below w.heap.size w w')))
    case atStart => exact .inl ⟨rfl, rfl, ⟨trivial⟩, B1, BA, HB⟩
    case round =>
      clear B1 BA HB
      rcases hrel with ⟨rfl, rfl, Z, B1, BA, HB⟩ | ⟨rfl, rfl, Z, B1, BA, HB⟩ | ⟨rfl, rfl, Z, B1, BA, HB⟩ | ⟨rfl, rfl, Z, B1, BA, HB⟩ | ⟨rfl, rfl, Z, B1, BA, HB⟩
      · have d0 : World.cell? _ ⟨g1, 0, none⟩ = some (.int .i64 x) := (blk_cell B1.out 0).trans rfl
        have d3 : World.cell? _ ⟨g1, 3, none⟩ = some (.slice A3 n3 c3) := (blk_cell B1.out 3).trans rfl; have d4 : World.cell? _ ⟨g1, 4, none⟩ = some (.slice A4 n4 c4) := (blk_cell B1.out 4).trans rfl; have d5 : World.cell? _ ⟨g1, 5, none⟩ = some (.slice A5 n5 c5) := (blk_cell B1.out 5).trans rfl; have d6 : World.cell? _ ⟨g1, 6, none⟩ = some (.slice A6 n6 c6) := (blk_cell B1.out 6).trans rfl
        have hix : ∀ w_ : World, Sem.run Try.prog (Instr.index 84 (.agg #[.int .i64 (n3 : Int), .int .i64 (n4 : Int), .int .i64 (n5 : Int), .int .i64 (n6 : Int)]) (.int .i64 0)) w_ = .ok (.int .i64 (n3 : Int)) w_ := fun w_ => Ext.ix4_run hu84 Try.underlying3 (by rfl) ((n3 : Int), (n4 : Int), (n5 : Int), (n6 : Int)) 0 (by decide) (by decide) w_
        by_cases c : n3 = 0
        · have c0 : decide (0 < n3) = false := decide_eq_false (by omega)
          have c1 : decide ((0 : Int) < (n3 : Int)) = false := decide_eq_false (by omega); replace c := Aside0.mk c
          go_wp2
          go_roundg 3
          case measure => omega
          case rel => exact .inr (.inl ⟨rfl, rfl, ⟨.inl c.out⟩, B1, BA, HB⟩)
        · have c0 : decide (0 < n3) = true := decide_eq_true (by omega)
          have c1 : decide ((0 : Int) < (n3 : Int)) = true := decide_eq_true (by omega); have h := H.out; replace c := Aside0.mk c
          rcases (by have := hx.out; omega : x = 1 ∨ x = 2 ∨ x = 3 ∨ x = 4) with rfl | rfl | rfl | rfl
          · clear h
            go_wp2
            go_roundg 3
            case measure => omega
            case rel => exact .inr (.inl ⟨rfl, rfl, ⟨.inr (by first | trivial | rfl)⟩, B1, BA, HB⟩)
          · have c := c.out
            replace h := page_things.no_2 (by omega) h; obtain ⟨rfl, rfl⟩ := h; replace c := Aside0.mk c
            go_wp2
            go_ret2
            exact ⟨rfl, HB.out⟩
          · have c := c.out
            replace h := page_things.no_3 (by omega) h; obtain ⟨rfl, rfl⟩ := h; replace c := Aside0.mk c
            go_wp2
            go_ret2
            exact ⟨rfl, HB.out⟩
          · have c := c.out
            replace h := page_things.no_4 (by omega) h; obtain ⟨rfl, rfl⟩ := h; replace c := Aside0.mk c
            go_wp2
            go_ret2
            exact ⟨rfl, HB.out⟩
      · have d0 : World.cell? _ ⟨g1, 0, none⟩ = some (.int .i64 x) := (blk_cell B1.out 0).trans rfl
        have d3 : World.cell? _ ⟨g1, 3, none⟩ = some (.slice A3 n3 c3) := (blk_cell B1.out 3).trans rfl; have d4 : World.cell? _ ⟨g1, 4, none⟩ = some (.slice A4 n4 c4) := (blk_cell B1.out 4).trans rfl; have d5 : World.cell? _ ⟨g1, 5, none⟩ = some (.slice A5 n5 c5) := (blk_cell B1.out 5).trans rfl; have d6 : World.cell? _ ⟨g1, 6, none⟩ = some (.slice A6 n6 c6) := (blk_cell B1.out 6).trans rfl
        have hix : ∀ w_ : World, Sem.run Try.prog (Instr.index 84 (.agg #[.int .i64 (n3 : Int), .int .i64 (n4 : Int), .int .i64 (n5 : Int), .int .i64 (n6 : Int)]) (.int .i64 1)) w_ = .ok (.int .i64 (n4 : Int)) w_ := fun w_ => Ext.ix4_run hu84 Try.underlying3 (by rfl) ((n3 : Int), (n4 : Int), (n5 : Int), (n6 : Int)) 1 (by decide) (by decide) w_
        by_cases c : n4 = 0
        · have c0 : decide (0 < n4) = false := decide_eq_false (by omega)
          have c1 : decide ((0 : Int) < (n4 : Int)) = false := decide_eq_false (by omega); replace c := Aside0.mk c
          go_wp2
          go_roundg 2
          case measure => omega
          case rel => exact .inr (.inr (.inl ⟨rfl, rfl, ⟨⟨Z.out, .inl c.out⟩⟩, B1, BA, HB⟩))
        · have c0 : decide (0 < n4) = true := decide_eq_true (by omega)
          have c1 : decide ((0 : Int) < (n4 : Int)) = true := decide_eq_true (by omega); have h := H.out; replace c := Aside0.mk c
          rcases (by have := hx.out; omega : x = 1 ∨ x = 2 ∨ x = 3 ∨ x = 4) with rfl | rfl | rfl | rfl
          · have c := c.out
            replace h := page_things.no_1 (by omega) h; obtain ⟨rfl, rfl⟩ := h; replace c := Aside0.mk c
            go_wp2
            go_ret2
            exact ⟨rfl, HB.out⟩
          · clear h
            go_wp2
            go_roundg 2
            case measure => omega
            case rel => exact .inr (.inr (.inl ⟨rfl, rfl, ⟨⟨Z.out, .inr (by first | trivial | rfl)⟩⟩, B1, BA, HB⟩))
          · have c := c.out
            replace h := page_things.no_3 (by omega) h; obtain ⟨rfl, rfl⟩ := h; replace c := Aside0.mk c
            go_wp2
            go_ret2
            exact ⟨rfl, HB.out⟩
          · have c := c.out
            replace h := page_things.no_4 (by omega) h; obtain ⟨rfl, rfl⟩ := h; replace c := Aside0.mk c
            go_wp2
            go_ret2
            exact ⟨rfl, HB.out⟩
      · have d0 : World.cell? _ ⟨g1, 0, none⟩ = some (.int .i64 x) := (blk_cell B1.out 0).trans rfl
        have d3 : World.cell? _ ⟨g1, 3, none⟩ = some (.slice A3 n3 c3) := (blk_cell B1.out 3).trans rfl; have d4 : World.cell? _ ⟨g1, 4, none⟩ = some (.slice A4 n4 c4) := (blk_cell B1.out 4).trans rfl; have d5 : World.cell? _ ⟨g1, 5, none⟩ = some (.slice A5 n5 c5) := (blk_cell B1.out 5).trans rfl; have d6 : World.cell? _ ⟨g1, 6, none⟩ = some (.slice A6 n6 c6) := (blk_cell B1.out 6).trans rfl
        have hix : ∀ w_ : World, Sem.run Try.prog (Instr.index 84 (.agg #[.int .i64 (n3 : Int), .int .i64 (n4 : Int), .int .i64 (n5 : Int), .int .i64 (n6 : Int)]) (.int .i64 2)) w_ = .ok (.int .i64 (n5 : Int)) w_ := fun w_ => Ext.ix4_run hu84 Try.underlying3 (by rfl) ((n3 : Int), (n4 : Int), (n5 : Int), (n6 : Int)) 2 (by decide) (by decide) w_
        by_cases c : n5 = 0
        · have c0 : decide (0 < n5) = false := decide_eq_false (by omega)
          have c1 : decide ((0 : Int) < (n5 : Int)) = false := decide_eq_false (by omega); replace c := Aside0.mk c
          go_wp2
          go_roundg 1
          case measure => omega
          case rel => exact .inr (.inr (.inr (.inl ⟨rfl, rfl, ⟨⟨Z.out.1, Z.out.2, .inl c.out⟩⟩, B1, BA, HB⟩)))
        · have c0 : decide (0 < n5) = true := decide_eq_true (by omega)
          have c1 : decide ((0 : Int) < (n5 : Int)) = true := decide_eq_true (by omega); have h := H.out; replace c := Aside0.mk c
          rcases (by have := hx.out; omega : x = 1 ∨ x = 2 ∨ x = 3 ∨ x = 4) with rfl | rfl | rfl | rfl
          · have c := c.out
            replace h := page_things.no_1 (by omega) h; obtain ⟨rfl, rfl⟩ := h; replace c := Aside0.mk c
            go_wp2
            go_ret2
            exact ⟨rfl, HB.out⟩
          · have c := c.out
            replace h := page_things.no_2 (by omega) h; obtain ⟨rfl, rfl⟩ := h; replace c := Aside0.mk c
            go_wp2
            go_ret2
            exact ⟨rfl, HB.out⟩
          · clear h
            go_wp2
            go_roundg 1
            case measure => omega
            case rel => exact .inr (.inr (.inr (.inl ⟨rfl, rfl, ⟨⟨Z.out.1, Z.out.2, .inr (by first | trivial | rfl)⟩⟩, B1, BA, HB⟩)))
          · have c := c.out
            replace h := page_things.no_4 (by omega) h; obtain ⟨rfl, rfl⟩ := h; replace c := Aside0.mk c
            go_wp2
            go_ret2
            exact ⟨rfl, HB.out⟩
      · have d0 : World.cell? _ ⟨g1, 0, none⟩ = some (.int .i64 x) := (blk_cell B1.out 0).trans rfl
        have d3 : World.cell? _ ⟨g1, 3, none⟩ = some (.slice A3 n3 c3) := (blk_cell B1.out 3).trans rfl; have d4 : World.cell? _ ⟨g1, 4, none⟩ = some (.slice A4 n4 c4) := (blk_cell B1.out 4).trans rfl; have d5 : World.cell? _ ⟨g1, 5, none⟩ = some (.slice A5 n5 c5) := (blk_cell B1.out 5).trans rfl; have d6 : World.cell? _ ⟨g1, 6, none⟩ = some (.slice A6 n6 c6) := (blk_cell B1.out 6).trans rfl
        have hix : ∀ w_ : World, Sem.run Try.prog (Instr.index 84 (.agg #[.int .i64 (n3 : Int), .int .i64 (n4 : Int), .int .i64 (n5 : Int), .int .i64 (n6 : Int)]) (.int .i64 3)) w_ = .ok (.int .i64 (n6 : Int)) w_ := fun w_ => Ext.ix4_run hu84 Try.underlying3 (by rfl) ((n3 : Int), (n4 : Int), (n5 : Int), (n6 : Int)) 3 (by decide) (by decide) w_
        by_cases c : n6 = 0
        · have c0 : decide (0 < n6) = false := decide_eq_false (by omega)
          have c1 : decide ((0 : Int) < (n6 : Int)) = false := decide_eq_false (by omega); replace c := Aside0.mk c
          go_wp2
          go_roundg 0
          case measure => omega
          case rel => exact .inr (.inr (.inr (.inr (⟨rfl, rfl, ⟨⟨Z.out.1, Z.out.2.1, Z.out.2.2, .inl c.out⟩⟩, B1, BA, HB⟩))))
        · have c0 : decide (0 < n6) = true := decide_eq_true (by omega)
          have c1 : decide ((0 : Int) < (n6 : Int)) = true := decide_eq_true (by omega); have h := H.out; replace c := Aside0.mk c
          rcases (by have := hx.out; omega : x = 1 ∨ x = 2 ∨ x = 3 ∨ x = 4) with rfl | rfl | rfl | rfl
          · have c := c.out
            replace h := page_things.no_1 (by omega) h; obtain ⟨rfl, rfl⟩ := h; replace c := Aside0.mk c
            go_wp2
            go_ret2
            exact ⟨rfl, HB.out⟩
          · have c := c.out
            replace h := page_things.no_2 (by omega) h; obtain ⟨rfl, rfl⟩ := h; replace c := Aside0.mk c
            go_wp2
            go_ret2
            exact ⟨rfl, HB.out⟩
          · have c := c.out
            replace h := page_things.no_3 (by omega) h; obtain ⟨rfl, rfl⟩ := h; replace c := Aside0.mk c
            go_wp2
            go_ret2
            exact ⟨rfl, HB.out⟩
          · clear h
            go_wp2
            go_roundg 0
            case measure => omega
            case rel => exact .inr (.inr (.inr (.inr (⟨rfl, rfl, ⟨⟨Z.out.1, Z.out.2.1, Z.out.2.2, .inr (by first | trivial | rfl)⟩⟩, B1, BA, HB⟩))))
      · have d0 : World.cell? _ ⟨g1, 0, none⟩ = some (.int .i64 x) := (blk_cell B1.out 0).trans rfl
        have d3 : World.cell? _ ⟨g1, 3, none⟩ = some (.slice A3 n3 c3) := (blk_cell B1.out 3).trans rfl; have d4 : World.cell? _ ⟨g1, 4, none⟩ = some (.slice A4 n4 c4) := (blk_cell B1.out 4).trans rfl; have d5 : World.cell? _ ⟨g1, 5, none⟩ = some (.slice A5 n5 c5) := (blk_cell B1.out 5).trans rfl; have d6 : World.cell? _ ⟨g1, 6, none⟩ = some (.slice A6 n6 c6) := (blk_cell B1.out 6).trans rfl; have h := H.out; have Z' := Z.out
        rcases (by have := hx.out; omega : x = 1 ∨ x = 2 ∨ x = 3 ∨ x = 4) with rfl | rfl | rfl | rfl
        · replace h := page_things.yes_1 (by omega) h
          obtain ⟨rfl, rfl⟩ := h; clear Z'; have dA : World.cell? _ ⟨gA, 0, none⟩ = some (.int .i64 (n3 : Int)) := (blk_cell BA.out 0).trans rfl
          go_wp2
          go_ret2
          exact ⟨rfl, HB.out⟩
        · replace h := page_things.yes_2 (by omega) h
          obtain ⟨rfl, rfl⟩ := h; clear Z'; have dA : World.cell? _ ⟨gA, 1, none⟩ = some (.int .i64 (n4 : Int)) := (blk_cell BA.out 1).trans rfl
          go_wp2
          go_ret2
          exact ⟨rfl, HB.out⟩
        · replace h := page_things.yes_3 (by omega) h
          obtain ⟨rfl, rfl⟩ := h; clear Z'; have dA : World.cell? _ ⟨gA, 2, none⟩ = some (.int .i64 (n5 : Int)) := (blk_cell BA.out 2).trans rfl
          go_wp2
          go_ret2
          exact ⟨rfl, HB.out⟩
        · replace h := page_things.yes_4 (by omega) h
          obtain ⟨rfl, rfl⟩ := h; clear Z'; have dA : World.cell? _ ⟨gA, 3, none⟩ = some (.int .i64 (n6 : Int)) := (blk_cell BA.out 3).trans rfl
          go_wp2
          go_ret2
          exact ⟨rfl, HB.out⟩
  · unfold page_things.g at h
    rw [if_neg (by omega), if_neg (by omega), if_neg (by omega), if_neg (by omega)] at h; obtain ⟨rfl, rfl⟩ := Prod.mk.inj h; clear h; have b1 : decide (x < 1) = true := decide_eq_true (by omega); have b2 : decide (4 < x) = false := decide_eq_false (by omega); clear hx
    go_enter Try.func24, Try.ntmps24
    go_wp2_with (first | ((with_reducible refine gate_dst (N := 1) rfl ?_); refine box_event ?hg (N := 1) ?hd (cs := #[.int .i64 x, .int .u64 a1, .int .i64 a2, .slice A3 n3 c3, .slice A4 n4 c4, .slice A5 n5 c5, .slice A6 n6 c6]) (t := 28) ?hr ?_; (case hd => rfl); (case hg => rfl); (case hr => first | (go_simp; done) | (go_simp; rfl)); intro g1 hg w2 hbox hb; have B1 := Aside0.mk hbox; have G1 := Aside0.mk (Nat.le_of_eq hg.symm : w.heap.size ≤ g1); replace HB := Aside0.mk hb; clear hb hg hbox; have d0 : w2.cell? ⟨g1, 0, none⟩ = some (.int .i64 x) := (blk_cell B1.out 0).trans rfl; have d3 : w2.cell? ⟨g1, 3, none⟩ = some (.slice A3 n3 c3) := (blk_cell B1.out 3).trans rfl; have d4 : w2.cell? ⟨g1, 4, none⟩ = some (.slice A4 n4 c4) := (blk_cell B1.out 4).trans rfl; have d5 : w2.cell? ⟨g1, 5, none⟩ = some (.slice A5 n5 c5) := (blk_cell B1.out 5).trans rfl; have d6 : w2.cell? ⟨g1, 6, none⟩ = some (.slice A6 n6 c6) := (blk_cell B1.out 6).trans rfl) | ((with_reducible refine gate_dst (N := 4) rfl ?_); refine box_event ?hg (N := 4) ?hd (cs := #[.int .i64 0, .int .i64 0, .int .i64 0, .int .i64 0]) (t := 84) ?hr ?_; (case hd => rfl); (case hg => rfl); (case hr => first | (go_simp; done) | (go_simp; rfl)); intro gA hg w3 hbox hb; have BA := Aside0.mk hbox; have GA := Aside0.mk (by rw [hg]; exact below_size HB.out : w.heap.size ≤ gA); have NE := Aside0.mk (by rw [hg]; exact Nat.ne_of_lt (blk_lt B1.out) : g1 ≠ gA); replace B1 := Aside0.mk (blk_below B1.out hb); replace HB := Aside0.mk (below_step HB.out hb); clear hb hg hbox; clear d0 d3 d4 d5 d6; have d0 : w3.cell? ⟨g1, 0, none⟩ = some (.int .i64 x) := (blk_cell B1.out 0).trans rfl; have d3 : w3.cell? ⟨g1, 3, none⟩ = some (.slice A3 n3 c3) := (blk_cell B1.out 3).trans rfl; have d4 : w3.cell? ⟨g1, 4, none⟩ = some (.slice A4 n4 c4) := (blk_cell B1.out 4).trans rfl; have d5 : w3.cell? ⟨g1, 5, none⟩ = some (.slice A5 n5 c5) := (blk_cell B1.out 5).trans rfl; have d6 : w3.cell? ⟨g1, 6, none⟩ = some (.slice A6 n6 c6) := (blk_cell B1.out 6).trans rfl) | ((with_reducible refine gate_store (t := 84) (p := 4) rfl ?_); refine Ext.struct_store rfl rfl 84 (.tmp 4) (.tmp 19) rfl (g := gA) (e := 84) #[.int .i64 (n3 : Int), .int .i64 (n4 : Int), .int .i64 (n5 : Int), .int .i64 (n6 : Int)] rfl rfl BA.out rfl (by rfl) rfl ?_; intro w4 hb4 hk4 hl4; replace B1 := Aside0.mk (hk4.blk B1.out NE.out (by simp)); replace BA := Aside0.mk hb4; replace HB := Aside0.mk (hl4 _ _ HB.out GA.out); clear hb4 hk4 hl4; clear d0 d3 d4 d5 d6; have d0 : w4.cell? ⟨g1, 0, none⟩ = some (.int .i64 x) := (blk_cell B1.out 0).trans rfl; have d3 : w4.cell? ⟨g1, 3, none⟩ = some (.slice A3 n3 c3) := (blk_cell B1.out 3).trans rfl; have d4 : w4.cell? ⟨g1, 4, none⟩ = some (.slice A4 n4 c4) := (blk_cell B1.out 4).trans rfl; have d5 : w4.cell? ⟨g1, 5, none⟩ = some (.slice A5 n5 c5) := (blk_cell B1.out 5).trans rfl; have d6 : w4.cell? ⟨g1, 6, none⟩ = some (.slice A6 n6 c6) := (blk_cell B1.out 6).trans rfl))
    go_ret2
    exact ⟨rfl, HB.out⟩
  · unfold page_things.g at h
    rw [if_neg (by omega), if_neg (by omega), if_neg (by omega), if_neg (by omega)] at h; obtain ⟨rfl, rfl⟩ := Prod.mk.inj h; clear h; have b1 : decide (x < 1) = false := decide_eq_false (by omega); have b2 : decide (4 < x) = true := decide_eq_true (by omega); clear hx
    go_enter Try.func24, Try.ntmps24
    go_wp2_with (first | ((with_reducible refine gate_dst (N := 1) rfl ?_); refine box_event ?hg (N := 1) ?hd (cs := #[.int .i64 x, .int .u64 a1, .int .i64 a2, .slice A3 n3 c3, .slice A4 n4 c4, .slice A5 n5 c5, .slice A6 n6 c6]) (t := 28) ?hr ?_; (case hd => rfl); (case hg => rfl); (case hr => first | (go_simp; done) | (go_simp; rfl)); intro g1 hg w2 hbox hb; have B1 := Aside0.mk hbox; have G1 := Aside0.mk (Nat.le_of_eq hg.symm : w.heap.size ≤ g1); replace HB := Aside0.mk hb; clear hb hg hbox; have d0 : w2.cell? ⟨g1, 0, none⟩ = some (.int .i64 x) := (blk_cell B1.out 0).trans rfl; have d3 : w2.cell? ⟨g1, 3, none⟩ = some (.slice A3 n3 c3) := (blk_cell B1.out 3).trans rfl; have d4 : w2.cell? ⟨g1, 4, none⟩ = some (.slice A4 n4 c4) := (blk_cell B1.out 4).trans rfl; have d5 : w2.cell? ⟨g1, 5, none⟩ = some (.slice A5 n5 c5) := (blk_cell B1.out 5).trans rfl; have d6 : w2.cell? ⟨g1, 6, none⟩ = some (.slice A6 n6 c6) := (blk_cell B1.out 6).trans rfl) | ((with_reducible refine gate_dst (N := 4) rfl ?_); refine box_event ?hg (N := 4) ?hd (cs := #[.int .i64 0, .int .i64 0, .int .i64 0, .int .i64 0]) (t := 84) ?hr ?_; (case hd => rfl); (case hg => rfl); (case hr => first | (go_simp; done) | (go_simp; rfl)); intro gA hg w3 hbox hb; have BA := Aside0.mk hbox; have GA := Aside0.mk (by rw [hg]; exact below_size HB.out : w.heap.size ≤ gA); have NE := Aside0.mk (by rw [hg]; exact Nat.ne_of_lt (blk_lt B1.out) : g1 ≠ gA); replace B1 := Aside0.mk (blk_below B1.out hb); replace HB := Aside0.mk (below_step HB.out hb); clear hb hg hbox; clear d0 d3 d4 d5 d6; have d0 : w3.cell? ⟨g1, 0, none⟩ = some (.int .i64 x) := (blk_cell B1.out 0).trans rfl; have d3 : w3.cell? ⟨g1, 3, none⟩ = some (.slice A3 n3 c3) := (blk_cell B1.out 3).trans rfl; have d4 : w3.cell? ⟨g1, 4, none⟩ = some (.slice A4 n4 c4) := (blk_cell B1.out 4).trans rfl; have d5 : w3.cell? ⟨g1, 5, none⟩ = some (.slice A5 n5 c5) := (blk_cell B1.out 5).trans rfl; have d6 : w3.cell? ⟨g1, 6, none⟩ = some (.slice A6 n6 c6) := (blk_cell B1.out 6).trans rfl) | ((with_reducible refine gate_store (t := 84) (p := 4) rfl ?_); refine Ext.struct_store rfl rfl 84 (.tmp 4) (.tmp 19) rfl (g := gA) (e := 84) #[.int .i64 (n3 : Int), .int .i64 (n4 : Int), .int .i64 (n5 : Int), .int .i64 (n6 : Int)] rfl rfl BA.out rfl (by rfl) rfl ?_; intro w4 hb4 hk4 hl4; replace B1 := Aside0.mk (hk4.blk B1.out NE.out (by simp)); replace BA := Aside0.mk hb4; replace HB := Aside0.mk (hl4 _ _ HB.out GA.out); clear hb4 hk4 hl4; clear d0 d3 d4 d5 d6; have d0 : w4.cell? ⟨g1, 0, none⟩ = some (.int .i64 x) := (blk_cell B1.out 0).trans rfl; have d3 : w4.cell? ⟨g1, 3, none⟩ = some (.slice A3 n3 c3) := (blk_cell B1.out 3).trans rfl; have d4 : w4.cell? ⟨g1, 4, none⟩ = some (.slice A4 n4 c4) := (blk_cell B1.out 4).trans rfl; have d5 : w4.cell? ⟨g1, 5, none⟩ = some (.slice A5 n5 c5) := (blk_cell B1.out 5).trans rfl; have d6 : w4.cell? ⟨g1, 6, none⟩ = some (.slice A6 n6 c6) := (blk_cell B1.out 6).trans rfl))
    go_ret2
    exact ⟨rfl, HB.out⟩
def page_things.f (a0_0 a0_1 a0_2 : Int) (l0_3 : List S44) (l0_4 : List S60) (l0_5 : List Int) (l0_6 : List Int) : Option (Int × Bool) := some (page_things.g a0_0 l0_3.length l0_4.length l0_5.length l0_6.length)
theorem page_things.calls (a0_0 a0_1 a0_2 : Int) (A0_3 : Option Addr) (c0_3 : Nat) (l0_3 : List S44) (A0_4 : Option Addr) (c0_4 : Nat) (l0_4 : List S60) (A0_5 : Option Addr) (c0_5 : Nat) (l0_5 : List Int) (A0_6 : Option Addr) (c0_6 : Nat) (l0_6 : List Int) (r1 : Int) (r2 : Bool) (w : World) (_hr0_3 : Kd.C k44 w A0_3 l0_3.length l0_3) (_hc0_3 : l0_3.length ≤ c0_3) (_hr0_4 : Kd.C k60 w A0_4 l0_4.length l0_4) (_hc0_4 : l0_4.length ≤ c0_4) (_hr0_5 : Kd.C (Kd.int .u8) w A0_5 l0_5.length l0_5) (_hc0_5 : l0_5.length ≤ c0_5) (_hr0_6 : Kd.C (Kd.int .i64) w A0_6 l0_6.length l0_6) (_hc0_6 : l0_6.length ≤ c0_6) (h : page_things.f a0_0 a0_1 a0_2 l0_3 l0_4 l0_5 l0_6 = some (r1, r2)) :
    Calls Try.prog 24 #[.agg #[.int .i64 a0_0, .int .u64 a0_1, .int .i64 a0_2, .slice A0_3 l0_3.length c0_3, .slice A0_4 l0_4.length c0_4, .slice A0_5 l0_5.length c0_5, .slice A0_6 l0_6.length c0_6]] w fun e w' => e = .returned (.tuple #[.int .i64 r1, .bool r2]) ∧ Below w.heap.size w w' :=
  page_things.walk _ _ _ _ _ _ _ _ _ _ _ _ _ _ _ _ _ w (Option.some.inj h)



/-! ### page_key: function 30 -/
def page_key.f (l0 : List Int) : Option (Bool) := some (decide ((l0.length : Int) ≤ 32))
set_option maxHeartbeats 8000000 in
set_option maxRecDepth 100000 in
theorem page_key.calls (A0 : Option Addr) (c0 : Nat) (l0 : List Int) (r : Bool) (w : World) (hr0 : Kd.C (Kd.int .u8) w A0 l0.length l0) (hc0 : l0.length ≤ c0) (h : page_key.f l0 = some r) :
  Calls Try.prog 30 #[.slice A0 l0.length c0] w fun e w' => e = .returned (.bool r) ∧ Drawn0 w w' := by
 have HR0 := Aside0.mk hr0; have HC0 := Aside0.mk hc0; clear hr0 hc0; have H := h; unfold page_key.f at H; clear h; obtain rfl := Option.some.inj H
 go_enter Try.func30, Try.ntmps30
 go_wp2
 go_ret
 exact ⟨by first | rfl | (simp; done) | (simp [*]; done), by repeat (first | exact Drawn0.refl _ | apply Drawn0.step)⟩



/-! ### page_id: function 31 -/
def page_id.f (a0 : Int) : Option (Bool) := if a0 ≥ 1 then (some (decide (a0 < 1024))) else (some false)
set_option maxHeartbeats 8000000 in
set_option maxRecDepth 100000 in
theorem page_id.calls (a0 : Int) (r : Bool) (w : World) (h : page_id.f a0 = some r) :
  Calls Try.prog 31 #[.int .i64 a0] w fun e w' => e = .returned (.bool r) ∧ Drawn0 w w' := by
 have H := h; unfold page_id.f at H; clear h
 by_cases c2 : a0 ≥ 1
 case' _ =>
  rw [if_pos c2] at H; have c2b0 := decide_eq_true c2; clear c2
 rotate_left 1
 case' _ =>
  rw [if_neg c2] at H; have c2b0 := decide_eq_false c2; clear c2
 all_goals (obtain rfl := Option.some.inj H; go_enter Try.func31, Try.ntmps31; go_wp2; go_ret; exact ⟨by first | rfl | (simp; done) | (simp [*]; done), by repeat (first | exact Drawn0.refl _ | apply Drawn0.step)⟩)
end Go.Proofs.Ytandeendeoempaa.PC
