-- Written by wip/printx.py, a program of this work over the kit's print, for this claim.
import Derived.Test.YtlhjdmpclfhoeaaProg
import Derived.Below
import Derived.Deep.Draws
import Derived.Deep.AppendLies
import Derived.Maps.AppendAt
import Derived.OwnWalk
import Derived.Laws.BytesArg
import Derived.Laws.MakeOwn
import Derived.Laws.OwnMore
import Derived.Deep.OwnRows
import Derived.Tactics
import Derived.Lib.ConvBytes
import Derived.Laws.Slices
import Derived.WalkKit
import Derived.KernelRfl
import Derived.RowKit3
import Derived.Deep.LoopGhost
import Derived.Deep.QuietTactic
import Derived.BigQuiet
import Derived.WideLaws
import Derived.Deep.DeepCutAuto
import Derived.Deep.CutBlock
import Derived.Deep.RegionHeld3
import Derived.Laws.Rows
import Derived.Lib.AppendStr
import Derived.ArgAppend
import Derived.Laws.IdiomCopy
import Derived.OrdersHeld
import Derived.Laws.BitsLemmas
import Derived.RowKit
import Derived.Test.YtlhjdmpclfhoeaaExt
import Derived.Test.YtlhjdmpclfhoeaaExtW
import Derived.Test.YtlhjdmpclfhoeaaOpen
import Derived.Test.YtlhjdmpclfhoeaaWWords
import Derived.Test.YtlhjdmpclfhoeaaWLast
import Derived.Test.YtlhjdmpclfhoeaaWTab
import Derived.Test.YtlhjdmpclfhoeaaWFour
import Derived.Test.YtlhjdmpclfhoeaaWQPut
import Derived.Test.YtlhjdmpclfhoeaaWApart
import Derived.Test.YtlhjdmpclfhoeaaWArr
import Derived.Test.YtlhjdmpclfhoeaaWZeros
import Derived.Test.YtlhjdmpclfhoeaaWFoot
import Derived.Test.YtlhjdmpclfhoeaaWKept
import Derived.Test.YtlhjdmpclfhoeaaWShare
import Derived.Test.YtlhjdmpclfhoeaaWN
import Derived.Test.YtlhjdmpclfhoeaaWFootNe
import Derived.Test.YtlhjdmpclfhoeaaWAt
import Derived.Test.YtlhjdmpclfhoeaaWEqStruct
import Derived.Test.YtlhjdmpclfhoeaaWRepsOne
import Derived.Test.YtlhjdmpclfhoeaaWInv
import Derived.Test.YtlhjdmpclfhoeaaWInvWords
import Derived.Test.YtlhjdmpclfhoeaaWGuard
import Derived.Test.YtlhjdmpclfhoeaaWNEv
import Derived.Test.YtlhjdmpclfhoeaaWMore
namespace Go.Proofs.Ytlhjdmpclfhoeaa.PJ
open Go.RowKit Go.Proofs.YtlhjdmpclfhoeaaW.PrintWords Go.Proofs.YtlhjdmpclfhoeaaW.PrintLast Go.Proofs.YtlhjdmpclfhoeaaW.PrintMore
attribute [local go_sem] max2_int min2_int max_two min_two max_three min_three max_four min_four   -- for this text's walks alone
attribute [local go_sem] Ext.pick_u8 Ext.pick_u32 Ext.pick_u64
set_option linter.unusedVariables false
set_option linter.unusedSimpArgs false



def errW : Option Int → Value
  | none => .nilIface
  | some c => .iface 0 (.int .i64 c)
theorem errW_none : errW none = .nilIface := rfl
theorem errW_some (c : Int) : errW (some c) = .iface 0 (.int .i64 c) := rfl

theorem info2 : (Try.prog.info? 2).map (fun i => (i.zero, i.size, i.bytes)) = some (some (.int .i64 0), 1, 8) := by kernel_rfl
theorem info5 : (Try.prog.info? 5).map (fun i => (i.zero, i.size, i.bytes)) = some (some (.int .u8 0), 1, 1) := by kernel_rfl
theorem info27 : (Try.prog.info? 27).map (fun i => (i.zero, i.size, i.bytes)) = some (some (.agg #[(.int .i64 0), (.slice none 0 0), (.int .i64 0), (.bool false), (.slice none 0 0), (.int .i64 0)]), 6, 80) := by kernel_rfl
theorem info79 : (Try.prog.info? 79).map (fun i => (i.zero, i.size, i.bytes)) = some (some (.agg #[(.slice none 0 0), (.slice none 0 0), (.int .i64 0), (.int .i64 0), (.int .i64 0), (.int .i64 0)]), 6, 80) := by kernel_rfl
theorem info81 : (Try.prog.info? 81).map (fun i => (i.zero, i.size, i.bytes)) = some (some (.agg #[(.int .i64 0), (.slice none 0 0), (.slice none 0 0), (.int .i64 0), (.int .i64 0), (.int .i64 0), (.int .i64 0), (.bool false), (.slice none 0 0), (.slice none 0 0), (.int .i64 0), (.int .i64 0), (.int .i64 0), (.int .i64 0)]), 14, 176) := by kernel_rfl
-- the values' own types
def rd_L1 (xs : List (List Int)) (i : Int) : (List Int) := xs.getD i.toNat ([] : List Int)
theorem at_L1 {w : World} {A : Option Addr} {n : Nat} {xs : List (List Int)} (h : Kd.C (Kd.slice 5 (Kd.int .u8)) w A n xs) (i : Int) (h0 : 0 ≤ i) (h1 : i < n) : ∃ ad A0 c0, A = some ad ∧ w.cell? (ad.add i.toNat) = some (.slice A0 (rd_L1 xs i).length c0) ∧ (rd_L1 xs i).length ≤ c0 ∧ (Kd.int .u8).C w A0 (rd_L1 xs i).length (rd_L1 xs i) := by
  obtain ⟨ad, c, e, _, hK, hc0⟩ := Kd.C_get h ([] : List Int) i h0 h1; have hc : ∀ j u, c[j]? = some u → w.cell? (ad.add (i.toNat * 1 + j)) = some u := hc0; obtain ⟨A0, c0, rfl, l0, g0⟩ := hK
  exact ⟨ad, A0, c0, e, by have hq := hc 0 _ rfl; rwa [Nat.mul_one, Nat.add_zero] at hq, l0, g0⟩

/-! #### struct type 79 -/
structure S79 where
  f0 : (List Int)
  f1 : (List Int)
  f2 : Int
  f3 : Int
  f4 : Int
  f5 : Int
def z79 : S79 := ⟨([] : List Int), ([] : List Int), (0 : Int), (0 : Int), (0 : Int), (0 : Int)⟩
def k79 : Kd S79 := Kd.iso (Kd.pair (Kd.slice 5 (Kd.int .u8)) (Kd.pair (Kd.slice 5 (Kd.int .u8)) (Kd.pair (Kd.int .i64) (Kd.pair (Kd.int .i64) (Kd.pair (Kd.int .i64) (Kd.int .i64)))))) (fun x : S79 => (x.f0, x.f1, x.f2, x.f3, x.f4, x.f5))
theorem k79_heap : Kd.Heap k79 := Kd.heap_iso _ (Kd.heap_pair (Kd.heap_slice 5 (Kd.heap_int .u8)) (Kd.heap_pair (Kd.heap_slice 5 (Kd.heap_int .u8)) (Kd.heap_pair (Kd.heap_int .i64) (Kd.heap_pair (Kd.heap_int .i64) (Kd.heap_pair (Kd.heap_int .i64) (Kd.heap_int .i64))))))
theorem k79_open {w : World} {x : S79} {cs : List Value} (h : k79.K w x cs) : ∃ A0 c0 A1 c1, cs = [.slice A0 x.f0.length c0, .slice A1 x.f1.length c1, .int .i64 x.f2, .int .i64 x.f3, .int .i64 x.f4, .int .i64 x.f5] ∧ x.f0.length ≤ c0 ∧ (Kd.int .u8).C w A0 x.f0.length x.f0 ∧ x.f1.length ≤ c1 ∧ (Kd.int .u8).C w A1 x.f1.length x.f1 := by
  obtain ⟨_, _, rfl, ⟨A0, c0, rfl, l0, g0⟩, ⟨_, _, rfl, ⟨A1, c1, rfl, l1, g1⟩, ⟨_, _, rfl, rfl, ⟨_, _, rfl, rfl, ⟨_, _, rfl, rfl, rfl⟩⟩⟩⟩⟩ := h
  exact ⟨A0, c0, A1, c1, rfl, l0, g0, l1, g1⟩
theorem k79_openM {w : World} {base : Nat} {ok : Nat → Prop} {x : S79} {cs : List Value} (h : k79.M w base ok x cs) : ∃ v0 v1, cs = [v0, v1, .int .i64 x.f2, .int .i64 x.f3, .int .i64 x.f4, .int .i64 x.f5] ∧ (Kd.int .u8).R 5 w base ok v0 x.f0 ∧ (Kd.int .u8).R 5 w base ok v1 x.f1 := by
  obtain ⟨_, _, rfl, ⟨v0, rfl, g0⟩, ⟨_, _, rfl, ⟨v1, rfl, g1⟩, ⟨_, _, rfl, rfl, ⟨_, _, rfl, rfl, ⟨_, _, rfl, rfl, rfl⟩⟩⟩⟩⟩ := h
  exact ⟨v0, v1, rfl, g0, g1⟩
theorem k79_mk (w : World) (x : S79) {A0 : Option Addr} {c0 : Nat} (l0 : x.f0.length ≤ c0) (g0 : (Kd.int .u8).C w A0 x.f0.length x.f0) {A1 : Option Addr} {c1 : Nat} (l1 : x.f1.length ≤ c1) (g1 : (Kd.int .u8).C w A1 x.f1.length x.f1) : k79.K w x [.slice A0 x.f0.length c0, .slice A1 x.f1.length c1, .int .i64 x.f2, .int .i64 x.f3, .int .i64 x.f4, .int .i64 x.f5] := ⟨[.slice A0 x.f0.length c0], [.slice A1 x.f1.length c1, .int .i64 x.f2, .int .i64 x.f3, .int .i64 x.f4, .int .i64 x.f5], rfl, ⟨A0, c0, rfl, l0, g0⟩, ⟨[.slice A1 x.f1.length c1], [.int .i64 x.f2, .int .i64 x.f3, .int .i64 x.f4, .int .i64 x.f5], rfl, ⟨A1, c1, rfl, l1, g1⟩, ⟨[.int .i64 x.f2], [.int .i64 x.f3, .int .i64 x.f4, .int .i64 x.f5], rfl, rfl, ⟨[.int .i64 x.f3], [.int .i64 x.f4, .int .i64 x.f5], rfl, rfl, ⟨[.int .i64 x.f4], [.int .i64 x.f5], rfl, rfl, rfl⟩⟩⟩⟩⟩
theorem k79_mkM (w : World) (base : Nat) (ok : Nat → Prop) (x : S79) {v0 : Value} (g0 : (Kd.int .u8).R 5 w base ok v0 x.f0) {v1 : Value} (g1 : (Kd.int .u8).R 5 w base ok v1 x.f1) : k79.M w base ok x [v0, v1, .int .i64 x.f2, .int .i64 x.f3, .int .i64 x.f4, .int .i64 x.f5] := ⟨[v0], [v1, .int .i64 x.f2, .int .i64 x.f3, .int .i64 x.f4, .int .i64 x.f5], rfl, ⟨v0, rfl, g0⟩, ⟨[v1], [.int .i64 x.f2, .int .i64 x.f3, .int .i64 x.f4, .int .i64 x.f5], rfl, ⟨v1, rfl, g1⟩, ⟨[.int .i64 x.f2], [.int .i64 x.f3, .int .i64 x.f4, .int .i64 x.f5], rfl, rfl, ⟨[.int .i64 x.f3], [.int .i64 x.f4, .int .i64 x.f5], rfl, rfl, ⟨[.int .i64 x.f4], [.int .i64 x.f5], rfl, rfl, rfl⟩⟩⟩⟩⟩
theorem k79_openF {W : World} {ok : Nat → Prop} {x : S79} {cs : List Value} (h : Kd.FK k79 W ok x cs) : ∃ A0 c0 A1 c1, cs = [.slice A0 x.f0.length c0, .slice A1 x.f1.length c1, .int .i64 x.f2, .int .i64 x.f3, .int .i64 x.f4, .int .i64 x.f5] ∧ x.f0.length ≤ c0 ∧ Kd.F (Kd.int .u8) W ok A0 x.f0.length x.f0 ∧ x.f1.length ≤ c1 ∧ Kd.F (Kd.int .u8) W ok A1 x.f1.length x.f1 := by
  obtain ⟨A0, c0, A1, c1, rfl, l0, _, l1, _⟩ := k79_open (Kd.FK_now h)
  exact ⟨A0, c0, A1, c1, rfl, l0, (fun W' hW => by obtain ⟨A0_, c0_, A1_, c1_, he, l0_, g0_, l1_, g1_⟩ := k79_open (h W' hW); injection (Option.some.inj (show some (Value.slice A0 x.f0.length c0) = some (Value.slice A0_ x.f0.length c0_) from congrArg (fun l => l[0]?) he)) with ha_ _ _; rw [ha_]; exact g0_), l1, (fun W' hW => by obtain ⟨A0_, c0_, A1_, c1_, he, l0_, g0_, l1_, g1_⟩ := k79_open (h W' hW); injection (Option.some.inj (show some (Value.slice A1 x.f1.length c1) = some (Value.slice A1_ x.f1.length c1_) from congrArg (fun l => l[1]?) he)) with ha_ _ _; rw [ha_]; exact g1_)⟩
theorem k79_mkF (W : World) (ok : Nat → Prop) (x : S79) {A0 : Option Addr} {c0 : Nat} (l0 : x.f0.length ≤ c0) (g0 : Kd.F (Kd.int .u8) W ok A0 x.f0.length x.f0) {A1 : Option Addr} {c1 : Nat} (l1 : x.f1.length ≤ c1) (g1 : Kd.F (Kd.int .u8) W ok A1 x.f1.length x.f1) : Kd.FK k79 W ok x [.slice A0 x.f0.length c0, .slice A1 x.f1.length c1, .int .i64 x.f2, .int .i64 x.f3, .int .i64 x.f4, .int .i64 x.f5] := fun W2 hW => k79_mk W2 x l0 (g0 W2 hW) l1 (g1 W2 hW)
def rd_T79 (xs : List S79) (i : Int) : S79 := xs.getD i.toNat z79
theorem at_T79 {w : World} {A : Option Addr} {n : Nat} {xs : List S79} (h : Kd.C k79 w A n xs) (i : Int) (h0 : 0 ≤ i) (h1 : i < n) : ∃ ad A0 c0 A1 c1, A = some ad ∧ w.cell? (ad.add (i.toNat * 6)) = some (.slice A0 (rd_T79 xs i).f0.length c0) ∧ w.cell? ⟨(ad.add (i.toNat * 6)).block, (ad.add (i.toNat * 6)).off + 1, none⟩ = some (.slice A1 (rd_T79 xs i).f1.length c1) ∧ w.cell? ⟨(ad.add (i.toNat * 6)).block, (ad.add (i.toNat * 6)).off + 2, none⟩ = some (.int .i64 (rd_T79 xs i).f2) ∧ w.cell? ⟨(ad.add (i.toNat * 6)).block, (ad.add (i.toNat * 6)).off + 3, none⟩ = some (.int .i64 (rd_T79 xs i).f3) ∧ w.cell? ⟨(ad.add (i.toNat * 6)).block, (ad.add (i.toNat * 6)).off + 4, none⟩ = some (.int .i64 (rd_T79 xs i).f4) ∧ w.cell? ⟨(ad.add (i.toNat * 6)).block, (ad.add (i.toNat * 6)).off + 5, none⟩ = some (.int .i64 (rd_T79 xs i).f5) ∧ (rd_T79 xs i).f0.length ≤ c0 ∧ (Kd.int .u8).C w A0 (rd_T79 xs i).f0.length (rd_T79 xs i).f0 ∧ (rd_T79 xs i).f1.length ≤ c1 ∧ (Kd.int .u8).C w A1 (rd_T79 xs i).f1.length (rd_T79 xs i).f1 := by
  obtain ⟨ad, c, e, _, hK, hc0⟩ := Kd.C_get h z79 i h0 h1; have hc : ∀ j u, c[j]? = some u → w.cell? (ad.add (i.toNat * 6 + j)) = some u := hc0; obtain ⟨A0, c0, A1, c1, rfl, l0, g0, l1, g1⟩ := k79_open hK
  exact ⟨ad, A0, c0, A1, c1, e, hc 0 _ rfl, by rw [← add_field _ _ 1 (by omega)]; exact hc 1 _ rfl, by rw [← add_field _ _ 2 (by omega)]; exact hc 2 _ rfl, by rw [← add_field _ _ 3 (by omega)]; exact hc 3 _ rfl, by rw [← add_field _ _ 4 (by omega)]; exact hc 4 _ rfl, by rw [← add_field _ _ 5 (by omega)]; exact hc 5 _ rfl, l0, g0, l1, g1⟩

def rd_L4 (xs : List (List S79)) (i : Int) : (List S79) := xs.getD i.toNat ([] : List S79)
theorem at_L4 {w : World} {A : Option Addr} {n : Nat} {xs : List (List S79)} (h : Kd.C (Kd.slice 79 k79) w A n xs) (i : Int) (h0 : 0 ≤ i) (h1 : i < n) : ∃ ad A0 c0, A = some ad ∧ w.cell? (ad.add i.toNat) = some (.slice A0 (rd_L4 xs i).length c0) ∧ (rd_L4 xs i).length ≤ c0 ∧ k79.C w A0 (rd_L4 xs i).length (rd_L4 xs i) := by
  obtain ⟨ad, c, e, _, hK, hc0⟩ := Kd.C_get h ([] : List S79) i h0 h1; have hc : ∀ j u, c[j]? = some u → w.cell? (ad.add (i.toNat * 1 + j)) = some u := hc0; obtain ⟨A0, c0, rfl, l0, g0⟩ := hK
  exact ⟨ad, A0, c0, e, by have hq := hc 0 _ rfl; rwa [Nat.mul_one, Nat.add_zero] at hq, l0, g0⟩

/-! #### struct type 25 -/
structure S25 where
  f0 : (List S79)
  f1 : Int
  f2 : Bool
def z25 : S25 := ⟨([] : List S79), (0 : Int), false⟩
def k25 : Kd S25 := Kd.iso (Kd.pair (Kd.slice 79 k79) (Kd.pair (Kd.int .i64) Kd.bool)) (fun x : S25 => (x.f0, x.f1, x.f2))
theorem k25_heap : Kd.Heap k25 := Kd.heap_iso _ (Kd.heap_pair (Kd.heap_slice 79 k79_heap) (Kd.heap_pair (Kd.heap_int .i64) Kd.heap_bool))
theorem k25_open {w : World} {x : S25} {cs : List Value} (h : k25.K w x cs) : ∃ A0 c0, cs = [.slice A0 x.f0.length c0, .int .i64 x.f1, .bool x.f2] ∧ x.f0.length ≤ c0 ∧ k79.C w A0 x.f0.length x.f0 := by
  obtain ⟨_, _, rfl, ⟨A0, c0, rfl, l0, g0⟩, ⟨_, _, rfl, rfl, rfl⟩⟩ := h
  exact ⟨A0, c0, rfl, l0, g0⟩
theorem k25_openM {w : World} {base : Nat} {ok : Nat → Prop} {x : S25} {cs : List Value} (h : k25.M w base ok x cs) : ∃ v0, cs = [v0, .int .i64 x.f1, .bool x.f2] ∧ k79.R 79 w base ok v0 x.f0 := by
  obtain ⟨_, _, rfl, ⟨v0, rfl, g0⟩, ⟨_, _, rfl, rfl, rfl⟩⟩ := h
  exact ⟨v0, rfl, g0⟩
theorem k25_mk (w : World) (x : S25) {A0 : Option Addr} {c0 : Nat} (l0 : x.f0.length ≤ c0) (g0 : k79.C w A0 x.f0.length x.f0) : k25.K w x [.slice A0 x.f0.length c0, .int .i64 x.f1, .bool x.f2] := ⟨[.slice A0 x.f0.length c0], [.int .i64 x.f1, .bool x.f2], rfl, ⟨A0, c0, rfl, l0, g0⟩, ⟨[.int .i64 x.f1], [.bool x.f2], rfl, rfl, rfl⟩⟩
theorem k25_mkM (w : World) (base : Nat) (ok : Nat → Prop) (x : S25) {v0 : Value} (g0 : k79.R 79 w base ok v0 x.f0) : k25.M w base ok x [v0, .int .i64 x.f1, .bool x.f2] := ⟨[v0], [.int .i64 x.f1, .bool x.f2], rfl, ⟨v0, rfl, g0⟩, ⟨[.int .i64 x.f1], [.bool x.f2], rfl, rfl, rfl⟩⟩
theorem k25_openF {W : World} {ok : Nat → Prop} {x : S25} {cs : List Value} (h : Kd.FK k25 W ok x cs) : ∃ A0 c0, cs = [.slice A0 x.f0.length c0, .int .i64 x.f1, .bool x.f2] ∧ x.f0.length ≤ c0 ∧ Kd.F k79 W ok A0 x.f0.length x.f0 := by
  obtain ⟨A0, c0, rfl, l0, _⟩ := k25_open (Kd.FK_now h)
  exact ⟨A0, c0, rfl, l0, (fun W' hW => by obtain ⟨A0_, c0_, he, l0_, g0_⟩ := k25_open (h W' hW); injection (Option.some.inj (show some (Value.slice A0 x.f0.length c0) = some (Value.slice A0_ x.f0.length c0_) from congrArg (fun l => l[0]?) he)) with ha_ _ _; rw [ha_]; exact g0_)⟩
theorem k25_mkF (W : World) (ok : Nat → Prop) (x : S25) {A0 : Option Addr} {c0 : Nat} (l0 : x.f0.length ≤ c0) (g0 : Kd.F k79 W ok A0 x.f0.length x.f0) : Kd.FK k25 W ok x [.slice A0 x.f0.length c0, .int .i64 x.f1, .bool x.f2] := fun W2 hW => k25_mk W2 x l0 (g0 W2 hW)
def rd_T25 (xs : List S25) (i : Int) : S25 := xs.getD i.toNat z25
theorem at_T25 {w : World} {A : Option Addr} {n : Nat} {xs : List S25} (h : Kd.C k25 w A n xs) (i : Int) (h0 : 0 ≤ i) (h1 : i < n) : ∃ ad A0 c0, A = some ad ∧ w.cell? (ad.add (i.toNat * 3)) = some (.slice A0 (rd_T25 xs i).f0.length c0) ∧ w.cell? ⟨(ad.add (i.toNat * 3)).block, (ad.add (i.toNat * 3)).off + 1, none⟩ = some (.int .i64 (rd_T25 xs i).f1) ∧ w.cell? ⟨(ad.add (i.toNat * 3)).block, (ad.add (i.toNat * 3)).off + 2, none⟩ = some (.bool (rd_T25 xs i).f2) ∧ (rd_T25 xs i).f0.length ≤ c0 ∧ k79.C w A0 (rd_T25 xs i).f0.length (rd_T25 xs i).f0 := by
  obtain ⟨ad, c, e, _, hK, hc0⟩ := Kd.C_get h z25 i h0 h1; have hc : ∀ j u, c[j]? = some u → w.cell? (ad.add (i.toNat * 3 + j)) = some u := hc0; obtain ⟨A0, c0, rfl, l0, g0⟩ := k25_open hK
  exact ⟨ad, A0, c0, e, hc 0 _ rfl, by rw [← add_field _ _ 1 (by omega)]; exact hc 1 _ rfl, by rw [← add_field _ _ 2 (by omega)]; exact hc 2 _ rfl, l0, g0⟩

/-! #### struct type 27 -/
structure S27 where
  f0 : Int
  f1 : S25
  f2 : (List S79)
  f3 : Int
def z27 : S27 := ⟨(0 : Int), z25, ([] : List S79), (0 : Int)⟩
def k27 : Kd S27 := Kd.iso (Kd.pair (Kd.int .i64) (Kd.pair k25 (Kd.pair (Kd.slice 79 k79) (Kd.int .i64)))) (fun x : S27 => (x.f0, x.f1, x.f2, x.f3))
theorem k27_heap : Kd.Heap k27 := Kd.heap_iso _ (Kd.heap_pair (Kd.heap_int .i64) (Kd.heap_pair k25_heap (Kd.heap_pair (Kd.heap_slice 79 k79_heap) (Kd.heap_int .i64))))
theorem k27_open {w : World} {x : S27} {cs : List Value} (h : k27.K w x cs) : ∃ A1 c1 A4 c4, cs = [.int .i64 x.f0, .slice A1 x.f1.f0.length c1, .int .i64 x.f1.f1, .bool x.f1.f2, .slice A4 x.f2.length c4, .int .i64 x.f3] ∧ x.f1.f0.length ≤ c1 ∧ k79.C w A1 x.f1.f0.length x.f1.f0 ∧ x.f2.length ≤ c4 ∧ k79.C w A4 x.f2.length x.f2 := by
  obtain ⟨_, _, rfl, rfl, ⟨_, _, rfl, s1, ⟨_, _, rfl, ⟨A4, c4, rfl, l4, g4⟩, rfl⟩⟩⟩ := h; obtain ⟨A1, c1, rfl, l1, g1⟩ := k25_open s1
  exact ⟨A1, c1, A4, c4, rfl, l1, g1, l4, g4⟩
theorem k27_openM {w : World} {base : Nat} {ok : Nat → Prop} {x : S27} {cs : List Value} (h : k27.M w base ok x cs) : ∃ v1 v4, cs = [.int .i64 x.f0, v1, .int .i64 x.f1.f1, .bool x.f1.f2, v4, .int .i64 x.f3] ∧ k79.R 79 w base ok v1 x.f1.f0 ∧ k79.R 79 w base ok v4 x.f2 := by
  obtain ⟨_, _, rfl, rfl, ⟨_, _, rfl, s1, ⟨_, _, rfl, ⟨v4, rfl, g4⟩, rfl⟩⟩⟩ := h; obtain ⟨v1, rfl, g1⟩ := k25_openM s1
  exact ⟨v1, v4, rfl, g1, g4⟩
theorem k27_mk (w : World) (x : S27) {A1 : Option Addr} {c1 : Nat} (l1 : x.f1.f0.length ≤ c1) (g1 : k79.C w A1 x.f1.f0.length x.f1.f0) {A4 : Option Addr} {c4 : Nat} (l4 : x.f2.length ≤ c4) (g4 : k79.C w A4 x.f2.length x.f2) : k27.K w x [.int .i64 x.f0, .slice A1 x.f1.f0.length c1, .int .i64 x.f1.f1, .bool x.f1.f2, .slice A4 x.f2.length c4, .int .i64 x.f3] := ⟨[.int .i64 x.f0], [.slice A1 x.f1.f0.length c1, .int .i64 x.f1.f1, .bool x.f1.f2, .slice A4 x.f2.length c4, .int .i64 x.f3], rfl, rfl, ⟨[.slice A1 x.f1.f0.length c1, .int .i64 x.f1.f1, .bool x.f1.f2], [.slice A4 x.f2.length c4, .int .i64 x.f3], rfl, (k25_mk w x.f1 l1 g1), ⟨[.slice A4 x.f2.length c4], [.int .i64 x.f3], rfl, ⟨A4, c4, rfl, l4, g4⟩, rfl⟩⟩⟩
theorem k27_mkM (w : World) (base : Nat) (ok : Nat → Prop) (x : S27) {v1 : Value} (g1 : k79.R 79 w base ok v1 x.f1.f0) {v4 : Value} (g4 : k79.R 79 w base ok v4 x.f2) : k27.M w base ok x [.int .i64 x.f0, v1, .int .i64 x.f1.f1, .bool x.f1.f2, v4, .int .i64 x.f3] := ⟨[.int .i64 x.f0], [v1, .int .i64 x.f1.f1, .bool x.f1.f2, v4, .int .i64 x.f3], rfl, rfl, ⟨[v1, .int .i64 x.f1.f1, .bool x.f1.f2], [v4, .int .i64 x.f3], rfl, (k25_mkM w base ok x.f1 g1), ⟨[v4], [.int .i64 x.f3], rfl, ⟨v4, rfl, g4⟩, rfl⟩⟩⟩
theorem k27_openF {W : World} {ok : Nat → Prop} {x : S27} {cs : List Value} (h : Kd.FK k27 W ok x cs) : ∃ A1 c1 A4 c4, cs = [.int .i64 x.f0, .slice A1 x.f1.f0.length c1, .int .i64 x.f1.f1, .bool x.f1.f2, .slice A4 x.f2.length c4, .int .i64 x.f3] ∧ x.f1.f0.length ≤ c1 ∧ Kd.F k79 W ok A1 x.f1.f0.length x.f1.f0 ∧ x.f2.length ≤ c4 ∧ Kd.F k79 W ok A4 x.f2.length x.f2 := by
  obtain ⟨A1, c1, A4, c4, rfl, l1, _, l4, _⟩ := k27_open (Kd.FK_now h)
  exact ⟨A1, c1, A4, c4, rfl, l1, (fun W' hW => by obtain ⟨A1_, c1_, A4_, c4_, he, l1_, g1_, l4_, g4_⟩ := k27_open (h W' hW); injection (Option.some.inj (show some (Value.slice A1 x.f1.f0.length c1) = some (Value.slice A1_ x.f1.f0.length c1_) from congrArg (fun l => l[1]?) he)) with ha_ _ _; rw [ha_]; exact g1_), l4, (fun W' hW => by obtain ⟨A1_, c1_, A4_, c4_, he, l1_, g1_, l4_, g4_⟩ := k27_open (h W' hW); injection (Option.some.inj (show some (Value.slice A4 x.f2.length c4) = some (Value.slice A4_ x.f2.length c4_) from congrArg (fun l => l[4]?) he)) with ha_ _ _; rw [ha_]; exact g4_)⟩
theorem k27_mkF (W : World) (ok : Nat → Prop) (x : S27) {A1 : Option Addr} {c1 : Nat} (l1 : x.f1.f0.length ≤ c1) (g1 : Kd.F k79 W ok A1 x.f1.f0.length x.f1.f0) {A4 : Option Addr} {c4 : Nat} (l4 : x.f2.length ≤ c4) (g4 : Kd.F k79 W ok A4 x.f2.length x.f2) : Kd.FK k27 W ok x [.int .i64 x.f0, .slice A1 x.f1.f0.length c1, .int .i64 x.f1.f1, .bool x.f1.f2, .slice A4 x.f2.length c4, .int .i64 x.f3] := fun W2 hW => k27_mk W2 x l1 (g1 W2 hW) l4 (g4 W2 hW)
def rd_T27 (xs : List S27) (i : Int) : S27 := xs.getD i.toNat z27
theorem at_T27 {w : World} {A : Option Addr} {n : Nat} {xs : List S27} (h : Kd.C k27 w A n xs) (i : Int) (h0 : 0 ≤ i) (h1 : i < n) : ∃ ad A1 c1 A4 c4, A = some ad ∧ w.cell? (ad.add (i.toNat * 6)) = some (.int .i64 (rd_T27 xs i).f0) ∧ w.cell? ⟨(ad.add (i.toNat * 6)).block, (ad.add (i.toNat * 6)).off + 1, none⟩ = some (.slice A1 (rd_T27 xs i).f1.f0.length c1) ∧ w.cell? ⟨(ad.add (i.toNat * 6)).block, (ad.add (i.toNat * 6)).off + 2, none⟩ = some (.int .i64 (rd_T27 xs i).f1.f1) ∧ w.cell? ⟨(ad.add (i.toNat * 6)).block, (ad.add (i.toNat * 6)).off + 3, none⟩ = some (.bool (rd_T27 xs i).f1.f2) ∧ w.cell? ⟨(ad.add (i.toNat * 6)).block, (ad.add (i.toNat * 6)).off + 4, none⟩ = some (.slice A4 (rd_T27 xs i).f2.length c4) ∧ w.cell? ⟨(ad.add (i.toNat * 6)).block, (ad.add (i.toNat * 6)).off + 5, none⟩ = some (.int .i64 (rd_T27 xs i).f3) ∧ (rd_T27 xs i).f1.f0.length ≤ c1 ∧ k79.C w A1 (rd_T27 xs i).f1.f0.length (rd_T27 xs i).f1.f0 ∧ (rd_T27 xs i).f2.length ≤ c4 ∧ k79.C w A4 (rd_T27 xs i).f2.length (rd_T27 xs i).f2 := by
  obtain ⟨ad, c, e, _, hK, hc0⟩ := Kd.C_get h z27 i h0 h1; have hc : ∀ j u, c[j]? = some u → w.cell? (ad.add (i.toNat * 6 + j)) = some u := hc0; obtain ⟨A1, c1, A4, c4, rfl, l1, g1, l4, g4⟩ := k27_open hK
  exact ⟨ad, A1, c1, A4, c4, e, hc 0 _ rfl, by rw [← add_field _ _ 1 (by omega)]; exact hc 1 _ rfl, by rw [← add_field _ _ 2 (by omega)]; exact hc 2 _ rfl, by rw [← add_field _ _ 3 (by omega)]; exact hc 3 _ rfl, by rw [← add_field _ _ 4 (by omega)]; exact hc 4 _ rfl, by rw [← add_field _ _ 5 (by omega)]; exact hc 5 _ rfl, l1, g1, l4, g4⟩

/-! #### struct type 81 -/
structure S81 where
  f0 : Int
  f1 : S79
  f2 : Bool
  f3 : S79
def z81 : S81 := ⟨(0 : Int), z79, false, z79⟩
def k81 : Kd S81 := Kd.iso (Kd.pair (Kd.int .i64) (Kd.pair k79 (Kd.pair Kd.bool k79))) (fun x : S81 => (x.f0, x.f1, x.f2, x.f3))
theorem k81_heap : Kd.Heap k81 := Kd.heap_iso _ (Kd.heap_pair (Kd.heap_int .i64) (Kd.heap_pair k79_heap (Kd.heap_pair Kd.heap_bool k79_heap)))
theorem k81_open {w : World} {x : S81} {cs : List Value} (h : k81.K w x cs) : ∃ A1 c1 A2 c2 A8 c8 A9 c9, cs = [.int .i64 x.f0, .slice A1 x.f1.f0.length c1, .slice A2 x.f1.f1.length c2, .int .i64 x.f1.f2, .int .i64 x.f1.f3, .int .i64 x.f1.f4, .int .i64 x.f1.f5, .bool x.f2, .slice A8 x.f3.f0.length c8, .slice A9 x.f3.f1.length c9, .int .i64 x.f3.f2, .int .i64 x.f3.f3, .int .i64 x.f3.f4, .int .i64 x.f3.f5] ∧ x.f1.f0.length ≤ c1 ∧ (Kd.int .u8).C w A1 x.f1.f0.length x.f1.f0 ∧ x.f1.f1.length ≤ c2 ∧ (Kd.int .u8).C w A2 x.f1.f1.length x.f1.f1 ∧ x.f3.f0.length ≤ c8 ∧ (Kd.int .u8).C w A8 x.f3.f0.length x.f3.f0 ∧ x.f3.f1.length ≤ c9 ∧ (Kd.int .u8).C w A9 x.f3.f1.length x.f3.f1 := by
  obtain ⟨_, _, rfl, rfl, ⟨_, _, rfl, s1, ⟨_, _, rfl, rfl, s8⟩⟩⟩ := h; obtain ⟨A1, c1, A2, c2, rfl, l1, g1, l2, g2⟩ := k79_open s1; obtain ⟨A8, c8, A9, c9, rfl, l8, g8, l9, g9⟩ := k79_open s8
  exact ⟨A1, c1, A2, c2, A8, c8, A9, c9, rfl, l1, g1, l2, g2, l8, g8, l9, g9⟩
theorem k81_openM {w : World} {base : Nat} {ok : Nat → Prop} {x : S81} {cs : List Value} (h : k81.M w base ok x cs) : ∃ v1 v2 v8 v9, cs = [.int .i64 x.f0, v1, v2, .int .i64 x.f1.f2, .int .i64 x.f1.f3, .int .i64 x.f1.f4, .int .i64 x.f1.f5, .bool x.f2, v8, v9, .int .i64 x.f3.f2, .int .i64 x.f3.f3, .int .i64 x.f3.f4, .int .i64 x.f3.f5] ∧ (Kd.int .u8).R 5 w base ok v1 x.f1.f0 ∧ (Kd.int .u8).R 5 w base ok v2 x.f1.f1 ∧ (Kd.int .u8).R 5 w base ok v8 x.f3.f0 ∧ (Kd.int .u8).R 5 w base ok v9 x.f3.f1 := by
  obtain ⟨_, _, rfl, rfl, ⟨_, _, rfl, s1, ⟨_, _, rfl, rfl, s8⟩⟩⟩ := h; obtain ⟨v1, v2, rfl, g1, g2⟩ := k79_openM s1; obtain ⟨v8, v9, rfl, g8, g9⟩ := k79_openM s8
  exact ⟨v1, v2, v8, v9, rfl, g1, g2, g8, g9⟩
theorem k81_mk (w : World) (x : S81) {A1 : Option Addr} {c1 : Nat} (l1 : x.f1.f0.length ≤ c1) (g1 : (Kd.int .u8).C w A1 x.f1.f0.length x.f1.f0) {A2 : Option Addr} {c2 : Nat} (l2 : x.f1.f1.length ≤ c2) (g2 : (Kd.int .u8).C w A2 x.f1.f1.length x.f1.f1) {A8 : Option Addr} {c8 : Nat} (l8 : x.f3.f0.length ≤ c8) (g8 : (Kd.int .u8).C w A8 x.f3.f0.length x.f3.f0) {A9 : Option Addr} {c9 : Nat} (l9 : x.f3.f1.length ≤ c9) (g9 : (Kd.int .u8).C w A9 x.f3.f1.length x.f3.f1) : k81.K w x [.int .i64 x.f0, .slice A1 x.f1.f0.length c1, .slice A2 x.f1.f1.length c2, .int .i64 x.f1.f2, .int .i64 x.f1.f3, .int .i64 x.f1.f4, .int .i64 x.f1.f5, .bool x.f2, .slice A8 x.f3.f0.length c8, .slice A9 x.f3.f1.length c9, .int .i64 x.f3.f2, .int .i64 x.f3.f3, .int .i64 x.f3.f4, .int .i64 x.f3.f5] := ⟨[.int .i64 x.f0], [.slice A1 x.f1.f0.length c1, .slice A2 x.f1.f1.length c2, .int .i64 x.f1.f2, .int .i64 x.f1.f3, .int .i64 x.f1.f4, .int .i64 x.f1.f5, .bool x.f2, .slice A8 x.f3.f0.length c8, .slice A9 x.f3.f1.length c9, .int .i64 x.f3.f2, .int .i64 x.f3.f3, .int .i64 x.f3.f4, .int .i64 x.f3.f5], rfl, rfl, ⟨[.slice A1 x.f1.f0.length c1, .slice A2 x.f1.f1.length c2, .int .i64 x.f1.f2, .int .i64 x.f1.f3, .int .i64 x.f1.f4, .int .i64 x.f1.f5], [.bool x.f2, .slice A8 x.f3.f0.length c8, .slice A9 x.f3.f1.length c9, .int .i64 x.f3.f2, .int .i64 x.f3.f3, .int .i64 x.f3.f4, .int .i64 x.f3.f5], rfl, (k79_mk w x.f1 l1 g1 l2 g2), ⟨[.bool x.f2], [.slice A8 x.f3.f0.length c8, .slice A9 x.f3.f1.length c9, .int .i64 x.f3.f2, .int .i64 x.f3.f3, .int .i64 x.f3.f4, .int .i64 x.f3.f5], rfl, rfl, (k79_mk w x.f3 l8 g8 l9 g9)⟩⟩⟩
theorem k81_mkM (w : World) (base : Nat) (ok : Nat → Prop) (x : S81) {v1 : Value} (g1 : (Kd.int .u8).R 5 w base ok v1 x.f1.f0) {v2 : Value} (g2 : (Kd.int .u8).R 5 w base ok v2 x.f1.f1) {v8 : Value} (g8 : (Kd.int .u8).R 5 w base ok v8 x.f3.f0) {v9 : Value} (g9 : (Kd.int .u8).R 5 w base ok v9 x.f3.f1) : k81.M w base ok x [.int .i64 x.f0, v1, v2, .int .i64 x.f1.f2, .int .i64 x.f1.f3, .int .i64 x.f1.f4, .int .i64 x.f1.f5, .bool x.f2, v8, v9, .int .i64 x.f3.f2, .int .i64 x.f3.f3, .int .i64 x.f3.f4, .int .i64 x.f3.f5] := ⟨[.int .i64 x.f0], [v1, v2, .int .i64 x.f1.f2, .int .i64 x.f1.f3, .int .i64 x.f1.f4, .int .i64 x.f1.f5, .bool x.f2, v8, v9, .int .i64 x.f3.f2, .int .i64 x.f3.f3, .int .i64 x.f3.f4, .int .i64 x.f3.f5], rfl, rfl, ⟨[v1, v2, .int .i64 x.f1.f2, .int .i64 x.f1.f3, .int .i64 x.f1.f4, .int .i64 x.f1.f5], [.bool x.f2, v8, v9, .int .i64 x.f3.f2, .int .i64 x.f3.f3, .int .i64 x.f3.f4, .int .i64 x.f3.f5], rfl, (k79_mkM w base ok x.f1 g1 g2), ⟨[.bool x.f2], [v8, v9, .int .i64 x.f3.f2, .int .i64 x.f3.f3, .int .i64 x.f3.f4, .int .i64 x.f3.f5], rfl, rfl, (k79_mkM w base ok x.f3 g8 g9)⟩⟩⟩
theorem k81_openF {W : World} {ok : Nat → Prop} {x : S81} {cs : List Value} (h : Kd.FK k81 W ok x cs) : ∃ A1 c1 A2 c2 A8 c8 A9 c9, cs = [.int .i64 x.f0, .slice A1 x.f1.f0.length c1, .slice A2 x.f1.f1.length c2, .int .i64 x.f1.f2, .int .i64 x.f1.f3, .int .i64 x.f1.f4, .int .i64 x.f1.f5, .bool x.f2, .slice A8 x.f3.f0.length c8, .slice A9 x.f3.f1.length c9, .int .i64 x.f3.f2, .int .i64 x.f3.f3, .int .i64 x.f3.f4, .int .i64 x.f3.f5] ∧ x.f1.f0.length ≤ c1 ∧ Kd.F (Kd.int .u8) W ok A1 x.f1.f0.length x.f1.f0 ∧ x.f1.f1.length ≤ c2 ∧ Kd.F (Kd.int .u8) W ok A2 x.f1.f1.length x.f1.f1 ∧ x.f3.f0.length ≤ c8 ∧ Kd.F (Kd.int .u8) W ok A8 x.f3.f0.length x.f3.f0 ∧ x.f3.f1.length ≤ c9 ∧ Kd.F (Kd.int .u8) W ok A9 x.f3.f1.length x.f3.f1 := by
  obtain ⟨A1, c1, A2, c2, A8, c8, A9, c9, rfl, l1, _, l2, _, l8, _, l9, _⟩ := k81_open (Kd.FK_now h)
  exact ⟨A1, c1, A2, c2, A8, c8, A9, c9, rfl, l1, (fun W' hW => by obtain ⟨A1_, c1_, A2_, c2_, A8_, c8_, A9_, c9_, he, l1_, g1_, l2_, g2_, l8_, g8_, l9_, g9_⟩ := k81_open (h W' hW); injection (Option.some.inj (show some (Value.slice A1 x.f1.f0.length c1) = some (Value.slice A1_ x.f1.f0.length c1_) from congrArg (fun l => l[1]?) he)) with ha_ _ _; rw [ha_]; exact g1_), l2, (fun W' hW => by obtain ⟨A1_, c1_, A2_, c2_, A8_, c8_, A9_, c9_, he, l1_, g1_, l2_, g2_, l8_, g8_, l9_, g9_⟩ := k81_open (h W' hW); injection (Option.some.inj (show some (Value.slice A2 x.f1.f1.length c2) = some (Value.slice A2_ x.f1.f1.length c2_) from congrArg (fun l => l[2]?) he)) with ha_ _ _; rw [ha_]; exact g2_), l8, (fun W' hW => by obtain ⟨A1_, c1_, A2_, c2_, A8_, c8_, A9_, c9_, he, l1_, g1_, l2_, g2_, l8_, g8_, l9_, g9_⟩ := k81_open (h W' hW); injection (Option.some.inj (show some (Value.slice A8 x.f3.f0.length c8) = some (Value.slice A8_ x.f3.f0.length c8_) from congrArg (fun l => l[8]?) he)) with ha_ _ _; rw [ha_]; exact g8_), l9, (fun W' hW => by obtain ⟨A1_, c1_, A2_, c2_, A8_, c8_, A9_, c9_, he, l1_, g1_, l2_, g2_, l8_, g8_, l9_, g9_⟩ := k81_open (h W' hW); injection (Option.some.inj (show some (Value.slice A9 x.f3.f1.length c9) = some (Value.slice A9_ x.f3.f1.length c9_) from congrArg (fun l => l[9]?) he)) with ha_ _ _; rw [ha_]; exact g9_)⟩
theorem k81_mkF (W : World) (ok : Nat → Prop) (x : S81) {A1 : Option Addr} {c1 : Nat} (l1 : x.f1.f0.length ≤ c1) (g1 : Kd.F (Kd.int .u8) W ok A1 x.f1.f0.length x.f1.f0) {A2 : Option Addr} {c2 : Nat} (l2 : x.f1.f1.length ≤ c2) (g2 : Kd.F (Kd.int .u8) W ok A2 x.f1.f1.length x.f1.f1) {A8 : Option Addr} {c8 : Nat} (l8 : x.f3.f0.length ≤ c8) (g8 : Kd.F (Kd.int .u8) W ok A8 x.f3.f0.length x.f3.f0) {A9 : Option Addr} {c9 : Nat} (l9 : x.f3.f1.length ≤ c9) (g9 : Kd.F (Kd.int .u8) W ok A9 x.f3.f1.length x.f3.f1) : Kd.FK k81 W ok x [.int .i64 x.f0, .slice A1 x.f1.f0.length c1, .slice A2 x.f1.f1.length c2, .int .i64 x.f1.f2, .int .i64 x.f1.f3, .int .i64 x.f1.f4, .int .i64 x.f1.f5, .bool x.f2, .slice A8 x.f3.f0.length c8, .slice A9 x.f3.f1.length c9, .int .i64 x.f3.f2, .int .i64 x.f3.f3, .int .i64 x.f3.f4, .int .i64 x.f3.f5] := fun W2 hW => k81_mk W2 x l1 (g1 W2 hW) l2 (g2 W2 hW) l8 (g8 W2 hW) l9 (g9 W2 hW)
def rd_T81 (xs : List S81) (i : Int) : S81 := xs.getD i.toNat z81
theorem at_T81 {w : World} {A : Option Addr} {n : Nat} {xs : List S81} (h : Kd.C k81 w A n xs) (i : Int) (h0 : 0 ≤ i) (h1 : i < n) : ∃ ad A1 c1 A2 c2 A8 c8 A9 c9, A = some ad ∧ w.cell? (ad.add (i.toNat * 14)) = some (.int .i64 (rd_T81 xs i).f0) ∧ w.cell? ⟨(ad.add (i.toNat * 14)).block, (ad.add (i.toNat * 14)).off + 1, none⟩ = some (.slice A1 (rd_T81 xs i).f1.f0.length c1) ∧ w.cell? ⟨(ad.add (i.toNat * 14)).block, (ad.add (i.toNat * 14)).off + 2, none⟩ = some (.slice A2 (rd_T81 xs i).f1.f1.length c2) ∧ w.cell? ⟨(ad.add (i.toNat * 14)).block, (ad.add (i.toNat * 14)).off + 3, none⟩ = some (.int .i64 (rd_T81 xs i).f1.f2) ∧ w.cell? ⟨(ad.add (i.toNat * 14)).block, (ad.add (i.toNat * 14)).off + 4, none⟩ = some (.int .i64 (rd_T81 xs i).f1.f3) ∧ w.cell? ⟨(ad.add (i.toNat * 14)).block, (ad.add (i.toNat * 14)).off + 5, none⟩ = some (.int .i64 (rd_T81 xs i).f1.f4) ∧ w.cell? ⟨(ad.add (i.toNat * 14)).block, (ad.add (i.toNat * 14)).off + 6, none⟩ = some (.int .i64 (rd_T81 xs i).f1.f5) ∧ w.cell? ⟨(ad.add (i.toNat * 14)).block, (ad.add (i.toNat * 14)).off + 7, none⟩ = some (.bool (rd_T81 xs i).f2) ∧ w.cell? ⟨(ad.add (i.toNat * 14)).block, (ad.add (i.toNat * 14)).off + 8, none⟩ = some (.slice A8 (rd_T81 xs i).f3.f0.length c8) ∧ w.cell? ⟨(ad.add (i.toNat * 14)).block, (ad.add (i.toNat * 14)).off + 9, none⟩ = some (.slice A9 (rd_T81 xs i).f3.f1.length c9) ∧ w.cell? ⟨(ad.add (i.toNat * 14)).block, (ad.add (i.toNat * 14)).off + 10, none⟩ = some (.int .i64 (rd_T81 xs i).f3.f2) ∧ w.cell? ⟨(ad.add (i.toNat * 14)).block, (ad.add (i.toNat * 14)).off + 11, none⟩ = some (.int .i64 (rd_T81 xs i).f3.f3) ∧ w.cell? ⟨(ad.add (i.toNat * 14)).block, (ad.add (i.toNat * 14)).off + 12, none⟩ = some (.int .i64 (rd_T81 xs i).f3.f4) ∧ w.cell? ⟨(ad.add (i.toNat * 14)).block, (ad.add (i.toNat * 14)).off + 13, none⟩ = some (.int .i64 (rd_T81 xs i).f3.f5) ∧ (rd_T81 xs i).f1.f0.length ≤ c1 ∧ (Kd.int .u8).C w A1 (rd_T81 xs i).f1.f0.length (rd_T81 xs i).f1.f0 ∧ (rd_T81 xs i).f1.f1.length ≤ c2 ∧ (Kd.int .u8).C w A2 (rd_T81 xs i).f1.f1.length (rd_T81 xs i).f1.f1 ∧ (rd_T81 xs i).f3.f0.length ≤ c8 ∧ (Kd.int .u8).C w A8 (rd_T81 xs i).f3.f0.length (rd_T81 xs i).f3.f0 ∧ (rd_T81 xs i).f3.f1.length ≤ c9 ∧ (Kd.int .u8).C w A9 (rd_T81 xs i).f3.f1.length (rd_T81 xs i).f3.f1 := by
  obtain ⟨ad, c, e, _, hK, hc0⟩ := Kd.C_get h z81 i h0 h1; have hc : ∀ j u, c[j]? = some u → w.cell? (ad.add (i.toNat * 14 + j)) = some u := hc0; obtain ⟨A1, c1, A2, c2, A8, c8, A9, c9, rfl, l1, g1, l2, g2, l8, g8, l9, g9⟩ := k81_open hK
  exact ⟨ad, A1, c1, A2, c2, A8, c8, A9, c9, e, hc 0 _ rfl, by rw [← add_field _ _ 1 (by omega)]; exact hc 1 _ rfl, by rw [← add_field _ _ 2 (by omega)]; exact hc 2 _ rfl, by rw [← add_field _ _ 3 (by omega)]; exact hc 3 _ rfl, by rw [← add_field _ _ 4 (by omega)]; exact hc 4 _ rfl, by rw [← add_field _ _ 5 (by omega)]; exact hc 5 _ rfl, by rw [← add_field _ _ 6 (by omega)]; exact hc 6 _ rfl, by rw [← add_field _ _ 7 (by omega)]; exact hc 7 _ rfl, by rw [← add_field _ _ 8 (by omega)]; exact hc 8 _ rfl, by rw [← add_field _ _ 9 (by omega)]; exact hc 9 _ rfl, by rw [← add_field _ _ 10 (by omega)]; exact hc 10 _ rfl, by rw [← add_field _ _ 11 (by omega)]; exact hc 11 _ rfl, by rw [← add_field _ _ 12 (by omega)]; exact hc 12 _ rfl, by rw [← add_field _ _ 13 (by omega)]; exact hc 13 _ rfl, l1, g1, l2, g2, l8, g8, l9, g9⟩

def rd_L9 (xs : List (List S81)) (i : Int) : (List S81) := xs.getD i.toNat ([] : List S81)
theorem at_L9 {w : World} {A : Option Addr} {n : Nat} {xs : List (List S81)} (h : Kd.C (Kd.slice 81 k81) w A n xs) (i : Int) (h0 : 0 ≤ i) (h1 : i < n) : ∃ ad A0 c0, A = some ad ∧ w.cell? (ad.add i.toNat) = some (.slice A0 (rd_L9 xs i).length c0) ∧ (rd_L9 xs i).length ≤ c0 ∧ k81.C w A0 (rd_L9 xs i).length (rd_L9 xs i) := by
  obtain ⟨ad, c, e, _, hK, hc0⟩ := Kd.C_get h ([] : List S81) i h0 h1; have hc : ∀ j u, c[j]? = some u → w.cell? (ad.add (i.toNat * 1 + j)) = some u := hc0; obtain ⟨A0, c0, rfl, l0, g0⟩ := hK
  exact ⟨ad, A0, c0, e, by have hq := hc 0 _ rfl; rwa [Nat.mul_one, Nat.add_zero] at hq, l0, g0⟩

/-! #### struct type 44 -/
structure S44 where
  f0 : Int
  f1 : (List S81)
  f2 : Bool
  f3 : Int
  f4 : Bool
  f5 : Int
def z44 : S44 := ⟨(0 : Int), ([] : List S81), false, (0 : Int), false, (0 : Int)⟩
def k44 : Kd S44 := Kd.iso (Kd.pair (Kd.int .i64) (Kd.pair (Kd.slice 81 k81) (Kd.pair Kd.bool (Kd.pair (Kd.int .i64) (Kd.pair Kd.bool (Kd.int .i64)))))) (fun x : S44 => (x.f0, x.f1, x.f2, x.f3, x.f4, x.f5))
theorem k44_heap : Kd.Heap k44 := Kd.heap_iso _ (Kd.heap_pair (Kd.heap_int .i64) (Kd.heap_pair (Kd.heap_slice 81 k81_heap) (Kd.heap_pair Kd.heap_bool (Kd.heap_pair (Kd.heap_int .i64) (Kd.heap_pair Kd.heap_bool (Kd.heap_int .i64))))))
theorem k44_open {w : World} {x : S44} {cs : List Value} (h : k44.K w x cs) : ∃ A1 c1, cs = [.int .i64 x.f0, .slice A1 x.f1.length c1, .bool x.f2, .int .i64 x.f3, .bool x.f4, .int .i64 x.f5] ∧ x.f1.length ≤ c1 ∧ k81.C w A1 x.f1.length x.f1 := by
  obtain ⟨_, _, rfl, rfl, ⟨_, _, rfl, ⟨A1, c1, rfl, l1, g1⟩, ⟨_, _, rfl, rfl, ⟨_, _, rfl, rfl, ⟨_, _, rfl, rfl, rfl⟩⟩⟩⟩⟩ := h
  exact ⟨A1, c1, rfl, l1, g1⟩
theorem k44_openM {w : World} {base : Nat} {ok : Nat → Prop} {x : S44} {cs : List Value} (h : k44.M w base ok x cs) : ∃ v1, cs = [.int .i64 x.f0, v1, .bool x.f2, .int .i64 x.f3, .bool x.f4, .int .i64 x.f5] ∧ k81.R 81 w base ok v1 x.f1 := by
  obtain ⟨_, _, rfl, rfl, ⟨_, _, rfl, ⟨v1, rfl, g1⟩, ⟨_, _, rfl, rfl, ⟨_, _, rfl, rfl, ⟨_, _, rfl, rfl, rfl⟩⟩⟩⟩⟩ := h
  exact ⟨v1, rfl, g1⟩
theorem k44_mk (w : World) (x : S44) {A1 : Option Addr} {c1 : Nat} (l1 : x.f1.length ≤ c1) (g1 : k81.C w A1 x.f1.length x.f1) : k44.K w x [.int .i64 x.f0, .slice A1 x.f1.length c1, .bool x.f2, .int .i64 x.f3, .bool x.f4, .int .i64 x.f5] := ⟨[.int .i64 x.f0], [.slice A1 x.f1.length c1, .bool x.f2, .int .i64 x.f3, .bool x.f4, .int .i64 x.f5], rfl, rfl, ⟨[.slice A1 x.f1.length c1], [.bool x.f2, .int .i64 x.f3, .bool x.f4, .int .i64 x.f5], rfl, ⟨A1, c1, rfl, l1, g1⟩, ⟨[.bool x.f2], [.int .i64 x.f3, .bool x.f4, .int .i64 x.f5], rfl, rfl, ⟨[.int .i64 x.f3], [.bool x.f4, .int .i64 x.f5], rfl, rfl, ⟨[.bool x.f4], [.int .i64 x.f5], rfl, rfl, rfl⟩⟩⟩⟩⟩
theorem k44_mkM (w : World) (base : Nat) (ok : Nat → Prop) (x : S44) {v1 : Value} (g1 : k81.R 81 w base ok v1 x.f1) : k44.M w base ok x [.int .i64 x.f0, v1, .bool x.f2, .int .i64 x.f3, .bool x.f4, .int .i64 x.f5] := ⟨[.int .i64 x.f0], [v1, .bool x.f2, .int .i64 x.f3, .bool x.f4, .int .i64 x.f5], rfl, rfl, ⟨[v1], [.bool x.f2, .int .i64 x.f3, .bool x.f4, .int .i64 x.f5], rfl, ⟨v1, rfl, g1⟩, ⟨[.bool x.f2], [.int .i64 x.f3, .bool x.f4, .int .i64 x.f5], rfl, rfl, ⟨[.int .i64 x.f3], [.bool x.f4, .int .i64 x.f5], rfl, rfl, ⟨[.bool x.f4], [.int .i64 x.f5], rfl, rfl, rfl⟩⟩⟩⟩⟩
theorem k44_openF {W : World} {ok : Nat → Prop} {x : S44} {cs : List Value} (h : Kd.FK k44 W ok x cs) : ∃ A1 c1, cs = [.int .i64 x.f0, .slice A1 x.f1.length c1, .bool x.f2, .int .i64 x.f3, .bool x.f4, .int .i64 x.f5] ∧ x.f1.length ≤ c1 ∧ Kd.F k81 W ok A1 x.f1.length x.f1 := by
  obtain ⟨A1, c1, rfl, l1, _⟩ := k44_open (Kd.FK_now h)
  exact ⟨A1, c1, rfl, l1, (fun W' hW => by obtain ⟨A1_, c1_, he, l1_, g1_⟩ := k44_open (h W' hW); injection (Option.some.inj (show some (Value.slice A1 x.f1.length c1) = some (Value.slice A1_ x.f1.length c1_) from congrArg (fun l => l[1]?) he)) with ha_ _ _; rw [ha_]; exact g1_)⟩
theorem k44_mkF (W : World) (ok : Nat → Prop) (x : S44) {A1 : Option Addr} {c1 : Nat} (l1 : x.f1.length ≤ c1) (g1 : Kd.F k81 W ok A1 x.f1.length x.f1) : Kd.FK k44 W ok x [.int .i64 x.f0, .slice A1 x.f1.length c1, .bool x.f2, .int .i64 x.f3, .bool x.f4, .int .i64 x.f5] := fun W2 hW => k44_mk W2 x l1 (g1 W2 hW)
def rd_T44 (xs : List S44) (i : Int) : S44 := xs.getD i.toNat z44
theorem at_T44 {w : World} {A : Option Addr} {n : Nat} {xs : List S44} (h : Kd.C k44 w A n xs) (i : Int) (h0 : 0 ≤ i) (h1 : i < n) : ∃ ad A1 c1, A = some ad ∧ w.cell? (ad.add (i.toNat * 6)) = some (.int .i64 (rd_T44 xs i).f0) ∧ w.cell? ⟨(ad.add (i.toNat * 6)).block, (ad.add (i.toNat * 6)).off + 1, none⟩ = some (.slice A1 (rd_T44 xs i).f1.length c1) ∧ w.cell? ⟨(ad.add (i.toNat * 6)).block, (ad.add (i.toNat * 6)).off + 2, none⟩ = some (.bool (rd_T44 xs i).f2) ∧ w.cell? ⟨(ad.add (i.toNat * 6)).block, (ad.add (i.toNat * 6)).off + 3, none⟩ = some (.int .i64 (rd_T44 xs i).f3) ∧ w.cell? ⟨(ad.add (i.toNat * 6)).block, (ad.add (i.toNat * 6)).off + 4, none⟩ = some (.bool (rd_T44 xs i).f4) ∧ w.cell? ⟨(ad.add (i.toNat * 6)).block, (ad.add (i.toNat * 6)).off + 5, none⟩ = some (.int .i64 (rd_T44 xs i).f5) ∧ (rd_T44 xs i).f1.length ≤ c1 ∧ k81.C w A1 (rd_T44 xs i).f1.length (rd_T44 xs i).f1 := by
  obtain ⟨ad, c, e, _, hK, hc0⟩ := Kd.C_get h z44 i h0 h1; have hc : ∀ j u, c[j]? = some u → w.cell? (ad.add (i.toNat * 6 + j)) = some u := hc0; obtain ⟨A1, c1, rfl, l1, g1⟩ := k44_open hK
  exact ⟨ad, A1, c1, e, hc 0 _ rfl, by rw [← add_field _ _ 1 (by omega)]; exact hc 1 _ rfl, by rw [← add_field _ _ 2 (by omega)]; exact hc 2 _ rfl, by rw [← add_field _ _ 3 (by omega)]; exact hc 3 _ rfl, by rw [← add_field _ _ 4 (by omega)]; exact hc 4 _ rfl, by rw [← add_field _ _ 5 (by omega)]; exact hc 5 _ rfl, l1, g1⟩

end Go.Proofs.Ytlhjdmpclfhoeaa.PJ
