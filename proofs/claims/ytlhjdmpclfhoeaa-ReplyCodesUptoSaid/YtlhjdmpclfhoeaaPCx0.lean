-- Written by wip/printx.py, a program of this work over the kit's print, for this claim.
import Derived.Test.YtlhjdmpclfhoeaaProg
import Derived.Below
import Derived.Deep.Draws
import Derived.Deep.AppendLies
import Derived.Maps.AppendAt
import Derived.OwnWalk
import Derived.Laws.BytesArg
import Derived.Laws.MakeOwn
import Derived.Laws.OwnMore
import Derived.Deep.OwnRows
import Derived.Tactics
import Derived.Lib.ConvBytes
import Derived.Laws.Slices
import Derived.WalkKit
import Derived.KernelRfl
import Derived.RowKit3
import Derived.Deep.LoopGhost
import Derived.Deep.QuietTactic
import Derived.BigQuiet
import Derived.WideLaws
import Derived.Deep.DeepCutAuto
import Derived.Deep.CutBlock
import Derived.Deep.RegionHeld3
import Derived.Laws.Rows
import Derived.Lib.AppendStr
import Derived.ArgAppend
import Derived.Laws.IdiomCopy
import Derived.OrdersHeld
import Derived.Laws.BitsLemmas
import Derived.RowKit
import Derived.Test.YtlhjdmpclfhoeaaExt
import Derived.Test.YtlhjdmpclfhoeaaExtW
import Derived.Test.YtlhjdmpclfhoeaaOpen
import Derived.Test.YtlhjdmpclfhoeaaVWords
import Derived.Test.YtlhjdmpclfhoeaaVLast
import Derived.Test.YtlhjdmpclfhoeaaVTab
import Derived.Test.YtlhjdmpclfhoeaaVApart
import Derived.Test.YtlhjdmpclfhoeaaVShare
import Derived.Test.YtlhjdmpclfhoeaaVN
import Derived.Laws.StructEq
import Derived.Test.YtlhjdmpclfhoeaaVRepsOne
import Derived.Test.YtlhjdmpclfhoeaaVGuard
import Derived.Test.YtlhjdmpclfhoeaaVMore
namespace Go.Proofs.Ytlhjdmpclfhoeaa.PC
open Go.RowKit Go.Proofs.YtlhjdmpclfhoeaaW.PrintWords Go.Proofs.YtlhjdmpclfhoeaaW.PrintLast Go.Proofs.YtlhjdmpclfhoeaaW.PrintMore
attribute [local go_sem] max2_int min2_int max_two min_two max_three min_three max_four min_four   -- for this text's walks alone
attribute [local go_sem] Ext.pick_u8 Ext.pick_u32 Ext.pick_u64
set_option linter.unusedVariables false
set_option linter.unusedSimpArgs false



def errW : Option Int → Value
  | none => .nilIface
  | some c => .iface 0 (.int .i64 c)
theorem errW_none : errW none = .nilIface := rfl
theorem errW_some (c : Int) : errW (some c) = .iface 0 (.int .i64 c) := rfl

theorem info2 : (Try.prog.info? 2).map (fun i => (i.zero, i.size, i.bytes)) = some (some (.int .i64 0), 1, 8) := by kernel_rfl
theorem info5 : (Try.prog.info? 5).map (fun i => (i.zero, i.size, i.bytes)) = some (some (.int .u8 0), 1, 1) := by kernel_rfl
theorem info27 : (Try.prog.info? 27).map (fun i => (i.zero, i.size, i.bytes)) = some (some (.agg #[(.int .i64 0), (.slice none 0 0), (.int .i64 0), (.bool false), (.slice none 0 0), (.int .i64 0)]), 6, 80) := by kernel_rfl
theorem info69 : (Try.prog.info? 69).map (fun i => (i.zero, i.size, i.bytes)) = some (some (.agg #[(.bool false), (.bool false), (.bool false), (.bool false), (.bool false), (.bool false), (.bool false), (.bool false), (.bool false)]), 9, 9) := by kernel_rfl
theorem info79 : (Try.prog.info? 79).map (fun i => (i.zero, i.size, i.bytes)) = some (some (.agg #[(.slice none 0 0), (.slice none 0 0), (.int .i64 0), (.int .i64 0), (.int .i64 0), (.int .i64 0)]), 6, 80) := by kernel_rfl
-- the values' own types
def rd_L1 (xs : List (List Int)) (i : Int) : (List Int) := xs.getD i.toNat ([] : List Int)
theorem at_L1 {w : World} {A : Option Addr} {n : Nat} {xs : List (List Int)} (h : Kd.C (Kd.slice 5 (Kd.int .u8)) w A n xs) (i : Int) (h0 : 0 ≤ i) (h1 : i < n) : ∃ ad A0 c0, A = some ad ∧ w.cell? (ad.add i.toNat) = some (.slice A0 (rd_L1 xs i).length c0) ∧ (rd_L1 xs i).length ≤ c0 ∧ (Kd.int .u8).C w A0 (rd_L1 xs i).length (rd_L1 xs i) := by
  obtain ⟨ad, c, e, _, hK, hc0⟩ := Kd.C_get h ([] : List Int) i h0 h1; have hc : ∀ j u, c[j]? = some u → w.cell? (ad.add (i.toNat * 1 + j)) = some u := hc0; obtain ⟨A0, c0, rfl, l0, g0⟩ := hK
  exact ⟨ad, A0, c0, e, by have hq := hc 0 _ rfl; rwa [Nat.mul_one, Nat.add_zero] at hq, l0, g0⟩

/-! #### struct type 79 -/
structure S79 where
  f0 : (List Int)
  f1 : (List Int)
  f2 : Int
  f3 : Int
  f4 : Int
  f5 : Int
def z79 : S79 := ⟨([] : List Int), ([] : List Int), (0 : Int), (0 : Int), (0 : Int), (0 : Int)⟩
def k79 : Kd S79 := Kd.iso (Kd.pair (Kd.slice 5 (Kd.int .u8)) (Kd.pair (Kd.slice 5 (Kd.int .u8)) (Kd.pair (Kd.int .i64) (Kd.pair (Kd.int .i64) (Kd.pair (Kd.int .i64) (Kd.int .i64)))))) (fun x : S79 => (x.f0, x.f1, x.f2, x.f3, x.f4, x.f5))
theorem k79_open {w : World} {x : S79} {cs : List Value} (h : k79.K w x cs) : ∃ A0 c0 A1 c1, cs = [.slice A0 x.f0.length c0, .slice A1 x.f1.length c1, .int .i64 x.f2, .int .i64 x.f3, .int .i64 x.f4, .int .i64 x.f5] ∧ x.f0.length ≤ c0 ∧ (Kd.int .u8).C w A0 x.f0.length x.f0 ∧ x.f1.length ≤ c1 ∧ (Kd.int .u8).C w A1 x.f1.length x.f1 := by
  obtain ⟨_, _, rfl, ⟨A0, c0, rfl, l0, g0⟩, ⟨_, _, rfl, ⟨A1, c1, rfl, l1, g1⟩, ⟨_, _, rfl, rfl, ⟨_, _, rfl, rfl, ⟨_, _, rfl, rfl, rfl⟩⟩⟩⟩⟩ := h
  exact ⟨A0, c0, A1, c1, rfl, l0, g0, l1, g1⟩
theorem k79_openM {w : World} {base : Nat} {ok : Nat → Prop} {x : S79} {cs : List Value} (h : k79.M w base ok x cs) : ∃ v0 v1, cs = [v0, v1, .int .i64 x.f2, .int .i64 x.f3, .int .i64 x.f4, .int .i64 x.f5] ∧ (Kd.int .u8).R 5 w base ok v0 x.f0 ∧ (Kd.int .u8).R 5 w base ok v1 x.f1 := by
  obtain ⟨_, _, rfl, ⟨v0, rfl, g0⟩, ⟨_, _, rfl, ⟨v1, rfl, g1⟩, ⟨_, _, rfl, rfl, ⟨_, _, rfl, rfl, ⟨_, _, rfl, rfl, rfl⟩⟩⟩⟩⟩ := h
  exact ⟨v0, v1, rfl, g0, g1⟩
theorem k79_mk (w : World) (x : S79) {A0 : Option Addr} {c0 : Nat} (l0 : x.f0.length ≤ c0) (g0 : (Kd.int .u8).C w A0 x.f0.length x.f0) {A1 : Option Addr} {c1 : Nat} (l1 : x.f1.length ≤ c1) (g1 : (Kd.int .u8).C w A1 x.f1.length x.f1) : k79.K w x [.slice A0 x.f0.length c0, .slice A1 x.f1.length c1, .int .i64 x.f2, .int .i64 x.f3, .int .i64 x.f4, .int .i64 x.f5] := ⟨[.slice A0 x.f0.length c0], [.slice A1 x.f1.length c1, .int .i64 x.f2, .int .i64 x.f3, .int .i64 x.f4, .int .i64 x.f5], rfl, ⟨A0, c0, rfl, l0, g0⟩, ⟨[.slice A1 x.f1.length c1], [.int .i64 x.f2, .int .i64 x.f3, .int .i64 x.f4, .int .i64 x.f5], rfl, ⟨A1, c1, rfl, l1, g1⟩, ⟨[.int .i64 x.f2], [.int .i64 x.f3, .int .i64 x.f4, .int .i64 x.f5], rfl, rfl, ⟨[.int .i64 x.f3], [.int .i64 x.f4, .int .i64 x.f5], rfl, rfl, ⟨[.int .i64 x.f4], [.int .i64 x.f5], rfl, rfl, rfl⟩⟩⟩⟩⟩
theorem k79_mkM (w : World) (base : Nat) (ok : Nat → Prop) (x : S79) {v0 : Value} (g0 : (Kd.int .u8).R 5 w base ok v0 x.f0) {v1 : Value} (g1 : (Kd.int .u8).R 5 w base ok v1 x.f1) : k79.M w base ok x [v0, v1, .int .i64 x.f2, .int .i64 x.f3, .int .i64 x.f4, .int .i64 x.f5] := ⟨[v0], [v1, .int .i64 x.f2, .int .i64 x.f3, .int .i64 x.f4, .int .i64 x.f5], rfl, ⟨v0, rfl, g0⟩, ⟨[v1], [.int .i64 x.f2, .int .i64 x.f3, .int .i64 x.f4, .int .i64 x.f5], rfl, ⟨v1, rfl, g1⟩, ⟨[.int .i64 x.f2], [.int .i64 x.f3, .int .i64 x.f4, .int .i64 x.f5], rfl, rfl, ⟨[.int .i64 x.f3], [.int .i64 x.f4, .int .i64 x.f5], rfl, rfl, ⟨[.int .i64 x.f4], [.int .i64 x.f5], rfl, rfl, rfl⟩⟩⟩⟩⟩
def rd_T79 (xs : List S79) (i : Int) : S79 := xs.getD i.toNat z79
theorem at_T79 {w : World} {A : Option Addr} {n : Nat} {xs : List S79} (h : Kd.C k79 w A n xs) (i : Int) (h0 : 0 ≤ i) (h1 : i < n) : ∃ ad A0 c0 A1 c1, A = some ad ∧ w.cell? (ad.add (i.toNat * 6)) = some (.slice A0 (rd_T79 xs i).f0.length c0) ∧ w.cell? ⟨(ad.add (i.toNat * 6)).block, (ad.add (i.toNat * 6)).off + 1, none⟩ = some (.slice A1 (rd_T79 xs i).f1.length c1) ∧ w.cell? ⟨(ad.add (i.toNat * 6)).block, (ad.add (i.toNat * 6)).off + 2, none⟩ = some (.int .i64 (rd_T79 xs i).f2) ∧ w.cell? ⟨(ad.add (i.toNat * 6)).block, (ad.add (i.toNat * 6)).off + 3, none⟩ = some (.int .i64 (rd_T79 xs i).f3) ∧ w.cell? ⟨(ad.add (i.toNat * 6)).block, (ad.add (i.toNat * 6)).off + 4, none⟩ = some (.int .i64 (rd_T79 xs i).f4) ∧ w.cell? ⟨(ad.add (i.toNat * 6)).block, (ad.add (i.toNat * 6)).off + 5, none⟩ = some (.int .i64 (rd_T79 xs i).f5) ∧ (rd_T79 xs i).f0.length ≤ c0 ∧ (Kd.int .u8).C w A0 (rd_T79 xs i).f0.length (rd_T79 xs i).f0 ∧ (rd_T79 xs i).f1.length ≤ c1 ∧ (Kd.int .u8).C w A1 (rd_T79 xs i).f1.length (rd_T79 xs i).f1 := by
  obtain ⟨ad, c, e, _, hK, hc0⟩ := Kd.C_get h z79 i h0 h1; have hc : ∀ j u, c[j]? = some u → w.cell? (ad.add (i.toNat * 6 + j)) = some u := hc0; obtain ⟨A0, c0, A1, c1, rfl, l0, g0, l1, g1⟩ := k79_open hK
  exact ⟨ad, A0, c0, A1, c1, e, hc 0 _ rfl, by rw [← add_field _ _ 1 (by omega)]; exact hc 1 _ rfl, by rw [← add_field _ _ 2 (by omega)]; exact hc 2 _ rfl, by rw [← add_field _ _ 3 (by omega)]; exact hc 3 _ rfl, by rw [← add_field _ _ 4 (by omega)]; exact hc 4 _ rfl, by rw [← add_field _ _ 5 (by omega)]; exact hc 5 _ rfl, l0, g0, l1, g1⟩

def rd_L4 (xs : List (List S79)) (i : Int) : (List S79) := xs.getD i.toNat ([] : List S79)
theorem at_L4 {w : World} {A : Option Addr} {n : Nat} {xs : List (List S79)} (h : Kd.C (Kd.slice 79 k79) w A n xs) (i : Int) (h0 : 0 ≤ i) (h1 : i < n) : ∃ ad A0 c0, A = some ad ∧ w.cell? (ad.add i.toNat) = some (.slice A0 (rd_L4 xs i).length c0) ∧ (rd_L4 xs i).length ≤ c0 ∧ k79.C w A0 (rd_L4 xs i).length (rd_L4 xs i) := by
  obtain ⟨ad, c, e, _, hK, hc0⟩ := Kd.C_get h ([] : List S79) i h0 h1; have hc : ∀ j u, c[j]? = some u → w.cell? (ad.add (i.toNat * 1 + j)) = some u := hc0; obtain ⟨A0, c0, rfl, l0, g0⟩ := hK
  exact ⟨ad, A0, c0, e, by have hq := hc 0 _ rfl; rwa [Nat.mul_one, Nat.add_zero] at hq, l0, g0⟩

/-! #### struct type 25 -/
structure S25 where
  f0 : (List S79)
  f1 : Int
  f2 : Bool
def z25 : S25 := ⟨([] : List S79), (0 : Int), false⟩
def k25 : Kd S25 := Kd.iso (Kd.pair (Kd.slice 79 k79) (Kd.pair (Kd.int .i64) Kd.bool)) (fun x : S25 => (x.f0, x.f1, x.f2))
theorem k25_open {w : World} {x : S25} {cs : List Value} (h : k25.K w x cs) : ∃ A0 c0, cs = [.slice A0 x.f0.length c0, .int .i64 x.f1, .bool x.f2] ∧ x.f0.length ≤ c0 ∧ k79.C w A0 x.f0.length x.f0 := by
  obtain ⟨_, _, rfl, ⟨A0, c0, rfl, l0, g0⟩, ⟨_, _, rfl, rfl, rfl⟩⟩ := h
  exact ⟨A0, c0, rfl, l0, g0⟩
theorem k25_openM {w : World} {base : Nat} {ok : Nat → Prop} {x : S25} {cs : List Value} (h : k25.M w base ok x cs) : ∃ v0, cs = [v0, .int .i64 x.f1, .bool x.f2] ∧ k79.R 79 w base ok v0 x.f0 := by
  obtain ⟨_, _, rfl, ⟨v0, rfl, g0⟩, ⟨_, _, rfl, rfl, rfl⟩⟩ := h
  exact ⟨v0, rfl, g0⟩
theorem k25_mk (w : World) (x : S25) {A0 : Option Addr} {c0 : Nat} (l0 : x.f0.length ≤ c0) (g0 : k79.C w A0 x.f0.length x.f0) : k25.K w x [.slice A0 x.f0.length c0, .int .i64 x.f1, .bool x.f2] := ⟨[.slice A0 x.f0.length c0], [.int .i64 x.f1, .bool x.f2], rfl, ⟨A0, c0, rfl, l0, g0⟩, ⟨[.int .i64 x.f1], [.bool x.f2], rfl, rfl, rfl⟩⟩
theorem k25_mkM (w : World) (base : Nat) (ok : Nat → Prop) (x : S25) {v0 : Value} (g0 : k79.R 79 w base ok v0 x.f0) : k25.M w base ok x [v0, .int .i64 x.f1, .bool x.f2] := ⟨[v0], [.int .i64 x.f1, .bool x.f2], rfl, ⟨v0, rfl, g0⟩, ⟨[.int .i64 x.f1], [.bool x.f2], rfl, rfl, rfl⟩⟩
def rd_T25 (xs : List S25) (i : Int) : S25 := xs.getD i.toNat z25
theorem at_T25 {w : World} {A : Option Addr} {n : Nat} {xs : List S25} (h : Kd.C k25 w A n xs) (i : Int) (h0 : 0 ≤ i) (h1 : i < n) : ∃ ad A0 c0, A = some ad ∧ w.cell? (ad.add (i.toNat * 3)) = some (.slice A0 (rd_T25 xs i).f0.length c0) ∧ w.cell? ⟨(ad.add (i.toNat * 3)).block, (ad.add (i.toNat * 3)).off + 1, none⟩ = some (.int .i64 (rd_T25 xs i).f1) ∧ w.cell? ⟨(ad.add (i.toNat * 3)).block, (ad.add (i.toNat * 3)).off + 2, none⟩ = some (.bool (rd_T25 xs i).f2) ∧ (rd_T25 xs i).f0.length ≤ c0 ∧ k79.C w A0 (rd_T25 xs i).f0.length (rd_T25 xs i).f0 := by
  obtain ⟨ad, c, e, _, hK, hc0⟩ := Kd.C_get h z25 i h0 h1; have hc : ∀ j u, c[j]? = some u → w.cell? (ad.add (i.toNat * 3 + j)) = some u := hc0; obtain ⟨A0, c0, rfl, l0, g0⟩ := k25_open hK
  exact ⟨ad, A0, c0, e, hc 0 _ rfl, by rw [← add_field _ _ 1 (by omega)]; exact hc 1 _ rfl, by rw [← add_field _ _ 2 (by omega)]; exact hc 2 _ rfl, l0, g0⟩

/-! #### struct type 27 -/
structure S27 where
  f0 : Int
  f1 : S25
  f2 : (List S79)
  f3 : Int
def z27 : S27 := ⟨(0 : Int), z25, ([] : List S79), (0 : Int)⟩
def k27 : Kd S27 := Kd.iso (Kd.pair (Kd.int .i64) (Kd.pair k25 (Kd.pair (Kd.slice 79 k79) (Kd.int .i64)))) (fun x : S27 => (x.f0, x.f1, x.f2, x.f3))
theorem k27_open {w : World} {x : S27} {cs : List Value} (h : k27.K w x cs) : ∃ A1 c1 A4 c4, cs = [.int .i64 x.f0, .slice A1 x.f1.f0.length c1, .int .i64 x.f1.f1, .bool x.f1.f2, .slice A4 x.f2.length c4, .int .i64 x.f3] ∧ x.f1.f0.length ≤ c1 ∧ k79.C w A1 x.f1.f0.length x.f1.f0 ∧ x.f2.length ≤ c4 ∧ k79.C w A4 x.f2.length x.f2 := by
  obtain ⟨_, _, rfl, rfl, ⟨_, _, rfl, s1, ⟨_, _, rfl, ⟨A4, c4, rfl, l4, g4⟩, rfl⟩⟩⟩ := h; obtain ⟨A1, c1, rfl, l1, g1⟩ := k25_open s1
  exact ⟨A1, c1, A4, c4, rfl, l1, g1, l4, g4⟩
theorem k27_openM {w : World} {base : Nat} {ok : Nat → Prop} {x : S27} {cs : List Value} (h : k27.M w base ok x cs) : ∃ v1 v4, cs = [.int .i64 x.f0, v1, .int .i64 x.f1.f1, .bool x.f1.f2, v4, .int .i64 x.f3] ∧ k79.R 79 w base ok v1 x.f1.f0 ∧ k79.R 79 w base ok v4 x.f2 := by
  obtain ⟨_, _, rfl, rfl, ⟨_, _, rfl, s1, ⟨_, _, rfl, ⟨v4, rfl, g4⟩, rfl⟩⟩⟩ := h; obtain ⟨v1, rfl, g1⟩ := k25_openM s1
  exact ⟨v1, v4, rfl, g1, g4⟩
theorem k27_mk (w : World) (x : S27) {A1 : Option Addr} {c1 : Nat} (l1 : x.f1.f0.length ≤ c1) (g1 : k79.C w A1 x.f1.f0.length x.f1.f0) {A4 : Option Addr} {c4 : Nat} (l4 : x.f2.length ≤ c4) (g4 : k79.C w A4 x.f2.length x.f2) : k27.K w x [.int .i64 x.f0, .slice A1 x.f1.f0.length c1, .int .i64 x.f1.f1, .bool x.f1.f2, .slice A4 x.f2.length c4, .int .i64 x.f3] := ⟨[.int .i64 x.f0], [.slice A1 x.f1.f0.length c1, .int .i64 x.f1.f1, .bool x.f1.f2, .slice A4 x.f2.length c4, .int .i64 x.f3], rfl, rfl, ⟨[.slice A1 x.f1.f0.length c1, .int .i64 x.f1.f1, .bool x.f1.f2], [.slice A4 x.f2.length c4, .int .i64 x.f3], rfl, (k25_mk w x.f1 l1 g1), ⟨[.slice A4 x.f2.length c4], [.int .i64 x.f3], rfl, ⟨A4, c4, rfl, l4, g4⟩, rfl⟩⟩⟩
theorem k27_mkM (w : World) (base : Nat) (ok : Nat → Prop) (x : S27) {v1 : Value} (g1 : k79.R 79 w base ok v1 x.f1.f0) {v4 : Value} (g4 : k79.R 79 w base ok v4 x.f2) : k27.M w base ok x [.int .i64 x.f0, v1, .int .i64 x.f1.f1, .bool x.f1.f2, v4, .int .i64 x.f3] := ⟨[.int .i64 x.f0], [v1, .int .i64 x.f1.f1, .bool x.f1.f2, v4, .int .i64 x.f3], rfl, rfl, ⟨[v1, .int .i64 x.f1.f1, .bool x.f1.f2], [v4, .int .i64 x.f3], rfl, (k25_mkM w base ok x.f1 g1), ⟨[v4], [.int .i64 x.f3], rfl, ⟨v4, rfl, g4⟩, rfl⟩⟩⟩
def rd_T27 (xs : List S27) (i : Int) : S27 := xs.getD i.toNat z27
theorem at_T27 {w : World} {A : Option Addr} {n : Nat} {xs : List S27} (h : Kd.C k27 w A n xs) (i : Int) (h0 : 0 ≤ i) (h1 : i < n) : ∃ ad A1 c1 A4 c4, A = some ad ∧ w.cell? (ad.add (i.toNat * 6)) = some (.int .i64 (rd_T27 xs i).f0) ∧ w.cell? ⟨(ad.add (i.toNat * 6)).block, (ad.add (i.toNat * 6)).off + 1, none⟩ = some (.slice A1 (rd_T27 xs i).f1.f0.length c1) ∧ w.cell? ⟨(ad.add (i.toNat * 6)).block, (ad.add (i.toNat * 6)).off + 2, none⟩ = some (.int .i64 (rd_T27 xs i).f1.f1) ∧ w.cell? ⟨(ad.add (i.toNat * 6)).block, (ad.add (i.toNat * 6)).off + 3, none⟩ = some (.bool (rd_T27 xs i).f1.f2) ∧ w.cell? ⟨(ad.add (i.toNat * 6)).block, (ad.add (i.toNat * 6)).off + 4, none⟩ = some (.slice A4 (rd_T27 xs i).f2.length c4) ∧ w.cell? ⟨(ad.add (i.toNat * 6)).block, (ad.add (i.toNat * 6)).off + 5, none⟩ = some (.int .i64 (rd_T27 xs i).f3) ∧ (rd_T27 xs i).f1.f0.length ≤ c1 ∧ k79.C w A1 (rd_T27 xs i).f1.f0.length (rd_T27 xs i).f1.f0 ∧ (rd_T27 xs i).f2.length ≤ c4 ∧ k79.C w A4 (rd_T27 xs i).f2.length (rd_T27 xs i).f2 := by
  obtain ⟨ad, c, e, _, hK, hc0⟩ := Kd.C_get h z27 i h0 h1; have hc : ∀ j u, c[j]? = some u → w.cell? (ad.add (i.toNat * 6 + j)) = some u := hc0; obtain ⟨A1, c1, A4, c4, rfl, l1, g1, l4, g4⟩ := k27_open hK
  exact ⟨ad, A1, c1, A4, c4, e, hc 0 _ rfl, by rw [← add_field _ _ 1 (by omega)]; exact hc 1 _ rfl, by rw [← add_field _ _ 2 (by omega)]; exact hc 2 _ rfl, by rw [← add_field _ _ 3 (by omega)]; exact hc 3 _ rfl, by rw [← add_field _ _ 4 (by omega)]; exact hc 4 _ rfl, by rw [← add_field _ _ 5 (by omega)]; exact hc 5 _ rfl, l1, g1, l4, g4⟩

def rd_L8 (xs : List (List S27)) (i : Int) : (List S27) := xs.getD i.toNat ([] : List S27)
theorem at_L8 {w : World} {A : Option Addr} {n : Nat} {xs : List (List S27)} (h : Kd.C (Kd.slice 27 k27) w A n xs) (i : Int) (h0 : 0 ≤ i) (h1 : i < n) : ∃ ad A0 c0, A = some ad ∧ w.cell? (ad.add i.toNat) = some (.slice A0 (rd_L8 xs i).length c0) ∧ (rd_L8 xs i).length ≤ c0 ∧ k27.C w A0 (rd_L8 xs i).length (rd_L8 xs i) := by
  obtain ⟨ad, c, e, _, hK, hc0⟩ := Kd.C_get h ([] : List S27) i h0 h1; have hc : ∀ j u, c[j]? = some u → w.cell? (ad.add (i.toNat * 1 + j)) = some u := hc0; obtain ⟨A0, c0, rfl, l0, g0⟩ := hK
  exact ⟨ad, A0, c0, e, by have hq := hc 0 _ rfl; rwa [Nat.mul_one, Nat.add_zero] at hq, l0, g0⟩

def rd_L9 (xs : List (List Int)) (i : Int) : (List Int) := xs.getD i.toNat ([] : List Int)
theorem at_L9 {w : World} {A : Option Addr} {n : Nat} {xs : List (List Int)} (h : Kd.C (Kd.slice 2 (Kd.int .i64)) w A n xs) (i : Int) (h0 : 0 ≤ i) (h1 : i < n) : ∃ ad A0 c0, A = some ad ∧ w.cell? (ad.add i.toNat) = some (.slice A0 (rd_L9 xs i).length c0) ∧ (rd_L9 xs i).length ≤ c0 ∧ (Kd.int .i64).C w A0 (rd_L9 xs i).length (rd_L9 xs i) := by
  obtain ⟨ad, c, e, _, hK, hc0⟩ := Kd.C_get h ([] : List Int) i h0 h1; have hc : ∀ j u, c[j]? = some u → w.cell? (ad.add (i.toNat * 1 + j)) = some u := hc0; obtain ⟨A0, c0, rfl, l0, g0⟩ := hK
  exact ⟨ad, A0, c0, e, by have hq := hc 0 _ rfl; rwa [Nat.mul_one, Nat.add_zero] at hq, l0, g0⟩

def rd_L10 (xs : List (List (List Int))) (i : Int) : (List (List Int)) := xs.getD i.toNat ([] : List (List Int))
theorem at_L10 {w : World} {A : Option Addr} {n : Nat} {xs : List (List (List Int))} (h : Kd.C (Kd.slice 36 (Kd.slice 5 (Kd.int .u8))) w A n xs) (i : Int) (h0 : 0 ≤ i) (h1 : i < n) : ∃ ad A0 c0, A = some ad ∧ w.cell? (ad.add i.toNat) = some (.slice A0 (rd_L10 xs i).length c0) ∧ (rd_L10 xs i).length ≤ c0 ∧ (Kd.slice 5 (Kd.int .u8)).C w A0 (rd_L10 xs i).length (rd_L10 xs i) := by
  obtain ⟨ad, c, e, _, hK, hc0⟩ := Kd.C_get h ([] : List (List Int)) i h0 h1; have hc : ∀ j u, c[j]? = some u → w.cell? (ad.add (i.toNat * 1 + j)) = some u := hc0; obtain ⟨A0, c0, rfl, l0, g0⟩ := hK
  exact ⟨ad, A0, c0, e, by have hq := hc 0 _ rfl; rwa [Nat.mul_one, Nat.add_zero] at hq, l0, g0⟩

/-! #### struct type 33 -/
structure S33 where
  f0 : Int
  f1 : Int
  f2 : Int
  f3 : S27
  f4 : Bool
  f5 : (List S27)
  f6 : Int
  f7 : Int
  f8 : Int
  f9 : (List Int)
  f10 : (List (List Int))
  f11 : Int
  f12 : Int
def z33 : S33 := ⟨(0 : Int), (0 : Int), (0 : Int), z27, false, ([] : List S27), (0 : Int), (0 : Int), (0 : Int), ([] : List Int), ([] : List (List Int)), (0 : Int), (0 : Int)⟩
def k33 : Kd S33 := Kd.iso (Kd.pair (Kd.int .i64) (Kd.pair (Kd.int .i64) (Kd.pair (Kd.int .i64) (Kd.pair k27 (Kd.pair Kd.bool (Kd.pair (Kd.slice 27 k27) (Kd.pair (Kd.int .i64) (Kd.pair (Kd.int .i64) (Kd.pair (Kd.int .i64) (Kd.pair (Kd.slice 2 (Kd.int .i64)) (Kd.pair (Kd.slice 36 (Kd.slice 5 (Kd.int .u8))) (Kd.pair (Kd.int .u32) (Kd.int .i64))))))))))))) (fun x : S33 => (x.f0, x.f1, x.f2, x.f3, x.f4, x.f5, x.f6, x.f7, x.f8, x.f9, x.f10, x.f11, x.f12))
theorem k33_open {w : World} {x : S33} {cs : List Value} (h : k33.K w x cs) : ∃ A4 c4 A7 c7 A10 c10 A14 c14 A15 c15, cs = [.int .i64 x.f0, .int .i64 x.f1, .int .i64 x.f2, .int .i64 x.f3.f0, .slice A4 x.f3.f1.f0.length c4, .int .i64 x.f3.f1.f1, .bool x.f3.f1.f2, .slice A7 x.f3.f2.length c7, .int .i64 x.f3.f3, .bool x.f4, .slice A10 x.f5.length c10, .int .i64 x.f6, .int .i64 x.f7, .int .i64 x.f8, .slice A14 x.f9.length c14, .slice A15 x.f10.length c15, .int .u32 x.f11, .int .i64 x.f12] ∧ x.f3.f1.f0.length ≤ c4 ∧ k79.C w A4 x.f3.f1.f0.length x.f3.f1.f0 ∧ x.f3.f2.length ≤ c7 ∧ k79.C w A7 x.f3.f2.length x.f3.f2 ∧ x.f5.length ≤ c10 ∧ k27.C w A10 x.f5.length x.f5 ∧ x.f9.length ≤ c14 ∧ (Kd.int .i64).C w A14 x.f9.length x.f9 ∧ x.f10.length ≤ c15 ∧ (Kd.slice 5 (Kd.int .u8)).C w A15 x.f10.length x.f10 := by
  obtain ⟨_, _, rfl, rfl, ⟨_, _, rfl, rfl, ⟨_, _, rfl, rfl, ⟨_, _, rfl, s3, ⟨_, _, rfl, rfl, ⟨_, _, rfl, ⟨A10, c10, rfl, l10, g10⟩, ⟨_, _, rfl, rfl, ⟨_, _, rfl, rfl, ⟨_, _, rfl, rfl, ⟨_, _, rfl, ⟨A14, c14, rfl, l14, g14⟩, ⟨_, _, rfl, ⟨A15, c15, rfl, l15, g15⟩, ⟨_, _, rfl, rfl, rfl⟩⟩⟩⟩⟩⟩⟩⟩⟩⟩⟩⟩ := h; obtain ⟨A4, c4, A7, c7, rfl, l4, g4, l7, g7⟩ := k27_open s3
  exact ⟨A4, c4, A7, c7, A10, c10, A14, c14, A15, c15, rfl, l4, g4, l7, g7, l10, g10, l14, g14, l15, g15⟩
theorem k33_openM {w : World} {base : Nat} {ok : Nat → Prop} {x : S33} {cs : List Value} (h : k33.M w base ok x cs) : ∃ v4 v7 v10 v14 v15, cs = [.int .i64 x.f0, .int .i64 x.f1, .int .i64 x.f2, .int .i64 x.f3.f0, v4, .int .i64 x.f3.f1.f1, .bool x.f3.f1.f2, v7, .int .i64 x.f3.f3, .bool x.f4, v10, .int .i64 x.f6, .int .i64 x.f7, .int .i64 x.f8, v14, v15, .int .u32 x.f11, .int .i64 x.f12] ∧ k79.R 79 w base ok v4 x.f3.f1.f0 ∧ k79.R 79 w base ok v7 x.f3.f2 ∧ k27.R 27 w base ok v10 x.f5 ∧ (Kd.int .i64).R 2 w base ok v14 x.f9 ∧ (Kd.slice 5 (Kd.int .u8)).R 36 w base ok v15 x.f10 := by
  obtain ⟨_, _, rfl, rfl, ⟨_, _, rfl, rfl, ⟨_, _, rfl, rfl, ⟨_, _, rfl, s3, ⟨_, _, rfl, rfl, ⟨_, _, rfl, ⟨v10, rfl, g10⟩, ⟨_, _, rfl, rfl, ⟨_, _, rfl, rfl, ⟨_, _, rfl, rfl, ⟨_, _, rfl, ⟨v14, rfl, g14⟩, ⟨_, _, rfl, ⟨v15, rfl, g15⟩, ⟨_, _, rfl, rfl, rfl⟩⟩⟩⟩⟩⟩⟩⟩⟩⟩⟩⟩ := h; obtain ⟨v4, v7, rfl, g4, g7⟩ := k27_openM s3
  exact ⟨v4, v7, v10, v14, v15, rfl, g4, g7, g10, g14, g15⟩
theorem k33_mk (w : World) (x : S33) {A4 : Option Addr} {c4 : Nat} (l4 : x.f3.f1.f0.length ≤ c4) (g4 : k79.C w A4 x.f3.f1.f0.length x.f3.f1.f0) {A7 : Option Addr} {c7 : Nat} (l7 : x.f3.f2.length ≤ c7) (g7 : k79.C w A7 x.f3.f2.length x.f3.f2) {A10 : Option Addr} {c10 : Nat} (l10 : x.f5.length ≤ c10) (g10 : k27.C w A10 x.f5.length x.f5) {A14 : Option Addr} {c14 : Nat} (l14 : x.f9.length ≤ c14) (g14 : (Kd.int .i64).C w A14 x.f9.length x.f9) {A15 : Option Addr} {c15 : Nat} (l15 : x.f10.length ≤ c15) (g15 : (Kd.slice 5 (Kd.int .u8)).C w A15 x.f10.length x.f10) : k33.K w x [.int .i64 x.f0, .int .i64 x.f1, .int .i64 x.f2, .int .i64 x.f3.f0, .slice A4 x.f3.f1.f0.length c4, .int .i64 x.f3.f1.f1, .bool x.f3.f1.f2, .slice A7 x.f3.f2.length c7, .int .i64 x.f3.f3, .bool x.f4, .slice A10 x.f5.length c10, .int .i64 x.f6, .int .i64 x.f7, .int .i64 x.f8, .slice A14 x.f9.length c14, .slice A15 x.f10.length c15, .int .u32 x.f11, .int .i64 x.f12] := ⟨[.int .i64 x.f0], [.int .i64 x.f1, .int .i64 x.f2, .int .i64 x.f3.f0, .slice A4 x.f3.f1.f0.length c4, .int .i64 x.f3.f1.f1, .bool x.f3.f1.f2, .slice A7 x.f3.f2.length c7, .int .i64 x.f3.f3, .bool x.f4, .slice A10 x.f5.length c10, .int .i64 x.f6, .int .i64 x.f7, .int .i64 x.f8, .slice A14 x.f9.length c14, .slice A15 x.f10.length c15, .int .u32 x.f11, .int .i64 x.f12], rfl, rfl, ⟨[.int .i64 x.f1], [.int .i64 x.f2, .int .i64 x.f3.f0, .slice A4 x.f3.f1.f0.length c4, .int .i64 x.f3.f1.f1, .bool x.f3.f1.f2, .slice A7 x.f3.f2.length c7, .int .i64 x.f3.f3, .bool x.f4, .slice A10 x.f5.length c10, .int .i64 x.f6, .int .i64 x.f7, .int .i64 x.f8, .slice A14 x.f9.length c14, .slice A15 x.f10.length c15, .int .u32 x.f11, .int .i64 x.f12], rfl, rfl, ⟨[.int .i64 x.f2], [.int .i64 x.f3.f0, .slice A4 x.f3.f1.f0.length c4, .int .i64 x.f3.f1.f1, .bool x.f3.f1.f2, .slice A7 x.f3.f2.length c7, .int .i64 x.f3.f3, .bool x.f4, .slice A10 x.f5.length c10, .int .i64 x.f6, .int .i64 x.f7, .int .i64 x.f8, .slice A14 x.f9.length c14, .slice A15 x.f10.length c15, .int .u32 x.f11, .int .i64 x.f12], rfl, rfl, ⟨[.int .i64 x.f3.f0, .slice A4 x.f3.f1.f0.length c4, .int .i64 x.f3.f1.f1, .bool x.f3.f1.f2, .slice A7 x.f3.f2.length c7, .int .i64 x.f3.f3], [.bool x.f4, .slice A10 x.f5.length c10, .int .i64 x.f6, .int .i64 x.f7, .int .i64 x.f8, .slice A14 x.f9.length c14, .slice A15 x.f10.length c15, .int .u32 x.f11, .int .i64 x.f12], rfl, (k27_mk w x.f3 l4 g4 l7 g7), ⟨[.bool x.f4], [.slice A10 x.f5.length c10, .int .i64 x.f6, .int .i64 x.f7, .int .i64 x.f8, .slice A14 x.f9.length c14, .slice A15 x.f10.length c15, .int .u32 x.f11, .int .i64 x.f12], rfl, rfl, ⟨[.slice A10 x.f5.length c10], [.int .i64 x.f6, .int .i64 x.f7, .int .i64 x.f8, .slice A14 x.f9.length c14, .slice A15 x.f10.length c15, .int .u32 x.f11, .int .i64 x.f12], rfl, ⟨A10, c10, rfl, l10, g10⟩, ⟨[.int .i64 x.f6], [.int .i64 x.f7, .int .i64 x.f8, .slice A14 x.f9.length c14, .slice A15 x.f10.length c15, .int .u32 x.f11, .int .i64 x.f12], rfl, rfl, ⟨[.int .i64 x.f7], [.int .i64 x.f8, .slice A14 x.f9.length c14, .slice A15 x.f10.length c15, .int .u32 x.f11, .int .i64 x.f12], rfl, rfl, ⟨[.int .i64 x.f8], [.slice A14 x.f9.length c14, .slice A15 x.f10.length c15, .int .u32 x.f11, .int .i64 x.f12], rfl, rfl, ⟨[.slice A14 x.f9.length c14], [.slice A15 x.f10.length c15, .int .u32 x.f11, .int .i64 x.f12], rfl, ⟨A14, c14, rfl, l14, g14⟩, ⟨[.slice A15 x.f10.length c15], [.int .u32 x.f11, .int .i64 x.f12], rfl, ⟨A15, c15, rfl, l15, g15⟩, ⟨[.int .u32 x.f11], [.int .i64 x.f12], rfl, rfl, rfl⟩⟩⟩⟩⟩⟩⟩⟩⟩⟩⟩⟩
theorem k33_mkM (w : World) (base : Nat) (ok : Nat → Prop) (x : S33) {v4 : Value} (g4 : k79.R 79 w base ok v4 x.f3.f1.f0) {v7 : Value} (g7 : k79.R 79 w base ok v7 x.f3.f2) {v10 : Value} (g10 : k27.R 27 w base ok v10 x.f5) {v14 : Value} (g14 : (Kd.int .i64).R 2 w base ok v14 x.f9) {v15 : Value} (g15 : (Kd.slice 5 (Kd.int .u8)).R 36 w base ok v15 x.f10) : k33.M w base ok x [.int .i64 x.f0, .int .i64 x.f1, .int .i64 x.f2, .int .i64 x.f3.f0, v4, .int .i64 x.f3.f1.f1, .bool x.f3.f1.f2, v7, .int .i64 x.f3.f3, .bool x.f4, v10, .int .i64 x.f6, .int .i64 x.f7, .int .i64 x.f8, v14, v15, .int .u32 x.f11, .int .i64 x.f12] := ⟨[.int .i64 x.f0], [.int .i64 x.f1, .int .i64 x.f2, .int .i64 x.f3.f0, v4, .int .i64 x.f3.f1.f1, .bool x.f3.f1.f2, v7, .int .i64 x.f3.f3, .bool x.f4, v10, .int .i64 x.f6, .int .i64 x.f7, .int .i64 x.f8, v14, v15, .int .u32 x.f11, .int .i64 x.f12], rfl, rfl, ⟨[.int .i64 x.f1], [.int .i64 x.f2, .int .i64 x.f3.f0, v4, .int .i64 x.f3.f1.f1, .bool x.f3.f1.f2, v7, .int .i64 x.f3.f3, .bool x.f4, v10, .int .i64 x.f6, .int .i64 x.f7, .int .i64 x.f8, v14, v15, .int .u32 x.f11, .int .i64 x.f12], rfl, rfl, ⟨[.int .i64 x.f2], [.int .i64 x.f3.f0, v4, .int .i64 x.f3.f1.f1, .bool x.f3.f1.f2, v7, .int .i64 x.f3.f3, .bool x.f4, v10, .int .i64 x.f6, .int .i64 x.f7, .int .i64 x.f8, v14, v15, .int .u32 x.f11, .int .i64 x.f12], rfl, rfl, ⟨[.int .i64 x.f3.f0, v4, .int .i64 x.f3.f1.f1, .bool x.f3.f1.f2, v7, .int .i64 x.f3.f3], [.bool x.f4, v10, .int .i64 x.f6, .int .i64 x.f7, .int .i64 x.f8, v14, v15, .int .u32 x.f11, .int .i64 x.f12], rfl, (k27_mkM w base ok x.f3 g4 g7), ⟨[.bool x.f4], [v10, .int .i64 x.f6, .int .i64 x.f7, .int .i64 x.f8, v14, v15, .int .u32 x.f11, .int .i64 x.f12], rfl, rfl, ⟨[v10], [.int .i64 x.f6, .int .i64 x.f7, .int .i64 x.f8, v14, v15, .int .u32 x.f11, .int .i64 x.f12], rfl, ⟨v10, rfl, g10⟩, ⟨[.int .i64 x.f6], [.int .i64 x.f7, .int .i64 x.f8, v14, v15, .int .u32 x.f11, .int .i64 x.f12], rfl, rfl, ⟨[.int .i64 x.f7], [.int .i64 x.f8, v14, v15, .int .u32 x.f11, .int .i64 x.f12], rfl, rfl, ⟨[.int .i64 x.f8], [v14, v15, .int .u32 x.f11, .int .i64 x.f12], rfl, rfl, ⟨[v14], [v15, .int .u32 x.f11, .int .i64 x.f12], rfl, ⟨v14, rfl, g14⟩, ⟨[v15], [.int .u32 x.f11, .int .i64 x.f12], rfl, ⟨v15, rfl, g15⟩, ⟨[.int .u32 x.f11], [.int .i64 x.f12], rfl, rfl, rfl⟩⟩⟩⟩⟩⟩⟩⟩⟩⟩⟩⟩
def rd_T33 (xs : List S33) (i : Int) : S33 := xs.getD i.toNat z33
theorem at_T33 {w : World} {A : Option Addr} {n : Nat} {xs : List S33} (h : Kd.C k33 w A n xs) (i : Int) (h0 : 0 ≤ i) (h1 : i < n) : ∃ ad A4 c4 A7 c7 A10 c10 A14 c14 A15 c15, A = some ad ∧ w.cell? (ad.add (i.toNat * 18)) = some (.int .i64 (rd_T33 xs i).f0) ∧ w.cell? ⟨(ad.add (i.toNat * 18)).block, (ad.add (i.toNat * 18)).off + 1, none⟩ = some (.int .i64 (rd_T33 xs i).f1) ∧ w.cell? ⟨(ad.add (i.toNat * 18)).block, (ad.add (i.toNat * 18)).off + 2, none⟩ = some (.int .i64 (rd_T33 xs i).f2) ∧ w.cell? ⟨(ad.add (i.toNat * 18)).block, (ad.add (i.toNat * 18)).off + 3, none⟩ = some (.int .i64 (rd_T33 xs i).f3.f0) ∧ w.cell? ⟨(ad.add (i.toNat * 18)).block, (ad.add (i.toNat * 18)).off + 4, none⟩ = some (.slice A4 (rd_T33 xs i).f3.f1.f0.length c4) ∧ w.cell? ⟨(ad.add (i.toNat * 18)).block, (ad.add (i.toNat * 18)).off + 5, none⟩ = some (.int .i64 (rd_T33 xs i).f3.f1.f1) ∧ w.cell? ⟨(ad.add (i.toNat * 18)).block, (ad.add (i.toNat * 18)).off + 6, none⟩ = some (.bool (rd_T33 xs i).f3.f1.f2) ∧ w.cell? ⟨(ad.add (i.toNat * 18)).block, (ad.add (i.toNat * 18)).off + 7, none⟩ = some (.slice A7 (rd_T33 xs i).f3.f2.length c7) ∧ w.cell? ⟨(ad.add (i.toNat * 18)).block, (ad.add (i.toNat * 18)).off + 8, none⟩ = some (.int .i64 (rd_T33 xs i).f3.f3) ∧ w.cell? ⟨(ad.add (i.toNat * 18)).block, (ad.add (i.toNat * 18)).off + 9, none⟩ = some (.bool (rd_T33 xs i).f4) ∧ w.cell? ⟨(ad.add (i.toNat * 18)).block, (ad.add (i.toNat * 18)).off + 10, none⟩ = some (.slice A10 (rd_T33 xs i).f5.length c10) ∧ w.cell? ⟨(ad.add (i.toNat * 18)).block, (ad.add (i.toNat * 18)).off + 11, none⟩ = some (.int .i64 (rd_T33 xs i).f6) ∧ w.cell? ⟨(ad.add (i.toNat * 18)).block, (ad.add (i.toNat * 18)).off + 12, none⟩ = some (.int .i64 (rd_T33 xs i).f7) ∧ w.cell? ⟨(ad.add (i.toNat * 18)).block, (ad.add (i.toNat * 18)).off + 13, none⟩ = some (.int .i64 (rd_T33 xs i).f8) ∧ w.cell? ⟨(ad.add (i.toNat * 18)).block, (ad.add (i.toNat * 18)).off + 14, none⟩ = some (.slice A14 (rd_T33 xs i).f9.length c14) ∧ w.cell? ⟨(ad.add (i.toNat * 18)).block, (ad.add (i.toNat * 18)).off + 15, none⟩ = some (.slice A15 (rd_T33 xs i).f10.length c15) ∧ w.cell? ⟨(ad.add (i.toNat * 18)).block, (ad.add (i.toNat * 18)).off + 16, none⟩ = some (.int .u32 (rd_T33 xs i).f11) ∧ w.cell? ⟨(ad.add (i.toNat * 18)).block, (ad.add (i.toNat * 18)).off + 17, none⟩ = some (.int .i64 (rd_T33 xs i).f12) ∧ (rd_T33 xs i).f3.f1.f0.length ≤ c4 ∧ k79.C w A4 (rd_T33 xs i).f3.f1.f0.length (rd_T33 xs i).f3.f1.f0 ∧ (rd_T33 xs i).f3.f2.length ≤ c7 ∧ k79.C w A7 (rd_T33 xs i).f3.f2.length (rd_T33 xs i).f3.f2 ∧ (rd_T33 xs i).f5.length ≤ c10 ∧ k27.C w A10 (rd_T33 xs i).f5.length (rd_T33 xs i).f5 ∧ (rd_T33 xs i).f9.length ≤ c14 ∧ (Kd.int .i64).C w A14 (rd_T33 xs i).f9.length (rd_T33 xs i).f9 ∧ (rd_T33 xs i).f10.length ≤ c15 ∧ (Kd.slice 5 (Kd.int .u8)).C w A15 (rd_T33 xs i).f10.length (rd_T33 xs i).f10 := by
  obtain ⟨ad, c, e, _, hK, hc0⟩ := Kd.C_get h z33 i h0 h1; have hc : ∀ j u, c[j]? = some u → w.cell? (ad.add (i.toNat * 18 + j)) = some u := hc0; obtain ⟨A4, c4, A7, c7, A10, c10, A14, c14, A15, c15, rfl, l4, g4, l7, g7, l10, g10, l14, g14, l15, g15⟩ := k33_open hK
  exact ⟨ad, A4, c4, A7, c7, A10, c10, A14, c14, A15, c15, e, hc 0 _ rfl, by rw [← add_field _ _ 1 (by omega)]; exact hc 1 _ rfl, by rw [← add_field _ _ 2 (by omega)]; exact hc 2 _ rfl, by rw [← add_field _ _ 3 (by omega)]; exact hc 3 _ rfl, by rw [← add_field _ _ 4 (by omega)]; exact hc 4 _ rfl, by rw [← add_field _ _ 5 (by omega)]; exact hc 5 _ rfl, by rw [← add_field _ _ 6 (by omega)]; exact hc 6 _ rfl, by rw [← add_field _ _ 7 (by omega)]; exact hc 7 _ rfl, by rw [← add_field _ _ 8 (by omega)]; exact hc 8 _ rfl, by rw [← add_field _ _ 9 (by omega)]; exact hc 9 _ rfl, by rw [← add_field _ _ 10 (by omega)]; exact hc 10 _ rfl, by rw [← add_field _ _ 11 (by omega)]; exact hc 11 _ rfl, by rw [← add_field _ _ 12 (by omega)]; exact hc 12 _ rfl, by rw [← add_field _ _ 13 (by omega)]; exact hc 13 _ rfl, by rw [← add_field _ _ 14 (by omega)]; exact hc 14 _ rfl, by rw [← add_field _ _ 15 (by omega)]; exact hc 15 _ rfl, by rw [← add_field _ _ 16 (by omega)]; exact hc 16 _ rfl, by rw [← add_field _ _ 17 (by omega)]; exact hc 17 _ rfl, l4, g4, l7, g7, l10, g10, l14, g14, l15, g15⟩

end Go.Proofs.Ytlhjdmpclfhoeaa.PC
