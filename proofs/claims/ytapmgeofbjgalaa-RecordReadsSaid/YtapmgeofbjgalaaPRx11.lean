-- Written by wip/printx.py, a program of this work over the kit's print, for this claim.
import Derived.Test.YtapmgeofbjgalaaPRx0
import Derived.Test.YtapmgeofbjgalaaPRx2
import Derived.Test.YtapmgeofbjgalaaPRx4
import Derived.Test.YtapmgeofbjgalaaPRx7
import Derived.Test.YtapmgeofbjgalaaPRx9
import Derived.Test.YtapmgeofbjgalaaPRx10
namespace Go.Proofs.Ytapmgeofbjgalaa.PR
open Go.RowKit Go.Proofs.YtapmgeofbjgalaaW.PrintWords Go.Proofs.YtapmgeofbjgalaaW.PrintLast Go.Proofs.YtapmgeofbjgalaaW.PrintMore
attribute [local go_sem] max2_int min2_int max_two min_two max_three min_three max_four min_four   -- for this text's walks alone
attribute [local go_sem] Ext.pick_u8 Ext.pick_u32 Ext.pick_u64
set_option linter.unusedVariables false
set_option linter.unusedSimpArgs false



/-! ### record_Decode: function 21 -/
mutual
def record_Decode.j0 : Nat → Bool → List Int → List Int → Int → Int → Int → Int → Option (List Int × List Int × Int × Int × Int × Int × Bool × Int)
 | 0, _, _, _, _, _, _, _ => none
 | k + 1, x43, x198000, x198001, x198002, x198003, x198004, x198005 => if x43 = true then (some (x198000, x198001, x198002, x198003, x198004, x198005, false, 0)) else (some (([] : List Int), ([] : List Int), 0, 0, 0, 0, false, 4))
def record_Decode.j1 : Nat → Bool → List Int → Int → Int → Int → Int → Option (List Int × List Int × Int × Int × Int × Int × Bool × Int)
 | 0, _, _, _, _, _, _ => none
 | k + 1, x54, x198000, x198002, x198003, x198004, x198005 => if x54 = true then (some (x198000, ([] : List Int), x198002, x198003, x198004, x198005, true, 0)) else (some (([] : List Int), ([] : List Int), 0, 0, 0, 0, false, 4))
end
def record_Decode.f (k : Nat) (l0 : List Int) : Option (List Int × List Int × Int × Int × Int × Int × Bool × Int) := (octets_NewReader.f l0).bind fun bt185 => ((octets_Reader_Num.f k bt185.1 bt185.2.1 bt185.2.2 1).bind fun bt189 => ((octets_Reader_Text.f k bt185.1 bt189.2.1 bt189.2.2 64).bind fun bt192 => (if bt189.1 = 1 then ((octets_Reader_Num.f k bt185.1 bt192.2.1 bt192.2.2 8).bind fun bt198 => ((octets_Reader_Num.f k bt185.1 bt198.2.1 bt198.2.2 8).bind fun bt201 => ((octets_Reader_Num.f k bt185.1 bt201.2.1 bt201.2.2 8).bind fun bt204 => ((octets_Reader_Num.f k bt185.1 bt204.2.1 bt204.2.2 8).bind fun bt207 => ((octets_Reader_Text.f k bt185.1 bt207.2.1 bt207.2.2 1024).bind fun bt210 => ((octets_Reader_End.f bt185.1 bt210.2.1 bt210.2.2).bind fun bt215 => (if bt215.1 = 0 then ((record_Right.f bt192.1 bt210.1 (wrap64 (bt198.1)) (wrap64 (bt201.1)) (wrap64 (bt204.1)) (wrap64 (bt207.1))).bind fun t218 => (record_Decode.j0 k t218 bt192.1 bt210.1 (wrap64 (bt198.1)) (wrap64 (bt201.1)) (wrap64 (bt204.1)) (wrap64 (bt207.1)))) else (record_Decode.j0 k false bt192.1 bt210.1 (wrap64 (bt198.1)) (wrap64 (bt201.1)) (wrap64 (bt204.1)) (wrap64 (bt207.1)))))))))) else (if bt189.1 = 2 then ((octets_Reader_End.f bt185.1 bt192.2.1 bt192.2.2).bind fun bt219 => (if bt219.1 = 0 then ((record_key.f bt192.1).bind fun t222 => (record_Decode.j1 k t222 bt192.1 0 0 0 0)) else (record_Decode.j1 k false bt192.1 0 0 0 0))) else (some (([] : List Int), ([] : List Int), 0, 0, 0, 0, false, 4))))))
theorem record_Decode.mono_l : ∀ k, (∀ y0 y1 y2 y3 y4 y5 y6, LeO (record_Decode.j0 k y0 y1 y2 y3 y4 y5 y6) (record_Decode.j0 (k + 1) y0 y1 y2 y3 y4 y5 y6)) ∧ (∀ y0 y1 y2 y3 y4 y5, LeO (record_Decode.j1 k y0 y1 y2 y3 y4 y5) (record_Decode.j1 (k + 1) y0 y1 y2 y3 y4 y5))
 | 0 => ⟨fun _ _ _ _ _ _ _ r h => by simp [record_Decode.j0] at h, fun _ _ _ _ _ _ r h => by simp [record_Decode.j1] at h⟩
 | k + 1 => by
  obtain ⟨ih0, ih1⟩ := record_Decode.mono_l k
  refine ⟨?_, ?_⟩
  ·
   intro y0 y1 y2 y3 y4 y5 y6
   unfold record_Decode.j0
   repeat' first
   | (with_reducible exact ih0 _ _ _ _ _ _ _)
   | (with_reducible exact ih1 _ _ _ _ _ _)
   | (with_reducible exact octets_Reader_Num.mono _ _ _ _ _)
   | (with_reducible exact octets_Reader_Text.mono _ _ _ _ _)
   | (with_reducible exact LeO.refl _)
   | (with_reducible exact LeO.none _)
   | (with_reducible refine LeO.ite ?_ ?_)
   | (with_reducible refine LeO.bind ?_ (fun _ => ?_))
   | exact ih0 _ _ _ _ _ _ _
   | exact ih1 _ _ _ _ _ _
   | exact octets_Reader_Num.mono _ _ _ _ _
   | exact octets_Reader_Text.mono _ _ _ _ _
   | exact LeO.none _
   | refine LeO.ite ?_ ?_
   | refine LeO.bind ?_ (fun _ => ?_)
  ·
   intro y0 y1 y2 y3 y4 y5
   unfold record_Decode.j1
   repeat' first
   | (with_reducible exact ih0 _ _ _ _ _ _ _)
   | (with_reducible exact ih1 _ _ _ _ _ _)
   | (with_reducible exact octets_Reader_Num.mono _ _ _ _ _)
   | (with_reducible exact octets_Reader_Text.mono _ _ _ _ _)
   | (with_reducible exact LeO.refl _)
   | (with_reducible exact LeO.none _)
   | (with_reducible refine LeO.ite ?_ ?_)
   | (with_reducible refine LeO.bind ?_ (fun _ => ?_))
   | exact ih0 _ _ _ _ _ _ _
   | exact ih1 _ _ _ _ _ _
   | exact octets_Reader_Num.mono _ _ _ _ _
   | exact octets_Reader_Text.mono _ _ _ _ _
   | exact LeO.none _
   | refine LeO.ite ?_ ?_
   | refine LeO.bind ?_ (fun _ => ?_)
theorem record_Decode.mono : ∀ a0 k, LeO (record_Decode.f k a0) (record_Decode.f (k + 1) a0) := by
 intro a0 k
 obtain ⟨ih0, ih1⟩ := record_Decode.mono_l k
 unfold record_Decode.f
 repeat' first
   | (with_reducible exact ih0 _ _ _ _ _ _ _)
   | (with_reducible exact ih1 _ _ _ _ _ _)
   | (with_reducible exact octets_Reader_Num.mono _ _ _ _ _)
   | (with_reducible exact octets_Reader_Text.mono _ _ _ _ _)
   | (with_reducible exact LeO.refl _)
   | (with_reducible exact LeO.none _)
   | (with_reducible refine LeO.ite ?_ ?_)
   | (with_reducible refine LeO.bind ?_ (fun _ => ?_))
   | exact ih0 _ _ _ _ _ _ _
   | exact ih1 _ _ _ _ _ _
   | exact octets_Reader_Num.mono _ _ _ _ _
   | exact octets_Reader_Text.mono _ _ _ _ _
   | exact LeO.none _
   | refine LeO.ite ?_ ?_
   | refine LeO.bind ?_ (fun _ => ?_)
set_option maxHeartbeats 8000000 in
set_option maxRecDepth 100000 in
theorem record_Decode.calls0 (k : Nat) (A0 : Option Addr) (c0 : Nat) (l0 : List Int) (r1 : List Int) (r2 : List Int) (r3 : Int) (r4 : Int) (r5 : Int) (r6 : Int) (r7 : Bool) (r8 : Int) (w : World) (hr0 : Kd.C (Kd.int .u8) w A0 l0.length l0) (hc0 : l0.length ≤ c0) (h : record_Decode.f k l0 = some (r1, r2, r3, r4, r5, r6, r7, r8)) :
  Calls Try.prog 21 #[.slice A0 l0.length c0] w fun e w' => ∃ wN_ : World, Below w.heap.size w wN_ ∧ ∃ v0_ v1_ : Value, e = .returned (.tuple #[.agg #[v0_, v1_, .int .i64 r3, .int .i64 r4, .int .i64 r5, .int .i64 r6], .bool r7, .int .i64 r8]) ∧ Kd.R (Kd.int .u8) 5 w' wN_.heap.size (fun k_ => some k_ ≠ (v1_ : Value).ownBlock) v0_ r1 ∧ Kd.R (Kd.int .u8) 5 w' wN_.heap.size (fun k_ => some k_ ≠ (v0_ : Value).ownBlock) v1_ r2 ∧ Below wN_.heap.size wN_ w' := by
 have hu24 := Try.underlying24
 have HR0 := Aside0.mk hr0
 have HC0 := Aside0.mk hc0
 clear hr0 hc0
 have HW0 := Ext.a (Below.refl w.heap.size w)
 have HB := Ext.a (Below.refl w.heap.size w)
 have H : ((octets_NewReader.f l0).bind fun bt185 => ((octets_Reader_Num.f k bt185.1 bt185.2.1 bt185.2.2 1).bind fun bt189 => ((octets_Reader_Text.f k bt185.1 bt189.2.1 bt189.2.2 64).bind fun bt192 => (if bt189.1 = 1 then ((octets_Reader_Num.f k bt185.1 bt192.2.1 bt192.2.2 8).bind fun bt198 => ((octets_Reader_Num.f k bt185.1 bt198.2.1 bt198.2.2 8).bind fun bt201 => ((octets_Reader_Num.f k bt185.1 bt201.2.1 bt201.2.2 8).bind fun bt204 => ((octets_Reader_Num.f k bt185.1 bt204.2.1 bt204.2.2 8).bind fun bt207 => ((octets_Reader_Text.f k bt185.1 bt207.2.1 bt207.2.2 1024).bind fun bt210 => ((octets_Reader_End.f bt185.1 bt210.2.1 bt210.2.2).bind fun bt215 => (if bt215.1 = 0 then ((record_Right.f bt192.1 bt210.1 (wrap64 (bt198.1)) (wrap64 (bt201.1)) (wrap64 (bt204.1)) (wrap64 (bt207.1))).bind fun t218 => (record_Decode.j0 k t218 bt192.1 bt210.1 (wrap64 (bt198.1)) (wrap64 (bt201.1)) (wrap64 (bt204.1)) (wrap64 (bt207.1)))) else (record_Decode.j0 k false bt192.1 bt210.1 (wrap64 (bt198.1)) (wrap64 (bt201.1)) (wrap64 (bt204.1)) (wrap64 (bt207.1)))))))))) else (if bt189.1 = 2 then ((octets_Reader_End.f bt185.1 bt192.2.1 bt192.2.2).bind fun bt219 => (if bt219.1 = 0 then ((record_key.f bt192.1).bind fun t222 => (record_Decode.j1 k t222 bt192.1 0 0 0 0)) else (record_Decode.j1 k false bt192.1 0 0 0 0))) else (some (([] : List Int), ([] : List Int), 0, 0, 0, 0, false, 4))))))) = some (r1, r2, r3, r4, r5, r6, r7, r8) := h
 clear h
 replace H := Option.bind_eq_some_iff.mp H
 obtain ⟨⟨t185, t186, t187⟩, A20, H⟩ := H
 replace H : ((octets_Reader_Num.f k t185 t186 t187 1).bind fun bt189 => ((octets_Reader_Text.f k t185 bt189.2.1 bt189.2.2 64).bind fun bt192 => (if bt189.1 = 1 then ((octets_Reader_Num.f k t185 bt192.2.1 bt192.2.2 8).bind fun bt198 => ((octets_Reader_Num.f k t185 bt198.2.1 bt198.2.2 8).bind fun bt201 => ((octets_Reader_Num.f k t185 bt201.2.1 bt201.2.2 8).bind fun bt204 => ((octets_Reader_Num.f k t185 bt204.2.1 bt204.2.2 8).bind fun bt207 => ((octets_Reader_Text.f k t185 bt207.2.1 bt207.2.2 1024).bind fun bt210 => ((octets_Reader_End.f t185 bt210.2.1 bt210.2.2).bind fun bt215 => (if bt215.1 = 0 then ((record_Right.f bt192.1 bt210.1 (wrap64 (bt198.1)) (wrap64 (bt201.1)) (wrap64 (bt204.1)) (wrap64 (bt207.1))).bind fun t218 => (record_Decode.j0 k t218 bt192.1 bt210.1 (wrap64 (bt198.1)) (wrap64 (bt201.1)) (wrap64 (bt204.1)) (wrap64 (bt207.1)))) else (record_Decode.j0 k false bt192.1 bt210.1 (wrap64 (bt198.1)) (wrap64 (bt201.1)) (wrap64 (bt204.1)) (wrap64 (bt207.1)))))))))) else (if bt189.1 = 2 then ((octets_Reader_End.f t185 bt192.2.1 bt192.2.2).bind fun bt219 => (if bt219.1 = 0 then ((record_key.f bt192.1).bind fun t222 => (record_Decode.j1 k t222 bt192.1 0 0 0 0)) else (record_Decode.j1 k false bt192.1 0 0 0 0))) else (some (([] : List Int), ([] : List Int), 0, 0, 0, 0, false, 4)))))) = some (r1, r2, r3, r4, r5, r6, r7, r8) := H
 have A2 := Aside0.mk A20
 clear A20
 replace H := Option.bind_eq_some_iff.mp H
 obtain ⟨⟨t189, t190, t191⟩, A30, H⟩ := H
 replace H : ((octets_Reader_Text.f k t185 t190 t191 64).bind fun bt192 => (if t189 = 1 then ((octets_Reader_Num.f k t185 bt192.2.1 bt192.2.2 8).bind fun bt198 => ((octets_Reader_Num.f k t185 bt198.2.1 bt198.2.2 8).bind fun bt201 => ((octets_Reader_Num.f k t185 bt201.2.1 bt201.2.2 8).bind fun bt204 => ((octets_Reader_Num.f k t185 bt204.2.1 bt204.2.2 8).bind fun bt207 => ((octets_Reader_Text.f k t185 bt207.2.1 bt207.2.2 1024).bind fun bt210 => ((octets_Reader_End.f t185 bt210.2.1 bt210.2.2).bind fun bt215 => (if bt215.1 = 0 then ((record_Right.f bt192.1 bt210.1 (wrap64 (bt198.1)) (wrap64 (bt201.1)) (wrap64 (bt204.1)) (wrap64 (bt207.1))).bind fun t218 => (record_Decode.j0 k t218 bt192.1 bt210.1 (wrap64 (bt198.1)) (wrap64 (bt201.1)) (wrap64 (bt204.1)) (wrap64 (bt207.1)))) else (record_Decode.j0 k false bt192.1 bt210.1 (wrap64 (bt198.1)) (wrap64 (bt201.1)) (wrap64 (bt204.1)) (wrap64 (bt207.1)))))))))) else (if t189 = 2 then ((octets_Reader_End.f t185 bt192.2.1 bt192.2.2).bind fun bt219 => (if bt219.1 = 0 then ((record_key.f bt192.1).bind fun t222 => (record_Decode.j1 k t222 bt192.1 0 0 0 0)) else (record_Decode.j1 k false bt192.1 0 0 0 0))) else (some (([] : List Int), ([] : List Int), 0, 0, 0, 0, false, 4))))) = some (r1, r2, r3, r4, r5, r6, r7, r8) := H
 have A3 := Aside0.mk A30
 clear A30
 replace H := Option.bind_eq_some_iff.mp H
 obtain ⟨⟨t192, t195, t196⟩, A40, H⟩ := H
 replace H : (if t189 = 1 then ((octets_Reader_Num.f k t185 t195 t196 8).bind fun bt198 => ((octets_Reader_Num.f k t185 bt198.2.1 bt198.2.2 8).bind fun bt201 => ((octets_Reader_Num.f k t185 bt201.2.1 bt201.2.2 8).bind fun bt204 => ((octets_Reader_Num.f k t185 bt204.2.1 bt204.2.2 8).bind fun bt207 => ((octets_Reader_Text.f k t185 bt207.2.1 bt207.2.2 1024).bind fun bt210 => ((octets_Reader_End.f t185 bt210.2.1 bt210.2.2).bind fun bt215 => (if bt215.1 = 0 then ((record_Right.f t192 bt210.1 (wrap64 (bt198.1)) (wrap64 (bt201.1)) (wrap64 (bt204.1)) (wrap64 (bt207.1))).bind fun t218 => (record_Decode.j0 k t218 t192 bt210.1 (wrap64 (bt198.1)) (wrap64 (bt201.1)) (wrap64 (bt204.1)) (wrap64 (bt207.1)))) else (record_Decode.j0 k false t192 bt210.1 (wrap64 (bt198.1)) (wrap64 (bt201.1)) (wrap64 (bt204.1)) (wrap64 (bt207.1)))))))))) else (if t189 = 2 then ((octets_Reader_End.f t185 t195 t196).bind fun bt219 => (if bt219.1 = 0 then ((record_key.f t192).bind fun t222 => (record_Decode.j1 k t222 t192 0 0 0 0)) else (record_Decode.j1 k false t192 0 0 0 0))) else (some (([] : List Int), ([] : List Int), 0, 0, 0, 0, false, 4)))) = some (r1, r2, r3, r4, r5, r6, r7, r8) := H
 have A4 := Aside0.mk A40
 clear A40
 by_cases c5 : t189 = 1
 ·
  rw [if_pos c5] at H
  have c5b0 : (t189 == 1) = true := beq_iff_eq.mpr c5
  have c5b1 : (t189 != 1) = false := bne_eq_false_iff_eq.mpr c5
  clear c5
  replace H := Option.bind_eq_some_iff.mp H
  obtain ⟨⟨t198, t199, t200⟩, A60, H⟩ := H
  replace H : ((octets_Reader_Num.f k t185 t199 t200 8).bind fun bt201 => ((octets_Reader_Num.f k t185 bt201.2.1 bt201.2.2 8).bind fun bt204 => ((octets_Reader_Num.f k t185 bt204.2.1 bt204.2.2 8).bind fun bt207 => ((octets_Reader_Text.f k t185 bt207.2.1 bt207.2.2 1024).bind fun bt210 => ((octets_Reader_End.f t185 bt210.2.1 bt210.2.2).bind fun bt215 => (if bt215.1 = 0 then ((record_Right.f t192 bt210.1 (wrap64 (t198)) (wrap64 (bt201.1)) (wrap64 (bt204.1)) (wrap64 (bt207.1))).bind fun t218 => (record_Decode.j0 k t218 t192 bt210.1 (wrap64 (t198)) (wrap64 (bt201.1)) (wrap64 (bt204.1)) (wrap64 (bt207.1)))) else (record_Decode.j0 k false t192 bt210.1 (wrap64 (t198)) (wrap64 (bt201.1)) (wrap64 (bt204.1)) (wrap64 (bt207.1))))))))) = some (r1, r2, r3, r4, r5, r6, r7, r8) := H
  have A6 := Aside0.mk A60
  clear A60
  replace H := Option.bind_eq_some_iff.mp H
  obtain ⟨⟨t201, t202, t203⟩, A70, H⟩ := H
  replace H : ((octets_Reader_Num.f k t185 t202 t203 8).bind fun bt204 => ((octets_Reader_Num.f k t185 bt204.2.1 bt204.2.2 8).bind fun bt207 => ((octets_Reader_Text.f k t185 bt207.2.1 bt207.2.2 1024).bind fun bt210 => ((octets_Reader_End.f t185 bt210.2.1 bt210.2.2).bind fun bt215 => (if bt215.1 = 0 then ((record_Right.f t192 bt210.1 (wrap64 (t198)) (wrap64 (t201)) (wrap64 (bt204.1)) (wrap64 (bt207.1))).bind fun t218 => (record_Decode.j0 k t218 t192 bt210.1 (wrap64 (t198)) (wrap64 (t201)) (wrap64 (bt204.1)) (wrap64 (bt207.1)))) else (record_Decode.j0 k false t192 bt210.1 (wrap64 (t198)) (wrap64 (t201)) (wrap64 (bt204.1)) (wrap64 (bt207.1)))))))) = some (r1, r2, r3, r4, r5, r6, r7, r8) := H
  have A7 := Aside0.mk A70
  clear A70
  replace H := Option.bind_eq_some_iff.mp H
  obtain ⟨⟨t204, t205, t206⟩, A80, H⟩ := H
  replace H : ((octets_Reader_Num.f k t185 t205 t206 8).bind fun bt207 => ((octets_Reader_Text.f k t185 bt207.2.1 bt207.2.2 1024).bind fun bt210 => ((octets_Reader_End.f t185 bt210.2.1 bt210.2.2).bind fun bt215 => (if bt215.1 = 0 then ((record_Right.f t192 bt210.1 (wrap64 (t198)) (wrap64 (t201)) (wrap64 (t204)) (wrap64 (bt207.1))).bind fun t218 => (record_Decode.j0 k t218 t192 bt210.1 (wrap64 (t198)) (wrap64 (t201)) (wrap64 (t204)) (wrap64 (bt207.1)))) else (record_Decode.j0 k false t192 bt210.1 (wrap64 (t198)) (wrap64 (t201)) (wrap64 (t204)) (wrap64 (bt207.1))))))) = some (r1, r2, r3, r4, r5, r6, r7, r8) := H
  have A8 := Aside0.mk A80
  clear A80
  replace H := Option.bind_eq_some_iff.mp H
  obtain ⟨⟨t207, t208, t209⟩, A90, H⟩ := H
  replace H : ((octets_Reader_Text.f k t185 t208 t209 1024).bind fun bt210 => ((octets_Reader_End.f t185 bt210.2.1 bt210.2.2).bind fun bt215 => (if bt215.1 = 0 then ((record_Right.f t192 bt210.1 (wrap64 (t198)) (wrap64 (t201)) (wrap64 (t204)) (wrap64 (t207))).bind fun t218 => (record_Decode.j0 k t218 t192 bt210.1 (wrap64 (t198)) (wrap64 (t201)) (wrap64 (t204)) (wrap64 (t207)))) else (record_Decode.j0 k false t192 bt210.1 (wrap64 (t198)) (wrap64 (t201)) (wrap64 (t204)) (wrap64 (t207)))))) = some (r1, r2, r3, r4, r5, r6, r7, r8) := H
  have A9 := Aside0.mk A90
  clear A90
  replace H := Option.bind_eq_some_iff.mp H
  obtain ⟨⟨t210, t213, t214⟩, A100, H⟩ := H
  replace H : ((octets_Reader_End.f t185 t213 t214).bind fun bt215 => (if bt215.1 = 0 then ((record_Right.f t192 t210 (wrap64 (t198)) (wrap64 (t201)) (wrap64 (t204)) (wrap64 (t207))).bind fun t218 => (record_Decode.j0 k t218 t192 t210 (wrap64 (t198)) (wrap64 (t201)) (wrap64 (t204)) (wrap64 (t207)))) else (record_Decode.j0 k false t192 t210 (wrap64 (t198)) (wrap64 (t201)) (wrap64 (t204)) (wrap64 (t207))))) = some (r1, r2, r3, r4, r5, r6, r7, r8) := H
  have A10 := Aside0.mk A100
  clear A100
  have HC11 := Aside0.mk H
  clear H
  go_enter Try.func21, Try.ntmps21
  go_upto_region 11 with (first | ((with_reducible refine gate_dst (N := 2) rfl ?_); refine box_event ?hg (N := 2) ?hd (cs := #[.slice none 0 0, .slice none 0 0, .int .i64 0, .int .i64 0, .int .i64 0, .int .i64 0]) (t := 24) ?hr ?_; (case hd => rfl); (case hg => rfl); (case hr => first | (go_simp; done) | (go_simp; rfl)); intro gb184 hg w12 hbox hb; have n0_ := Ext.a (below_step (Ext.nB HB.out) hb); have n1_ := Ext.a (hbox); have n2_ := Ext.a ((by rw [hg]; exact (below_size (Ext.nB HB.out)) : w.heap.size ≤ gb184)); have n3_ := Ext.a ((by rw [hg]; exact (below_size (Ext.nB HB.out)) : w.heap.size ≤ gb184)); clear HB; have HB := n0_; have BK184 := n1_; have GW184 := n2_; have GE184 := n3_; clear n0_ n1_ n2_ n3_; clear hb hbox hg) | ((with_reducible refine gate_callee (f := 30) rfl ?_); refine goesL_ (some 9) rfl rfl Try.func30 (by kernel_rfl) rfl #[.slice A0 l0.length c0] rfl (by (try simp only [List.map_toArray, List.map_cons, List.map_nil]); first | done | rfl | (simp only [List.length_drop, List.length_take]; rfl)) ?_; (with_reducible refine (octets_NewReader.calls _ _ l0 t185 t186 t187 w _ ?side1 ?side2 ?side3 A2.out).mono ?_); (case side1 => repeat (first | (with_reducible first | exact HB.out | apply Ext.ba | apply Ext.bn | apply Ext.bd | refine Ext.bs ?_ GE184.out) | exact HB.out | exact .refl _ _)); (case side2 => repeat (first | exact (Kd.C_below HR0.out HB.out) | exact HR0.out | (with_reducible refine Kd.C_alloc ?_ _) | (with_reducible refine Kd.C_drewN ?_ _) | (with_reducible refine Kd.C_drew ?_))); (case side3 => exact HC0.out); obtain ⟨wX, rfl⟩ : ∃ y_ : World, y_ = w := ⟨_, rfl⟩; rintro e w13 ⟨w, g188, rfl, hb1, hi, hb⟩; refine ⟨_, rfl, ?_⟩; have HWP := Ext.a (below_step (by repeat (first | (with_reducible first | exact HB.out | apply Ext.ba | apply Ext.bn | apply Ext.bd | refine Ext.bs ?_ GE184.out) | exact HB.out | exact .refl _ _)) hb1); (first | (have HWQ := Ext.a (below_step HWN.out HWP.out)) | (have HWQ := HWP)); (try clear HWN); have HWN := HWQ; clear HWQ; have n0_ := Ext.a (Kd.C_below HR0.out HWP.out); have n1_ := Ext.a (blk_below BK184.out (below_step hb1 hb)); have n2_ := Ext.a (hb); have n3_ := Ext.a (hi); have n4_ := Ext.a (IsS56.ne_blk hi (blk_below BK184.out (below_step hb1 hb)) (by decide)); have n5_ := Ext.a (Ne.symm (IsS56.ne_blk hi (blk_below BK184.out (below_step hb1 hb)) (by decide))); clear HR0 BK184 HB; have HR0 := n0_; have BK184 := n1_; have HB := n2_; have HI188 := n3_; have NB188_184 := n4_; have NB184_188 := n5_; clear n0_ n1_ n2_ n3_ n4_ n5_; (try clear hb); (try clear hb2); (try clear hk); (try clear hi)) | ((with_reducible refine gate_callee (f := 31) rfl ?_); refine goesL_ (some 11) rfl rfl Try.func31 (by kernel_rfl) rfl #[.pointer (some ⟨g188, 0, none⟩), .int .i64 1] rfl (by (try simp only [List.map_toArray, List.map_cons, List.map_nil]); first | done | rfl | (simp only [List.length_drop, List.length_take]; rfl)) ?_; (with_reducible refine (octets_Reader_Num.calls k g188 t185 t186 t187 1 t189 t190 t191 w _ ?side1 ?side2 A3.out).mono ?_); (case side1 => repeat (first | (with_reducible first | exact HI188.out | apply IsS56.alloc | apply IsS56.drewN | apply IsS56.drew | apply IsS56.set_1 | apply IsS56.set_2 | refine IsS56.far ?_ NB188_184.out _) | exact HI188.out)); (case side2 => repeat (first | (with_reducible first | exact HB.out | apply below_alloc | apply pw_below_drewN | apply below_drew1 | refine below_set ?_ GE184.out | refine below_set ?_ (IsS56.ge HI188.out)) | exact HB.out | exact Below.refl _ _)); rintro e w14 ⟨rfl, hi, hb, hk⟩; refine ⟨_, rfl, ?_⟩; have n0_ := Ext.a (KeepBut.blk hk BK184.out NB184_188.out (by simp)); have n1_ := Ext.a (hb); have n2_ := Ext.a (hi); clear BK184 HB HI188; have BK184 := n0_; have HB := n1_; have HI188 := n2_; clear n0_ n1_ n2_; (try clear hb); (try clear hb2); (try clear hk); (try clear hi)) | ((with_reducible refine gate_callee (f := 32) rfl ?_); refine goesL_ (some 13) rfl rfl Try.func32 (by kernel_rfl) rfl #[.pointer (some ⟨g188, 0, none⟩), .int .i64 64] rfl (by (try simp only [List.map_toArray, List.map_cons, List.map_nil]); first | done | rfl | (simp only [List.length_drop, List.length_take]; rfl)) ?_; (with_reducible refine (octets_Reader_Text.calls k g188 t185 t190 t191 64 t192 t195 t196 w _ ?side1 ?side2 A4.out).mono ?_); (case side1 => repeat (first | (with_reducible first | exact HI188.out | apply IsS56.alloc | apply IsS56.drewN | apply IsS56.drew | apply IsS56.set_1 | apply IsS56.set_2 | refine IsS56.far ?_ NB188_184.out _) | exact HI188.out)); (case side2 => repeat (first | (with_reducible first | exact HB.out | apply below_alloc | apply pw_below_drewN | apply below_drew1 | refine below_set ?_ GE184.out | refine below_set ?_ (IsS56.ge HI188.out)) | exact HB.out | exact Below.refl _ _)); rintro e w15 ⟨v193, rfl, ho0, hi, hb, hk⟩; refine ⟨_, rfl, ?_⟩; have n0_ := Ext.a (KeepBut.blk hk BK184.out NB184_188.out (by simp)); have n1_ := Ext.a (Kd.R_lower ho0 (below_size (by repeat (first | (with_reducible first | exact HB.out | apply below_alloc | apply pw_below_drewN | apply below_drew1 | refine below_set ?_ GE184.out | refine below_set ?_ (IsS56.ge HI188.out)) | exact HB.out | exact Below.refl _ _)))); have n2_ := Ext.a (hb); have n3_ := Ext.a (hi); clear BK184 HB HI188; have BK184 := n0_; have HO194 := n1_; have HB := n2_; have HI188 := n3_; clear n0_ n1_ n2_ n3_; (try clear hb); (try clear hb2); (try clear hk); (try clear hi); (try clear ho0); obtain ⟨Ao16, co16, eo16⟩ := Kd.R_slice HO194.out; subst eo16) | ((with_reducible refine gate_dst (N := 7) rfl ?_); refine box_event ?hg (N := 7) ?hd (cs := #[.slice none 0 0, .slice none 0 0, .int .i64 0, .int .i64 0, .int .i64 0, .int .i64 0]) (t := 24) ?hr ?_; (case hd => rfl); (case hg => rfl); (case hr => first | (go_simp; done) | (go_simp; rfl)); intro gb197 hg w17 hbox hb; have n0_ := Ext.a (Kd.R_below (Ext.nR HO194.out) hb); have n1_ := Ext.a (blk_below BK184.out hb); have n2_ := Ext.a (IsS56.below (by repeat (first | (with_reducible first | exact HI188.out | apply IsS56.alloc | apply IsS56.drewN | apply IsS56.drew | apply IsS56.set_1 | apply IsS56.set_2 | refine IsS56.far ?_ NB188_184.out _) | exact HI188.out)) hb); have n3_ := Ext.a (below_step (by repeat (first | (with_reducible first | exact HB.out | apply below_alloc | apply pw_below_drewN | apply below_drew1 | refine below_set ?_ GE184.out | refine below_set ?_ (IsS56.ge HI188.out)) | exact HB.out | exact Below.refl _ _)) hb); have n4_ := Ext.a (hbox); have n5_ := Ext.a ((by rw [hg]; exact (below_size (by repeat (first | (with_reducible first | exact HB.out | apply below_alloc | apply pw_below_drewN | apply below_drew1 | refine below_set ?_ GE184.out | refine below_set ?_ (IsS56.ge HI188.out)) | exact HB.out | exact Below.refl _ _))) : w.heap.size ≤ gb197)); have n6_ := Ext.a ((by rw [hg]; exact (below_size (by repeat (first | (with_reducible first | exact HB.out | apply below_alloc | apply pw_below_drewN | apply below_drew1 | refine below_set ?_ GE184.out | refine below_set ?_ (IsS56.ge HI188.out)) | exact HB.out | exact Below.refl _ _))) : w.heap.size ≤ gb197)); have n7_ := Ext.a ((by rw [hg]; exact Nat.ne_of_lt (blk_lt BK184.out) : gb184 ≠ gb197)); have n8_ := Ext.a ((by rw [hg]; exact Nat.ne_of_gt (blk_lt BK184.out) : gb197 ≠ gb184)); have n9_ := Ext.a ((by rw [hg]; exact Nat.ne_of_lt (IsS56.lt (show IsS56 w _ g188 t185 t195 t196 from by repeat (first | (with_reducible first | exact HI188.out | apply IsS56.alloc | apply IsS56.drewN | apply IsS56.drew | apply IsS56.set_1 | apply IsS56.set_2 | refine IsS56.far ?_ NB188_184.out _) | exact HI188.out))) : g188 ≠ gb197)); have n10_ := Ext.a ((by rw [hg]; exact Nat.ne_of_gt (IsS56.lt (show IsS56 w _ g188 t185 t195 t196 from by repeat (first | (with_reducible first | exact HI188.out | apply IsS56.alloc | apply IsS56.drewN | apply IsS56.drew | apply IsS56.set_1 | apply IsS56.set_2 | refine IsS56.far ?_ NB188_184.out _) | exact HI188.out))) : gb197 ≠ g188)); clear HO194 BK184 HI188 HB; have HO194 := n0_; have BK184 := n1_; have HI188 := n2_; have HB := n3_; have BK197 := n4_; have GW197 := n5_; have GE197 := n6_; have NB184_197 := n7_; have NB197_184 := n8_; have NB188_197 := n9_; have NB197_188 := n10_; clear n0_ n1_ n2_ n3_ n4_ n5_ n6_ n7_ n8_ n9_ n10_; clear hb hbox hg; have hnb18 := NB197_184.out; have hnc18 := NB184_197.out; have hnb19 := NB197_188.out; have hnc19 := NB188_197.out; have hcz20_0 : w17.cell? ⟨gb197, 0, none⟩ = some (.slice none 0 0) := (blk_cell BK197.out 0).trans rfl; have hcz20_1 : w17.cell? ⟨gb197, 1, none⟩ = some (.slice none 0 0) := (blk_cell BK197.out 1).trans rfl; have hcz20_2 : w17.cell? ⟨gb197, 2, none⟩ = some (.int .i64 0) := (blk_cell BK197.out 2).trans rfl; have hcz20_3 : w17.cell? ⟨gb197, 3, none⟩ = some (.int .i64 0) := (blk_cell BK197.out 3).trans rfl; have hcz20_4 : w17.cell? ⟨gb197, 4, none⟩ = some (.int .i64 0) := (blk_cell BK197.out 4).trans rfl; have hcz20_5 : w17.cell? ⟨gb197, 5, none⟩ = some (.int .i64 0) := (blk_cell BK197.out 5).trans rfl; have hfz20_0 := blk_frozen BK197.out 0; have hfz20_1 := blk_frozen BK197.out 1; have hfz20_2 := blk_frozen BK197.out 2; have hfz20_3 := blk_frozen BK197.out 3; have hfz20_4 := blk_frozen BK197.out 4; have hfz20_5 := blk_frozen BK197.out 5) | ((with_reducible refine gate_callee (f := 31) rfl ?_); refine goesL_ (some 19) rfl rfl Try.func31 (by kernel_rfl) rfl #[.pointer (some ⟨g188, 0, none⟩), .int .i64 8] rfl (by (try simp only [List.map_toArray, List.map_cons, List.map_nil]); first | done | rfl | (simp only [List.length_drop, List.length_take]; rfl)) ?_; (with_reducible refine (octets_Reader_Num.calls k g188 t185 t195 t196 8 t198 t199 t200 w _ ?side1 ?side2 A6.out).mono ?_); (case side1 => repeat (first | (with_reducible first | exact HI188.out | apply IsS56.alloc | apply IsS56.drewN | apply IsS56.drew | apply IsS56.set_1 | apply IsS56.set_2 | refine IsS56.far ?_ NB188_184.out _ | refine IsS56.far ?_ NB188_197.out _) | exact HI188.out)); (case side2 => repeat (first | (with_reducible first | exact HB.out | apply below_alloc | apply pw_below_drewN | apply below_drew1 | refine below_set ?_ GE184.out | refine below_set ?_ GE197.out | refine below_set ?_ (IsS56.ge HI188.out)) | exact HB.out | exact Below.refl _ _)); rintro e w21 ⟨rfl, hi, hb, hk⟩; refine ⟨_, rfl, ?_⟩; have n0_ := Ext.a (KeepBut.blk hk (g' := gb184) (o := .cells #[.slice none 0 0, .slice none 0 0, .int .i64 0, .int .i64 0, .int .i64 0, .int .i64 0] 24 (0, 0)) (by refine blk_far ?_ NB184_197.out _; refine blk_far ?_ NB184_197.out _; refine blk_far ?_ NB184_197.out _; refine blk_far ?_ NB184_197.out _; refine blk_far ?_ NB184_197.out _; refine blk_far ?_ NB184_197.out _; exact BK184.out) NB184_188.out (by simp)); have n1_ := Ext.a (Kd.R_mono (Kd.R_keep (IsS56.apart (show IsS56 w _ g188 t185 t195 t196 from by repeat (first | (with_reducible first | exact HI188.out | apply IsS56.alloc | apply IsS56.drewN | apply IsS56.drew | apply IsS56.set_1 | apply IsS56.set_2 | refine IsS56.far ?_ NB188_184.out _ | refine IsS56.far ?_ NB188_197.out _) | exact HI188.out)) (Ext.nR ((Ext.far6 HO194.out BK197.out (by decide) (.slice Ao16 t192.length co16) (.slice none 0 0) (.int .i64 0) (.int .i64 0) (.int .i64 0) (.int .i64 0)))) (by decide)) hk (fun _ h => h.2)) (fun _ h => h.1)); have n2_ := Ext.a (KeepBut.blk hk (g' := gb197) (o := .cells #[.slice Ao16 t192.length co16, .slice none 0 0, .int .i64 0, .int .i64 0, .int .i64 0, .int .i64 0] 24 (0, 0)) (by refine blk_put (cs := #[.slice Ao16 t192.length co16, .slice none 0 0, .int .i64 0, .int .i64 0, .int .i64 0, .int .i64 0]) ?_ 5 _ rfl; refine blk_put (cs := #[.slice Ao16 t192.length co16, .slice none 0 0, .int .i64 0, .int .i64 0, .int .i64 0, .int .i64 0]) ?_ 4 _ rfl; refine blk_put (cs := #[.slice Ao16 t192.length co16, .slice none 0 0, .int .i64 0, .int .i64 0, .int .i64 0, .int .i64 0]) ?_ 3 _ rfl; refine blk_put (cs := #[.slice Ao16 t192.length co16, .slice none 0 0, .int .i64 0, .int .i64 0, .int .i64 0, .int .i64 0]) ?_ 2 _ rfl; refine blk_put (cs := #[.slice Ao16 t192.length co16, .slice none 0 0, .int .i64 0, .int .i64 0, .int .i64 0, .int .i64 0]) ?_ 1 _ rfl; refine blk_put (cs := #[.slice none 0 0, .slice none 0 0, .int .i64 0, .int .i64 0, .int .i64 0, .int .i64 0]) ?_ 0 _ rfl; exact BK197.out) NB197_188.out (by simp)); have n3_ := Ext.a (hb); have n4_ := Ext.a (hi); clear BK184 HO194 BK197 HB HI188; have BK184 := n0_; have HO194 := n1_; have BK197 := n2_; have HB := n3_; have HI188 := n4_; clear n0_ n1_ n2_ n3_ n4_; (try clear hb); (try clear hb2); (try clear hk); (try clear hi); have hcz22_0 : w21.cell? ⟨gb197, 0, none⟩ = some (.slice Ao16 t192.length co16) := (blk_cell BK197.out 0).trans rfl; have hcz22_1 : w21.cell? ⟨gb197, 1, none⟩ = some (.slice none 0 0) := (blk_cell BK197.out 1).trans rfl; have hcz22_2 : w21.cell? ⟨gb197, 2, none⟩ = some (.int .i64 0) := (blk_cell BK197.out 2).trans rfl; have hcz22_3 : w21.cell? ⟨gb197, 3, none⟩ = some (.int .i64 0) := (blk_cell BK197.out 3).trans rfl; have hcz22_4 : w21.cell? ⟨gb197, 4, none⟩ = some (.int .i64 0) := (blk_cell BK197.out 4).trans rfl; have hcz22_5 : w21.cell? ⟨gb197, 5, none⟩ = some (.int .i64 0) := (blk_cell BK197.out 5).trans rfl; have hfz22_0 := blk_frozen BK197.out 0; have hfz22_1 := blk_frozen BK197.out 1; have hfz22_2 := blk_frozen BK197.out 2; have hfz22_3 := blk_frozen BK197.out 3; have hfz22_4 := blk_frozen BK197.out 4; have hfz22_5 := blk_frozen BK197.out 5) | ((with_reducible refine gate_callee (f := 31) rfl ?_); refine goesL_ (some 23) rfl rfl Try.func31 (by kernel_rfl) rfl #[.pointer (some ⟨g188, 0, none⟩), .int .i64 8] rfl (by (try simp only [List.map_toArray, List.map_cons, List.map_nil]); first | done | rfl | (simp only [List.length_drop, List.length_take]; rfl)) ?_; (with_reducible refine (octets_Reader_Num.calls k g188 t185 t199 t200 8 t201 t202 t203 w _ ?side1 ?side2 A7.out).mono ?_); (case side1 => repeat (first | (with_reducible first | exact HI188.out | apply IsS56.alloc | apply IsS56.drewN | apply IsS56.drew | apply IsS56.set_1 | apply IsS56.set_2 | refine IsS56.far ?_ NB188_184.out _ | refine IsS56.far ?_ NB188_197.out _) | exact HI188.out)); (case side2 => repeat (first | (with_reducible first | exact HB.out | apply below_alloc | apply pw_below_drewN | apply below_drew1 | refine below_set ?_ GE184.out | refine below_set ?_ GE197.out | refine below_set ?_ (IsS56.ge HI188.out)) | exact HB.out | exact Below.refl _ _)); rintro e w23 ⟨rfl, hi, hb, hk⟩; refine ⟨_, rfl, ?_⟩; have n0_ := Ext.a (KeepBut.blk hk (g' := gb184) (o := .cells #[.slice none 0 0, .slice none 0 0, .int .i64 0, .int .i64 0, .int .i64 0, .int .i64 0] 24 (0, 0)) (by refine blk_far ?_ NB184_197.out _; exact BK184.out) NB184_188.out (by simp)); have n1_ := Ext.a (Kd.R_mono (Kd.R_keep (IsS56.apart (show IsS56 w _ g188 t185 t199 t200 from by repeat (first | (with_reducible first | exact HI188.out | apply IsS56.alloc | apply IsS56.drewN | apply IsS56.drew | apply IsS56.set_1 | apply IsS56.set_2 | refine IsS56.far ?_ NB188_184.out _ | refine IsS56.far ?_ NB188_197.out _) | exact HI188.out)) (Ext.nR ((Kd.R_mono (Kd.R_far (p := ⟨gb197, 2, none⟩) (Kd.R_types HO194.out BK197.out (by decide)) (fun _ hk => hk.2) (.int .i64 (wrap64 (t198)))) (fun _ h_ => h_.1)))) (by decide)) hk (fun _ h => h.2)) (fun _ h => h.1)); have n2_ := Ext.a (KeepBut.blk hk (g' := gb197) (o := .cells #[.slice Ao16 t192.length co16, .slice none 0 0, .int .i64 (wrap64 (t198)), .int .i64 0, .int .i64 0, .int .i64 0] 24 (0, 0)) (by refine blk_put (cs := #[.slice Ao16 t192.length co16, .slice none 0 0, .int .i64 0, .int .i64 0, .int .i64 0, .int .i64 0]) ?_ 2 _ rfl; exact BK197.out) NB197_188.out (by simp)); have n3_ := Ext.a (hb); have n4_ := Ext.a (hi); clear BK184 HO194 BK197 HB HI188; have BK184 := n0_; have HO194 := n1_; have BK197 := n2_; have HB := n3_; have HI188 := n4_; clear n0_ n1_ n2_ n3_ n4_; (try clear hb); (try clear hb2); (try clear hk); (try clear hi); have hcz24_0 : w23.cell? ⟨gb197, 0, none⟩ = some (.slice Ao16 t192.length co16) := (blk_cell BK197.out 0).trans rfl; have hcz24_1 : w23.cell? ⟨gb197, 1, none⟩ = some (.slice none 0 0) := (blk_cell BK197.out 1).trans rfl; have hcz24_2 : w23.cell? ⟨gb197, 2, none⟩ = some (.int .i64 (wrap64 (t198))) := (blk_cell BK197.out 2).trans rfl; have hcz24_3 : w23.cell? ⟨gb197, 3, none⟩ = some (.int .i64 0) := (blk_cell BK197.out 3).trans rfl; have hcz24_4 : w23.cell? ⟨gb197, 4, none⟩ = some (.int .i64 0) := (blk_cell BK197.out 4).trans rfl; have hcz24_5 : w23.cell? ⟨gb197, 5, none⟩ = some (.int .i64 0) := (blk_cell BK197.out 5).trans rfl; have hfz24_0 := blk_frozen BK197.out 0; have hfz24_1 := blk_frozen BK197.out 1; have hfz24_2 := blk_frozen BK197.out 2; have hfz24_3 := blk_frozen BK197.out 3; have hfz24_4 := blk_frozen BK197.out 4; have hfz24_5 := blk_frozen BK197.out 5) | ((with_reducible refine gate_callee (f := 31) rfl ?_); refine goesL_ (some 27) rfl rfl Try.func31 (by kernel_rfl) rfl #[.pointer (some ⟨g188, 0, none⟩), .int .i64 8] rfl (by (try simp only [List.map_toArray, List.map_cons, List.map_nil]); first | done | rfl | (simp only [List.length_drop, List.length_take]; rfl)) ?_; (with_reducible refine (octets_Reader_Num.calls k g188 t185 t202 t203 8 t204 t205 t206 w _ ?side1 ?side2 A8.out).mono ?_); (case side1 => repeat (first | (with_reducible first | exact HI188.out | apply IsS56.alloc | apply IsS56.drewN | apply IsS56.drew | apply IsS56.set_1 | apply IsS56.set_2 | refine IsS56.far ?_ NB188_184.out _ | refine IsS56.far ?_ NB188_197.out _) | exact HI188.out)); (case side2 => repeat (first | (with_reducible first | exact HB.out | apply below_alloc | apply pw_below_drewN | apply below_drew1 | refine below_set ?_ GE184.out | refine below_set ?_ GE197.out | refine below_set ?_ (IsS56.ge HI188.out)) | exact HB.out | exact Below.refl _ _)); rintro e w25 ⟨rfl, hi, hb, hk⟩; refine ⟨_, rfl, ?_⟩; have n0_ := Ext.a (KeepBut.blk hk (g' := gb184) (o := .cells #[.slice none 0 0, .slice none 0 0, .int .i64 0, .int .i64 0, .int .i64 0, .int .i64 0] 24 (0, 0)) (by refine blk_far ?_ NB184_197.out _; exact BK184.out) NB184_188.out (by simp)); have n1_ := Ext.a (Kd.R_mono (Kd.R_keep (IsS56.apart (show IsS56 w _ g188 t185 t202 t203 from by repeat (first | (with_reducible first | exact HI188.out | apply IsS56.alloc | apply IsS56.drewN | apply IsS56.drew | apply IsS56.set_1 | apply IsS56.set_2 | refine IsS56.far ?_ NB188_184.out _ | refine IsS56.far ?_ NB188_197.out _) | exact HI188.out)) (Ext.nR ((Kd.R_mono (Kd.R_far (p := ⟨gb197, 3, none⟩) (Kd.R_types HO194.out BK197.out (by decide)) (fun _ hk => hk.2) (.int .i64 (wrap64 (t201)))) (fun _ h_ => h_.1)))) (by decide)) hk (fun _ h => h.2)) (fun _ h => h.1)); have n2_ := Ext.a (KeepBut.blk hk (g' := gb197) (o := .cells #[.slice Ao16 t192.length co16, .slice none 0 0, .int .i64 (wrap64 (t198)), .int .i64 (wrap64 (t201)), .int .i64 0, .int .i64 0] 24 (0, 0)) (by refine blk_put (cs := #[.slice Ao16 t192.length co16, .slice none 0 0, .int .i64 (wrap64 (t198)), .int .i64 0, .int .i64 0, .int .i64 0]) ?_ 3 _ rfl; exact BK197.out) NB197_188.out (by simp)); have n3_ := Ext.a (hb); have n4_ := Ext.a (hi); clear BK184 HO194 BK197 HB HI188; have BK184 := n0_; have HO194 := n1_; have BK197 := n2_; have HB := n3_; have HI188 := n4_; clear n0_ n1_ n2_ n3_ n4_; (try clear hb); (try clear hb2); (try clear hk); (try clear hi); have hcz26_0 : w25.cell? ⟨gb197, 0, none⟩ = some (.slice Ao16 t192.length co16) := (blk_cell BK197.out 0).trans rfl; have hcz26_1 : w25.cell? ⟨gb197, 1, none⟩ = some (.slice none 0 0) := (blk_cell BK197.out 1).trans rfl; have hcz26_2 : w25.cell? ⟨gb197, 2, none⟩ = some (.int .i64 (wrap64 (t198))) := (blk_cell BK197.out 2).trans rfl; have hcz26_3 : w25.cell? ⟨gb197, 3, none⟩ = some (.int .i64 (wrap64 (t201))) := (blk_cell BK197.out 3).trans rfl; have hcz26_4 : w25.cell? ⟨gb197, 4, none⟩ = some (.int .i64 0) := (blk_cell BK197.out 4).trans rfl; have hcz26_5 : w25.cell? ⟨gb197, 5, none⟩ = some (.int .i64 0) := (blk_cell BK197.out 5).trans rfl; have hfz26_0 := blk_frozen BK197.out 0; have hfz26_1 := blk_frozen BK197.out 1; have hfz26_2 := blk_frozen BK197.out 2; have hfz26_3 := blk_frozen BK197.out 3; have hfz26_4 := blk_frozen BK197.out 4; have hfz26_5 := blk_frozen BK197.out 5) | ((with_reducible refine gate_callee (f := 31) rfl ?_); refine goesL_ (some 31) rfl rfl Try.func31 (by kernel_rfl) rfl #[.pointer (some ⟨g188, 0, none⟩), .int .i64 8] rfl (by (try simp only [List.map_toArray, List.map_cons, List.map_nil]); first | done | rfl | (simp only [List.length_drop, List.length_take]; rfl)) ?_; (with_reducible refine (octets_Reader_Num.calls k g188 t185 t205 t206 8 t207 t208 t209 w _ ?side1 ?side2 A9.out).mono ?_); (case side1 => repeat (first | (with_reducible first | exact HI188.out | apply IsS56.alloc | apply IsS56.drewN | apply IsS56.drew | apply IsS56.set_1 | apply IsS56.set_2 | refine IsS56.far ?_ NB188_184.out _ | refine IsS56.far ?_ NB188_197.out _) | exact HI188.out)); (case side2 => repeat (first | (with_reducible first | exact HB.out | apply below_alloc | apply pw_below_drewN | apply below_drew1 | refine below_set ?_ GE184.out | refine below_set ?_ GE197.out | refine below_set ?_ (IsS56.ge HI188.out)) | exact HB.out | exact Below.refl _ _)); rintro e w27 ⟨rfl, hi, hb, hk⟩; refine ⟨_, rfl, ?_⟩; have n0_ := Ext.a (KeepBut.blk hk (g' := gb184) (o := .cells #[.slice none 0 0, .slice none 0 0, .int .i64 0, .int .i64 0, .int .i64 0, .int .i64 0] 24 (0, 0)) (by refine blk_far ?_ NB184_197.out _; exact BK184.out) NB184_188.out (by simp)); have n1_ := Ext.a (Kd.R_mono (Kd.R_keep (IsS56.apart (show IsS56 w _ g188 t185 t205 t206 from by repeat (first | (with_reducible first | exact HI188.out | apply IsS56.alloc | apply IsS56.drewN | apply IsS56.drew | apply IsS56.set_1 | apply IsS56.set_2 | refine IsS56.far ?_ NB188_184.out _ | refine IsS56.far ?_ NB188_197.out _) | exact HI188.out)) (Ext.nR ((Kd.R_mono (Kd.R_far (p := ⟨gb197, 4, none⟩) (Kd.R_types HO194.out BK197.out (by decide)) (fun _ hk => hk.2) (.int .i64 (wrap64 (t204)))) (fun _ h_ => h_.1)))) (by decide)) hk (fun _ h => h.2)) (fun _ h => h.1)); have n2_ := Ext.a (KeepBut.blk hk (g' := gb197) (o := .cells #[.slice Ao16 t192.length co16, .slice none 0 0, .int .i64 (wrap64 (t198)), .int .i64 (wrap64 (t201)), .int .i64 (wrap64 (t204)), .int .i64 0] 24 (0, 0)) (by refine blk_put (cs := #[.slice Ao16 t192.length co16, .slice none 0 0, .int .i64 (wrap64 (t198)), .int .i64 (wrap64 (t201)), .int .i64 0, .int .i64 0]) ?_ 4 _ rfl; exact BK197.out) NB197_188.out (by simp)); have n3_ := Ext.a (hb); have n4_ := Ext.a (hi); clear BK184 HO194 BK197 HB HI188; have BK184 := n0_; have HO194 := n1_; have BK197 := n2_; have HB := n3_; have HI188 := n4_; clear n0_ n1_ n2_ n3_ n4_; (try clear hb); (try clear hb2); (try clear hk); (try clear hi); have hcz28_0 : w27.cell? ⟨gb197, 0, none⟩ = some (.slice Ao16 t192.length co16) := (blk_cell BK197.out 0).trans rfl; have hcz28_1 : w27.cell? ⟨gb197, 1, none⟩ = some (.slice none 0 0) := (blk_cell BK197.out 1).trans rfl; have hcz28_2 : w27.cell? ⟨gb197, 2, none⟩ = some (.int .i64 (wrap64 (t198))) := (blk_cell BK197.out 2).trans rfl; have hcz28_3 : w27.cell? ⟨gb197, 3, none⟩ = some (.int .i64 (wrap64 (t201))) := (blk_cell BK197.out 3).trans rfl; have hcz28_4 : w27.cell? ⟨gb197, 4, none⟩ = some (.int .i64 (wrap64 (t204))) := (blk_cell BK197.out 4).trans rfl; have hcz28_5 : w27.cell? ⟨gb197, 5, none⟩ = some (.int .i64 0) := (blk_cell BK197.out 5).trans rfl; have hfz28_0 := blk_frozen BK197.out 0; have hfz28_1 := blk_frozen BK197.out 1; have hfz28_2 := blk_frozen BK197.out 2; have hfz28_3 := blk_frozen BK197.out 3; have hfz28_4 := blk_frozen BK197.out 4; have hfz28_5 := blk_frozen BK197.out 5) | ((with_reducible refine gate_callee (f := 32) rfl ?_); refine goesL_ (some 35) rfl rfl Try.func32 (by kernel_rfl) rfl #[.pointer (some ⟨g188, 0, none⟩), .int .i64 1024] rfl (by (try simp only [List.map_toArray, List.map_cons, List.map_nil]); first | done | rfl | (simp only [List.length_drop, List.length_take]; rfl)) ?_; (with_reducible refine (octets_Reader_Text.calls k g188 t185 t208 t209 1024 t210 t213 t214 w _ ?side1 ?side2 A10.out).mono ?_); (case side1 => repeat (first | (with_reducible first | exact HI188.out | apply IsS56.alloc | apply IsS56.drewN | apply IsS56.drew | apply IsS56.set_1 | apply IsS56.set_2 | refine IsS56.far ?_ NB188_184.out _ | refine IsS56.far ?_ NB188_197.out _) | exact HI188.out)); (case side2 => repeat (first | (with_reducible first | exact HB.out | apply below_alloc | apply pw_below_drewN | apply below_drew1 | refine below_set ?_ GE184.out | refine below_set ?_ GE197.out | refine below_set ?_ (IsS56.ge HI188.out)) | exact HB.out | exact Below.refl _ _)); rintro e w29 ⟨v211, rfl, ho0, hi, hb, hk⟩; refine ⟨_, rfl, ?_⟩; have n0_ := Ext.a (KeepBut.blk hk (g' := gb184) (o := .cells #[.slice none 0 0, .slice none 0 0, .int .i64 0, .int .i64 0, .int .i64 0, .int .i64 0] 24 (0, 0)) (by refine blk_far ?_ NB184_197.out _; exact BK184.out) NB184_188.out (by simp)); have n1_ := Ext.a (Kd.R_mono (Kd.R_told (Kd.R_oldK (IsS56.apart (show IsS56 w _ g188 t185 t208 t209 from by repeat (first | (with_reducible first | exact HI188.out | apply IsS56.alloc | apply IsS56.drewN | apply IsS56.drew | apply IsS56.set_1 | apply IsS56.set_2 | refine IsS56.far ?_ NB188_184.out _ | refine IsS56.far ?_ NB188_197.out _) | exact HI188.out)) (Ext.nR ((Kd.R_mono (Kd.R_far (p := ⟨gb197, 5, none⟩) (Kd.R_types HO194.out BK197.out (by decide)) (fun _ hk => hk.2) (.int .i64 (wrap64 (t207)))) (fun _ h_ => h_.1)))) (by decide)) hk) (Kd.R_base ho0)) (fun _ h_ => h_.1)); have n2_ := Ext.a (KeepBut.blk hk (g' := gb197) (o := .cells #[.slice Ao16 t192.length co16, .slice none 0 0, .int .i64 (wrap64 (t198)), .int .i64 (wrap64 (t201)), .int .i64 (wrap64 (t204)), .int .i64 (wrap64 (t207))] 24 (0, 0)) (by refine blk_put (cs := #[.slice Ao16 t192.length co16, .slice none 0 0, .int .i64 (wrap64 (t198)), .int .i64 (wrap64 (t201)), .int .i64 (wrap64 (t204)), .int .i64 0]) ?_ 5 _ rfl; exact BK197.out) NB197_188.out (by simp)); have n3_ := Ext.a (Kd.R_lower (Kd.R_new' ho0 (Kd.R_lt (Ext.nR ((Kd.R_mono (Kd.R_far (p := ⟨gb197, 5, none⟩) (Kd.R_types HO194.out BK197.out (by decide)) (fun _ hk => hk.2) (.int .i64 (wrap64 (t207)))) (fun _ h_ => h_.1)))))) (below_size (by repeat (first | (with_reducible first | exact HB.out | apply below_alloc | apply pw_below_drewN | apply below_drew1 | refine below_set ?_ GE184.out | refine below_set ?_ GE197.out | refine below_set ?_ (IsS56.ge HI188.out)) | exact HB.out | exact Below.refl _ _)))); have n4_ := Ext.a (hb); have n5_ := Ext.a (hi); clear BK184 HO194 BK197 HB HI188; have BK184 := n0_; have HO194 := n1_; have BK197 := n2_; have HO212 := n3_; have HB := n4_; have HI188 := n5_; clear n0_ n1_ n2_ n3_ n4_ n5_; (try clear hb); (try clear hb2); (try clear hk); (try clear hi); (try clear ho0); obtain ⟨Ao30, co30, eo30⟩ := Kd.R_slice HO212.out; subst eo30; have hcz31_0 : w29.cell? ⟨gb197, 0, none⟩ = some (.slice Ao16 t192.length co16) := (blk_cell BK197.out 0).trans rfl; have hcz31_1 : w29.cell? ⟨gb197, 1, none⟩ = some (.slice none 0 0) := (blk_cell BK197.out 1).trans rfl; have hcz31_2 : w29.cell? ⟨gb197, 2, none⟩ = some (.int .i64 (wrap64 (t198))) := (blk_cell BK197.out 2).trans rfl; have hcz31_3 : w29.cell? ⟨gb197, 3, none⟩ = some (.int .i64 (wrap64 (t201))) := (blk_cell BK197.out 3).trans rfl; have hcz31_4 : w29.cell? ⟨gb197, 4, none⟩ = some (.int .i64 (wrap64 (t204))) := (blk_cell BK197.out 4).trans rfl; have hcz31_5 : w29.cell? ⟨gb197, 5, none⟩ = some (.int .i64 (wrap64 (t207))) := (blk_cell BK197.out 5).trans rfl; have hfz31_0 := blk_frozen BK197.out 0; have hfz31_1 := blk_frozen BK197.out 1; have hfz31_2 := blk_frozen BK197.out 2; have hfz31_3 := blk_frozen BK197.out 3; have hfz31_4 := blk_frozen BK197.out 4; have hfz31_5 := blk_frozen BK197.out 5))
  (try simp only [Act.put, Ext.sb, Ext.sz, Ext.ss])
  go_cut [43] (fun v43 wc => ∃ (kq : Nat) (x43_10 : Bool), v43 = .bool x43_10 ∧ Aside0 (record_Decode.j0 kq x43_10 t192 t210 (wrap64 (t198)) (wrap64 (t201)) (wrap64 (t204)) (wrap64 (t207)) = some (r1, r2, r3, r4, r5, r6, r7, r8)) ∧ Aside0 (kq ≤ k) ∧ Aside0 (Kd.R (Kd.int .u8) 5 wc w.heap.size (fun k_ => some k_ ≠ ((.slice Ao30 t210.length co30) : Value).ownBlock) (.slice Ao16 t192.length co16) t192) ∧ Aside0 (Kd.R (Kd.int .u8) 5 wc w.heap.size (fun k_ => some k_ ≠ ((.slice Ao16 t192.length co16) : Value).ownBlock) (.slice Ao30 t210.length co30) t210) ∧ Aside0 (wc.heap[gb184]? = some (.cells #[(.slice none 0 0), (.slice none 0 0), .int .i64 0, .int .i64 0, .int .i64 0, .int .i64 0] 24 (0, 0))) ∧ Aside0 (wc.heap[gb197]? = some (.cells #[(.slice Ao16 t192.length co16), (.slice Ao30 t210.length co30), .int .i64 (wrap64 (t198)), .int .i64 (wrap64 (t201)), .int .i64 (wrap64 (t204)), .int .i64 (wrap64 (t207))] 24 (0, 0))) ∧ Aside0 (Below w.heap.size w wc))
  case first =>
   have H := HC11.out
   clear HC11
   replace H := Option.bind_eq_some_iff.mp H
   obtain ⟨⟨t215, t216, t217⟩, A320, H⟩ := H
   replace H : (if t215 = 0 then ((record_Right.f t192 t210 (wrap64 (t198)) (wrap64 (t201)) (wrap64 (t204)) (wrap64 (t207))).bind fun t218 => (record_Decode.j0 k t218 t192 t210 (wrap64 (t198)) (wrap64 (t201)) (wrap64 (t204)) (wrap64 (t207)))) else (record_Decode.j0 k false t192 t210 (wrap64 (t198)) (wrap64 (t201)) (wrap64 (t204)) (wrap64 (t207)))) = some (r1, r2, r3, r4, r5, r6, r7, r8) := H
   have A32 := Aside0.mk A320
   clear A320
   by_cases c33 : t215 = 0
   ·
    rw [if_pos c33] at H
    have c33b0 : (t215 == 0) = true := beq_iff_eq.mpr c33
    have c33b1 : (t215 != 0) = false := bne_eq_false_iff_eq.mpr c33
    clear c33
    (first | rw [c33b0] | (simp only [i64_w, i32_w]; rw [c33b0]) | skip)
    replace H := Option.bind_eq_some_iff.mp H
    obtain ⟨t218, A340, H⟩ := H
    replace H : (record_Decode.j0 k t218 t192 t210 (wrap64 (t198)) (wrap64 (t201)) (wrap64 (t204)) (wrap64 (t207))) = some (r1, r2, r3, r4, r5, r6, r7, r8) := H
    have A34 := Aside0.mk A340
    clear A340
    have H' := Aside0.mk H
    clear H
    go_wp2_with (first | ((with_reducible refine gate_callee (f := 33) rfl ?_); refine goesL_ (some 38) rfl rfl Try.func33 (by kernel_rfl) rfl #[.pointer (some ⟨g188, 0, none⟩)] rfl (by (try simp only [List.map_toArray, List.map_cons, List.map_nil]); first | done | rfl | (simp only [List.length_drop, List.length_take]; rfl)) ?_; (with_reducible refine (octets_Reader_End.calls g188 t185 t213 t214 t215 t216 t217 w _ ?side1 ?side2 A32.out).mono ?_); (case side1 => repeat (first | (with_reducible first | exact HI188.out | apply IsS56.alloc | apply IsS56.drewN | apply IsS56.drew | apply IsS56.set_1 | apply IsS56.set_2 | refine IsS56.far ?_ NB188_184.out _ | refine IsS56.far ?_ NB188_197.out _) | exact HI188.out)); (case side2 => repeat (first | (with_reducible first | exact HB.out | apply below_alloc | apply pw_below_drewN | apply below_drew1 | refine below_set ?_ GE184.out | refine below_set ?_ GE197.out | refine below_set ?_ (IsS56.ge HI188.out)) | exact HB.out | exact Below.refl _ _)); rintro e w35 ⟨rfl, hi, hb, hk⟩; refine ⟨_, rfl, ?_⟩; have n0_ := Ext.a (KeepBut.blk hk (g' := gb184) (o := .cells #[.slice none 0 0, .slice none 0 0, .int .i64 0, .int .i64 0, .int .i64 0, .int .i64 0] 24 (0, 0)) (by refine blk_far ?_ NB184_197.out _; exact BK184.out) NB184_188.out (by simp)); have n1_ := Ext.a (Kd.R_mono (Kd.R_keep (IsS56.apart (show IsS56 w _ g188 t185 t213 t214 from by repeat (first | (with_reducible first | exact HI188.out | apply IsS56.alloc | apply IsS56.drewN | apply IsS56.drew | apply IsS56.set_1 | apply IsS56.set_2 | refine IsS56.far ?_ NB188_184.out _ | refine IsS56.far ?_ NB188_197.out _) | exact HI188.out)) (Ext.nR ((Kd.R_mono (Kd.R_far (p := ⟨gb197, 1, none⟩) (Kd.R_types HO194.out BK197.out (by decide)) (fun _ hk => hk.2) (.slice Ao30 t210.length co30)) (fun _ h_ => h_.1)))) (by decide)) hk (fun _ h => h.2)) (fun _ h => h.1)); have n2_ := Ext.a (KeepBut.blk hk (g' := gb197) (o := .cells #[.slice Ao16 t192.length co16, .slice Ao30 t210.length co30, .int .i64 (wrap64 (t198)), .int .i64 (wrap64 (t201)), .int .i64 (wrap64 (t204)), .int .i64 (wrap64 (t207))] 24 (0, 0)) (by refine blk_put (cs := #[.slice Ao16 t192.length co16, .slice none 0 0, .int .i64 (wrap64 (t198)), .int .i64 (wrap64 (t201)), .int .i64 (wrap64 (t204)), .int .i64 (wrap64 (t207))]) ?_ 1 _ rfl; exact BK197.out) NB197_188.out (by simp)); have n3_ := Ext.a (Kd.R_mono (Kd.R_keep (IsS56.apart (show IsS56 w _ g188 t185 t213 t214 from by repeat (first | (with_reducible first | exact HI188.out | apply IsS56.alloc | apply IsS56.drewN | apply IsS56.drew | apply IsS56.set_1 | apply IsS56.set_2 | refine IsS56.far ?_ NB188_184.out _ | refine IsS56.far ?_ NB188_197.out _) | exact HI188.out)) (Ext.nR ((Kd.R_mono (Kd.R_far (p := ⟨gb197, 1, none⟩) (Kd.R_types HO212.out BK197.out (by decide)) (fun _ hk => hk.2) (.slice Ao30 t210.length co30)) (fun _ h_ => h_.1)))) (by decide)) hk (fun _ h => h.2)) (fun _ h => h.1)); have n4_ := Ext.a (hb); have n5_ := Ext.a (hi); clear BK184 HO194 BK197 HO212 HB HI188; have BK184 := n0_; have HO194 := n1_; have BK197 := n2_; have HO212 := n3_; have HB := n4_; have HI188 := n5_; clear n0_ n1_ n2_ n3_ n4_ n5_; (try clear hb); (try clear hb2); (try clear hk); (try clear hi); have hnb36 := NB197_184.out; have hnc36 := NB184_197.out; have hnb37 := NB197_188.out; have hnc37 := NB188_197.out; have hcz38_0 : w35.cell? ⟨gb197, 0, none⟩ = some (.slice Ao16 t192.length co16) := (blk_cell BK197.out 0).trans rfl; have hcz38_1 : w35.cell? ⟨gb197, 1, none⟩ = some (.slice Ao30 t210.length co30) := (blk_cell BK197.out 1).trans rfl; have hcz38_2 : w35.cell? ⟨gb197, 2, none⟩ = some (.int .i64 (wrap64 (t198))) := (blk_cell BK197.out 2).trans rfl; have hcz38_3 : w35.cell? ⟨gb197, 3, none⟩ = some (.int .i64 (wrap64 (t201))) := (blk_cell BK197.out 3).trans rfl; have hcz38_4 : w35.cell? ⟨gb197, 4, none⟩ = some (.int .i64 (wrap64 (t204))) := (blk_cell BK197.out 4).trans rfl; have hcz38_5 : w35.cell? ⟨gb197, 5, none⟩ = some (.int .i64 (wrap64 (t207))) := (blk_cell BK197.out 5).trans rfl; have hfz38_0 := blk_frozen BK197.out 0; have hfz38_1 := blk_frozen BK197.out 1; have hfz38_2 := blk_frozen BK197.out 2; have hfz38_3 := blk_frozen BK197.out 3; have hfz38_4 := blk_frozen BK197.out 4; have hfz38_5 := blk_frozen BK197.out 5) | (go_at_call 13; (with_reducible refine (record_Right.calls _ _ t192 _ _ t210 (wrap64 (t198)) (wrap64 (t201)) (wrap64 (t204)) (wrap64 (t207)) t218 _ ?side1 ?side2 ?side3 ?side4 A34.out).mono ?_); (case side1 => exact Ext.nC (Kd.R_reads' HO194.out).2.2); (case side2 => exact (Kd.R_reads' HO194.out).2.1); (case side3 => exact Ext.nC (Kd.R_reads' HO212.out).2.2); (case side4 => exact (Kd.R_reads' HO212.out).2.1); rintro e w39 ⟨rfl, hb⟩; (try replace hb := hb.below); have n0_ := Ext.a (Kd.R_below (Ext.nR HO194.out) hb); have n1_ := Ext.a (Kd.R_below (Ext.nR HO212.out) hb); have n2_ := Ext.a (blk_below BK184.out hb); have n3_ := Ext.a (IsS56.below (by repeat (first | (with_reducible first | exact HI188.out | apply IsS56.alloc | apply IsS56.drewN | apply IsS56.drew | apply IsS56.set_1 | apply IsS56.set_2 | refine IsS56.far ?_ NB188_184.out _ | refine IsS56.far ?_ NB188_197.out _) | exact HI188.out)) hb); have n4_ := Ext.a (blk_below BK197.out hb); have n5_ := Ext.a (below_step (by repeat (first | (with_reducible first | exact HB.out | apply below_alloc | apply pw_below_drewN | apply below_drew1 | refine below_set ?_ GE184.out | refine below_set ?_ GE197.out | refine below_set ?_ (IsS56.ge HI188.out)) | exact HB.out | exact Below.refl _ _)) hb); clear HO194 HO212 BK184 HI188 BK197 HB; have HO194 := n0_; have HO212 := n1_; have BK184 := n2_; have HI188 := n3_; have BK197 := n4_; have HB := n5_; clear n0_ n1_ n2_ n3_ n4_ n5_; (try clear hb); (try clear hb2); (try clear hk); (try clear hi)))
    go_meet
    case rel => exact ⟨_, (t218), (by first | rfl | (simp; done) | (simp [*]; done)), H', ⟨by first | omega | exact Nat.le_refl _⟩, ⟨by (with_reducible repeat (first | apply Kd.R_alloc | apply Kd.R_drewN | apply Kd.R_drew)); exact Kd.R_mono HO194.out (fun _ hk => hk.2)⟩, ⟨by (with_reducible repeat (first | apply Kd.R_alloc | apply Kd.R_drewN | apply Kd.R_drew)); exact Kd.R_mono HO212.out (fun _ hk => hk.2)⟩, ⟨by exact BK184.out⟩, ⟨by exact BK197.out⟩, ⟨by repeat (first | (with_reducible first | exact HB.out | apply below_alloc | apply pw_below_drewN | apply below_drew1 | refine below_set ?_ GE184.out | refine below_set ?_ GE197.out | refine below_set ?_ (IsS56.ge HI188.out)) | exact HB.out | exact Below.refl _ _)⟩⟩
   ·
    rw [if_neg c33] at H
    have c33b0 : (t215 == 0) = false := beq_eq_false_iff_ne.mpr c33
    have c33b1 : (t215 != 0) = true := bne_iff_ne.mpr c33
    (first | rw [c33b0] | (simp only [i64_w, i32_w]; rw [c33b0]) | skip)
    have H' := Aside0.mk H
    clear H
    go_wp2_with (first | ((with_reducible refine gate_callee (f := 33) rfl ?_); refine goesL_ (some 38) rfl rfl Try.func33 (by kernel_rfl) rfl #[.pointer (some ⟨g188, 0, none⟩)] rfl (by (try simp only [List.map_toArray, List.map_cons, List.map_nil]); first | done | rfl | (simp only [List.length_drop, List.length_take]; rfl)) ?_; (with_reducible refine (octets_Reader_End.calls g188 t185 t213 t214 t215 t216 t217 w _ ?side1 ?side2 A32.out).mono ?_); (case side1 => repeat (first | (with_reducible first | exact HI188.out | apply IsS56.alloc | apply IsS56.drewN | apply IsS56.drew | apply IsS56.set_1 | apply IsS56.set_2 | refine IsS56.far ?_ NB188_184.out _ | refine IsS56.far ?_ NB188_197.out _) | exact HI188.out)); (case side2 => repeat (first | (with_reducible first | exact HB.out | apply below_alloc | apply pw_below_drewN | apply below_drew1 | refine below_set ?_ GE184.out | refine below_set ?_ GE197.out | refine below_set ?_ (IsS56.ge HI188.out)) | exact HB.out | exact Below.refl _ _)); rintro e w40 ⟨rfl, hi, hb, hk⟩; refine ⟨_, rfl, ?_⟩; have n0_ := Ext.a (KeepBut.blk hk (g' := gb184) (o := .cells #[.slice none 0 0, .slice none 0 0, .int .i64 0, .int .i64 0, .int .i64 0, .int .i64 0] 24 (0, 0)) (by refine blk_far ?_ NB184_197.out _; exact BK184.out) NB184_188.out (by simp)); have n1_ := Ext.a (Kd.R_mono (Kd.R_keep (IsS56.apart (show IsS56 w _ g188 t185 t213 t214 from by repeat (first | (with_reducible first | exact HI188.out | apply IsS56.alloc | apply IsS56.drewN | apply IsS56.drew | apply IsS56.set_1 | apply IsS56.set_2 | refine IsS56.far ?_ NB188_184.out _ | refine IsS56.far ?_ NB188_197.out _) | exact HI188.out)) (Ext.nR ((Kd.R_mono (Kd.R_far (p := ⟨gb197, 1, none⟩) (Kd.R_types HO194.out BK197.out (by decide)) (fun _ hk => hk.2) (.slice Ao30 t210.length co30)) (fun _ h_ => h_.1)))) (by decide)) hk (fun _ h => h.2)) (fun _ h => h.1)); have n2_ := Ext.a (KeepBut.blk hk (g' := gb197) (o := .cells #[.slice Ao16 t192.length co16, .slice Ao30 t210.length co30, .int .i64 (wrap64 (t198)), .int .i64 (wrap64 (t201)), .int .i64 (wrap64 (t204)), .int .i64 (wrap64 (t207))] 24 (0, 0)) (by refine blk_put (cs := #[.slice Ao16 t192.length co16, .slice none 0 0, .int .i64 (wrap64 (t198)), .int .i64 (wrap64 (t201)), .int .i64 (wrap64 (t204)), .int .i64 (wrap64 (t207))]) ?_ 1 _ rfl; exact BK197.out) NB197_188.out (by simp)); have n3_ := Ext.a (Kd.R_mono (Kd.R_keep (IsS56.apart (show IsS56 w _ g188 t185 t213 t214 from by repeat (first | (with_reducible first | exact HI188.out | apply IsS56.alloc | apply IsS56.drewN | apply IsS56.drew | apply IsS56.set_1 | apply IsS56.set_2 | refine IsS56.far ?_ NB188_184.out _ | refine IsS56.far ?_ NB188_197.out _) | exact HI188.out)) (Ext.nR ((Kd.R_mono (Kd.R_far (p := ⟨gb197, 1, none⟩) (Kd.R_types HO212.out BK197.out (by decide)) (fun _ hk => hk.2) (.slice Ao30 t210.length co30)) (fun _ h_ => h_.1)))) (by decide)) hk (fun _ h => h.2)) (fun _ h => h.1)); have n4_ := Ext.a (hb); have n5_ := Ext.a (hi); clear BK184 HO194 BK197 HO212 HB HI188; have BK184 := n0_; have HO194 := n1_; have BK197 := n2_; have HO212 := n3_; have HB := n4_; have HI188 := n5_; clear n0_ n1_ n2_ n3_ n4_ n5_; (try clear hb); (try clear hb2); (try clear hk); (try clear hi)))
    go_meet
    case rel => exact ⟨_, (false), (by first | rfl | (simp; done) | (simp [*]; done)), H', ⟨by first | omega | exact Nat.le_refl _⟩, ⟨by (with_reducible repeat (first | apply Kd.R_alloc | apply Kd.R_drewN | apply Kd.R_drew)); exact Kd.R_mono HO194.out (fun _ hk => hk.2)⟩, ⟨by (with_reducible repeat (first | apply Kd.R_alloc | apply Kd.R_drewN | apply Kd.R_drew)); exact Kd.R_mono HO212.out (fun _ hk => hk.2)⟩, ⟨by exact BK184.out⟩, ⟨by exact BK197.out⟩, ⟨by repeat (first | (with_reducible first | exact HB.out | apply below_alloc | apply pw_below_drewN | apply below_drew1 | refine below_set ?_ GE184.out | refine below_set ?_ GE197.out | refine below_set ?_ (IsS56.ge HI188.out)) | exact HB.out | exact Below.refl _ _)⟩⟩
  case rest =>
   clear HC11
   try clear c1
   try clear c2
   try clear p2
   try clear c3
   try clear c5
   try clear c5b0
   try clear c5b1
   try clear p6
   try clear c18
   try clear c19
   try clear c21
   try clear c30
   try clear c31
   try clear c32
   try clear c33
   try clear c33b0
   try clear c33b1
   try clear c36
   try clear c37
   try clear hcz20_0
   try clear hcz20_1
   try clear hcz20_2
   try clear hcz20_3
   try clear hcz20_4
   try clear hcz20_5
   try clear hcz22_0
   try clear hcz22_1
   try clear hcz22_2
   try clear hcz22_3
   try clear hcz22_4
   try clear hcz22_5
   try clear hcz24_0
   try clear hcz24_1
   try clear hcz24_2
   try clear hcz24_3
   try clear hcz24_4
   try clear hcz24_5
   try clear hcz26_0
   try clear hcz26_1
   try clear hcz26_2
   try clear hcz26_3
   try clear hcz26_4
   try clear hcz26_5
   try clear hcz28_0
   try clear hcz28_1
   try clear hcz28_2
   try clear hcz28_3
   try clear hcz28_4
   try clear hcz28_5
   try clear hcz31_0
   try clear hcz31_1
   try clear hcz31_2
   try clear hcz31_3
   try clear hcz31_4
   try clear hcz31_5
   try clear hcz38_0
   try clear hcz38_1
   try clear hcz38_2
   try clear hcz38_3
   try clear hcz38_4
   try clear hcz38_5
   try clear hfz20_0
   try clear hfz20_1
   try clear hfz20_2
   try clear hfz20_3
   try clear hfz20_4
   try clear hfz20_5
   try clear hfz22_0
   try clear hfz22_1
   try clear hfz22_2
   try clear hfz22_3
   try clear hfz22_4
   try clear hfz22_5
   try clear hfz24_0
   try clear hfz24_1
   try clear hfz24_2
   try clear hfz24_3
   try clear hfz24_4
   try clear hfz24_5
   try clear hfz26_0
   try clear hfz26_1
   try clear hfz26_2
   try clear hfz26_3
   try clear hfz26_4
   try clear hfz26_5
   try clear hfz28_0
   try clear hfz28_1
   try clear hfz28_2
   try clear hfz28_3
   try clear hfz28_4
   try clear hfz28_5
   try clear hfz31_0
   try clear hfz31_1
   try clear hfz31_2
   try clear hfz31_3
   try clear hfz31_4
   try clear hfz31_5
   try clear hfz38_0
   try clear hfz38_1
   try clear hfz38_2
   try clear hfz38_3
   try clear hfz38_4
   try clear hfz38_5
   obtain ⟨kq, x43_10, rfl, HA, HJ10, HO_198000, HO_198001, BK184, BK197, HB⟩ := hcut
   cases kq with
   | zero => exact absurd HA.out (by simp [record_Decode.j0])
   | succ kj10 =>
    have H := HA.out
    clear HA
    simp only [record_Decode.j0] at H
    by_cases c41 : x43_10 = true
    ·
     subst c41
     have H1 : (some (t192, t210, (wrap64 (t198)), (wrap64 (t201)), (wrap64 (t204)), (wrap64 (t207)), false, 0)) = some (r1, r2, r3, r4, r5, r6, r7, r8) := by rw [if_pos rfl] at H; exact H
     clear H
     have H := H1
     clear H1
     simp only [Option.some.injEq, Prod.mk.injEq] at H
     obtain ⟨rfl, rfl, rfl, rfl, rfl, rfl, rfl, rfl⟩ := H
     have hnb42 := NB197_184.out
     have hnc42 := NB184_197.out
     have hcz43_0 : wc.cell? ⟨gb197, 0, none⟩ = some (.slice Ao16 t192.length co16) := (blk_cell BK197.out 0).trans rfl
     have hcz43_1 : wc.cell? ⟨gb197, 1, none⟩ = some (.slice Ao30 t210.length co30) := (blk_cell BK197.out 1).trans rfl
     have hcz43_2 : wc.cell? ⟨gb197, 2, none⟩ = some (.int .i64 (wrap64 (t198))) := (blk_cell BK197.out 2).trans rfl
     have hcz43_3 : wc.cell? ⟨gb197, 3, none⟩ = some (.int .i64 (wrap64 (t201))) := (blk_cell BK197.out 3).trans rfl
     have hcz43_4 : wc.cell? ⟨gb197, 4, none⟩ = some (.int .i64 (wrap64 (t204))) := (blk_cell BK197.out 4).trans rfl
     have hcz43_5 : wc.cell? ⟨gb197, 5, none⟩ = some (.int .i64 (wrap64 (t207))) := (blk_cell BK197.out 5).trans rfl
     have hfz43_0 := blk_frozen BK197.out 0
     have hfz43_1 := blk_frozen BK197.out 1
     have hfz43_2 := blk_frozen BK197.out 2
     have hfz43_3 := blk_frozen BK197.out 3
     have hfz43_4 := blk_frozen BK197.out 4
     have hfz43_5 := blk_frozen BK197.out 5
     have hcz44_0 : wc.cell? ⟨gb184, 0, none⟩ = some (.slice none 0 0) := (blk_cell BK184.out 0).trans rfl
     have hcz44_1 : wc.cell? ⟨gb184, 1, none⟩ = some (.slice none 0 0) := (blk_cell BK184.out 1).trans rfl
     have hcz44_2 : wc.cell? ⟨gb184, 2, none⟩ = some (.int .i64 0) := (blk_cell BK184.out 2).trans rfl
     have hcz44_3 : wc.cell? ⟨gb184, 3, none⟩ = some (.int .i64 0) := (blk_cell BK184.out 3).trans rfl
     have hcz44_4 : wc.cell? ⟨gb184, 4, none⟩ = some (.int .i64 0) := (blk_cell BK184.out 4).trans rfl
     have hcz44_5 : wc.cell? ⟨gb184, 5, none⟩ = some (.int .i64 0) := (blk_cell BK184.out 5).trans rfl
     have hfz44_0 := blk_frozen BK184.out 0
     have hfz44_1 := blk_frozen BK184.out 1
     have hfz44_2 := blk_frozen BK184.out 2
     have hfz44_3 := blk_frozen BK184.out 3
     have hfz44_4 := blk_frozen BK184.out 4
     have hfz44_5 := blk_frozen BK184.out 5
     go_wp2
     refine bodyPost_ret (results_ctt rfl _ _ gb184 24 #[.slice Ao16 t192.length co16, .slice Ao30 t210.length co30, .int .i64 (wrap64 (t198)), .int .i64 (wrap64 (t201)), .int .i64 (wrap64 (t204)), .int .i64 (wrap64 (t207))] (0, 0) _ rfl (by refine blk_put (cs := #[.slice Ao16 t192.length co16, .slice Ao30 t210.length co30, .int .i64 (wrap64 (t198)), .int .i64 (wrap64 (t201)), .int .i64 (wrap64 (t204)), .int .i64 0]) ?_ 5 _ rfl; refine blk_put (cs := #[.slice Ao16 t192.length co16, .slice Ao30 t210.length co30, .int .i64 (wrap64 (t198)), .int .i64 (wrap64 (t201)), .int .i64 0, .int .i64 0]) ?_ 4 _ rfl; refine blk_put (cs := #[.slice Ao16 t192.length co16, .slice Ao30 t210.length co30, .int .i64 (wrap64 (t198)), .int .i64 0, .int .i64 0, .int .i64 0]) ?_ 3 _ rfl; refine blk_put (cs := #[.slice Ao16 t192.length co16, .slice Ao30 t210.length co30, .int .i64 0, .int .i64 0, .int .i64 0, .int .i64 0]) ?_ 2 _ rfl; refine blk_put (cs := #[.slice Ao16 t192.length co16, .slice none 0 0, .int .i64 0, .int .i64 0, .int .i64 0, .int .i64 0]) ?_ 1 _ rfl; refine blk_put (cs := #[.slice none 0 0, .slice none 0 0, .int .i64 0, .int .i64 0, .int .i64 0, .int .i64 0]) ?_ 0 _ rfl; exact BK184.out) Try.underlying24 rfl (by kernel_rfl)) rfl ?_
     (try have HO_198000 := Ext.a (by first | exact Kd.R_lower HO_198000.out HWN.out.size | exact Kd.S_lower HO_198000.out HWN.out.size | exact Kd.N_lower HO_198000.out HWN.out.size))
     (try have HO_198001 := Ext.a (by first | exact Kd.R_lower HO_198001.out HWN.out.size | exact Kd.S_lower HO_198001.out HWN.out.size | exact Kd.N_lower HO_198001.out HWN.out.size))
     (try have GE184 := Ext.a (Nat.le_trans HWN.out.size GE184.out))
     (try have GE197 := Ext.a (Nat.le_trans HWN.out.size GE197.out))
     (try have HB := Ext.a (below_step HWN.out HB.out))
     refine ⟨_, HW0.out, ?_⟩
     exact ⟨_, _, by first | rfl | (simp [errW_none, errW_some] <;> rfl) | (simp [*, errW_none, errW_some] <;> rfl), by (with_reducible repeat (first | apply Kd.R_alloc | apply Kd.R_drewN | apply Kd.R_drew)); exact Kd.R_mono (Kd.R_far (p := ⟨gb184, 5, none⟩) (Kd.R_far (p := ⟨gb184, 4, none⟩) (Kd.R_far (p := ⟨gb184, 3, none⟩) (Kd.R_far (p := ⟨gb184, 2, none⟩) (Kd.R_far (p := ⟨gb184, 1, none⟩) (Kd.R_far (p := ⟨gb184, 0, none⟩) (Kd.R_types HO_198000.out BK184.out (by decide)) (fun _ hk => hk.2) (.slice Ao16 t192.length co16)) (fun _ hk => hk.2) (.slice Ao30 t210.length co30)) (fun _ hk => hk.2) (.int .i64 (wrap64 (t198)))) (fun _ hk => hk.2) (.int .i64 (wrap64 (t201)))) (fun _ hk => hk.2) (.int .i64 (wrap64 (t204)))) (fun _ hk => hk.2) (.int .i64 (wrap64 (t207)))) (fun _ hk => hk.1), by (with_reducible repeat (first | apply Kd.R_alloc | apply Kd.R_drewN | apply Kd.R_drew)); exact Kd.R_mono (Kd.R_far (p := ⟨gb184, 5, none⟩) (Kd.R_far (p := ⟨gb184, 4, none⟩) (Kd.R_far (p := ⟨gb184, 3, none⟩) (Kd.R_far (p := ⟨gb184, 2, none⟩) (Kd.R_far (p := ⟨gb184, 1, none⟩) (Kd.R_far (p := ⟨gb184, 0, none⟩) (Kd.R_types HO_198001.out BK184.out (by decide)) (fun _ hk => hk.2) (.slice Ao16 t192.length co16)) (fun _ hk => hk.2) (.slice Ao30 t210.length co30)) (fun _ hk => hk.2) (.int .i64 (wrap64 (t198)))) (fun _ hk => hk.2) (.int .i64 (wrap64 (t201)))) (fun _ hk => hk.2) (.int .i64 (wrap64 (t204)))) (fun _ hk => hk.2) (.int .i64 (wrap64 (t207)))) (fun _ hk => hk.1), by repeat (first | (with_reducible first | exact HB.out | apply Ext.ba | apply Ext.bn | apply Ext.bd | refine Ext.bs ?_ GE184.out | refine Ext.bs ?_ GE197.out) | exact HB.out | exact .refl _ _)⟩
    ·
     replace c41 := Bool.eq_false_iff.mpr c41
     subst c41
     have H1 : (some (([] : List Int), ([] : List Int), 0, 0, 0, 0, false, 4)) = some (r1, r2, r3, r4, r5, r6, r7, r8) := by rw [if_neg (show ¬ (false = true) by decide)] at H; exact H
     clear H
     have H := H1
     clear H1
     simp only [Option.some.injEq, Prod.mk.injEq] at H
     obtain ⟨rfl, rfl, rfl, rfl, rfl, rfl, rfl, rfl⟩ := H
     have hnb45 := NB184_197.out
     have hnc45 := NB197_184.out
     have hcz46_0 : wc.cell? ⟨gb184, 0, none⟩ = some (.slice none 0 0) := (blk_cell BK184.out 0).trans rfl
     have hcz46_1 : wc.cell? ⟨gb184, 1, none⟩ = some (.slice none 0 0) := (blk_cell BK184.out 1).trans rfl
     have hcz46_2 : wc.cell? ⟨gb184, 2, none⟩ = some (.int .i64 0) := (blk_cell BK184.out 2).trans rfl
     have hcz46_3 : wc.cell? ⟨gb184, 3, none⟩ = some (.int .i64 0) := (blk_cell BK184.out 3).trans rfl
     have hcz46_4 : wc.cell? ⟨gb184, 4, none⟩ = some (.int .i64 0) := (blk_cell BK184.out 4).trans rfl
     have hcz46_5 : wc.cell? ⟨gb184, 5, none⟩ = some (.int .i64 0) := (blk_cell BK184.out 5).trans rfl
     have hfz46_0 := blk_frozen BK184.out 0
     have hfz46_1 := blk_frozen BK184.out 1
     have hfz46_2 := blk_frozen BK184.out 2
     have hfz46_3 := blk_frozen BK184.out 3
     have hfz46_4 := blk_frozen BK184.out 4
     have hfz46_5 := blk_frozen BK184.out 5
     go_wp2
     refine bodyPost_ret (results_ctt rfl _ _ gb184 24 #[.slice none 0 0, .slice none 0 0, .int .i64 0, .int .i64 0, .int .i64 0, .int .i64 0] (0, 0) _ rfl (by refine blk_put (cs := #[.slice none 0 0, .slice none 0 0, .int .i64 0, .int .i64 0, .int .i64 0, .int .i64 0]) ?_ 5 _ rfl; refine blk_put (cs := #[.slice none 0 0, .slice none 0 0, .int .i64 0, .int .i64 0, .int .i64 0, .int .i64 0]) ?_ 4 _ rfl; refine blk_put (cs := #[.slice none 0 0, .slice none 0 0, .int .i64 0, .int .i64 0, .int .i64 0, .int .i64 0]) ?_ 3 _ rfl; refine blk_put (cs := #[.slice none 0 0, .slice none 0 0, .int .i64 0, .int .i64 0, .int .i64 0, .int .i64 0]) ?_ 2 _ rfl; refine blk_put (cs := #[.slice none 0 0, .slice none 0 0, .int .i64 0, .int .i64 0, .int .i64 0, .int .i64 0]) ?_ 1 _ rfl; refine blk_put (cs := #[.slice none 0 0, .slice none 0 0, .int .i64 0, .int .i64 0, .int .i64 0, .int .i64 0]) ?_ 0 _ rfl; exact BK184.out) Try.underlying24 rfl (by kernel_rfl)) rfl ?_
     (try have GE184 := Ext.a (Nat.le_trans HWN.out.size GE184.out))
     (try have GE197 := Ext.a (Nat.le_trans HWN.out.size GE197.out))
     (try have HB := Ext.a (below_step HWN.out HB.out))
     refine ⟨_, HW0.out, ?_⟩
     exact ⟨_, _, by first | rfl | (simp [errW_none, errW_some] <;> rfl) | (simp [*, errW_none, errW_some] <;> rfl), by first | exact Kd.R_nil _ _ _ _ _ | exact Kd.N_nil _ _ _ _ _ | exact Kd.V_nil _ _ _ _ _ | exact Kd.Q_nil _ _ _ _ _ | exact Kd.S_nil _ _ _ _ _, by first | exact Kd.R_nil _ _ _ _ _ | exact Kd.N_nil _ _ _ _ _ | exact Kd.V_nil _ _ _ _ _ | exact Kd.Q_nil _ _ _ _ _ | exact Kd.S_nil _ _ _ _ _, by repeat (first | (with_reducible first | exact HB.out | apply Ext.ba | apply Ext.bn | apply Ext.bd | refine Ext.bs ?_ GE184.out | refine Ext.bs ?_ GE197.out) | exact HB.out | exact .refl _ _)⟩
 ·
  rw [if_neg c5] at H
  have c5b0 : (t189 == 1) = false := beq_eq_false_iff_ne.mpr c5
  have c5b1 : (t189 != 1) = true := bne_iff_ne.mpr c5
  by_cases c47 : t189 = 2
  ·
   rw [if_pos c47] at H
   have c47b0 : (t189 == 2) = true := beq_iff_eq.mpr c47
   have c47b1 : (t189 != 2) = false := bne_eq_false_iff_eq.mpr c47
   clear c47
   have HC48 := Aside0.mk H
   clear H
   go_enter Try.func21, Try.ntmps21
   go_upto_region 14 with (first | ((with_reducible refine gate_dst (N := 2) rfl ?_); refine box_event ?hg (N := 2) ?hd (cs := #[.slice none 0 0, .slice none 0 0, .int .i64 0, .int .i64 0, .int .i64 0, .int .i64 0]) (t := 24) ?hr ?_; (case hd => rfl); (case hg => rfl); (case hr => first | (go_simp; done) | (go_simp; rfl)); intro gb184 hg w49 hbox hb; have n0_ := Ext.a (below_step (Ext.nB HB.out) hb); have n1_ := Ext.a (hbox); have n2_ := Ext.a ((by rw [hg]; exact (below_size (Ext.nB HB.out)) : w.heap.size ≤ gb184)); have n3_ := Ext.a ((by rw [hg]; exact (below_size (Ext.nB HB.out)) : w.heap.size ≤ gb184)); clear HB; have HB := n0_; have BK184 := n1_; have GW184 := n2_; have GE184 := n3_; clear n0_ n1_ n2_ n3_; clear hb hbox hg) | ((with_reducible refine gate_callee (f := 30) rfl ?_); refine goesL_ (some 9) rfl rfl Try.func30 (by kernel_rfl) rfl #[.slice A0 l0.length c0] rfl (by (try simp only [List.map_toArray, List.map_cons, List.map_nil]); first | done | rfl | (simp only [List.length_drop, List.length_take]; rfl)) ?_; (with_reducible refine (octets_NewReader.calls _ _ l0 t185 t186 t187 w _ ?side1 ?side2 ?side3 A2.out).mono ?_); (case side1 => repeat (first | (with_reducible first | exact HB.out | apply Ext.ba | apply Ext.bn | apply Ext.bd | refine Ext.bs ?_ GE184.out) | exact HB.out | exact .refl _ _)); (case side2 => repeat (first | exact (Kd.C_below HR0.out HB.out) | exact HR0.out | (with_reducible refine Kd.C_alloc ?_ _) | (with_reducible refine Kd.C_drewN ?_ _) | (with_reducible refine Kd.C_drew ?_))); (case side3 => exact HC0.out); obtain ⟨wX, rfl⟩ : ∃ y_ : World, y_ = w := ⟨_, rfl⟩; rintro e w50 ⟨w, g188, rfl, hb1, hi, hb⟩; refine ⟨_, rfl, ?_⟩; have HWP := Ext.a (below_step (by repeat (first | (with_reducible first | exact HB.out | apply Ext.ba | apply Ext.bn | apply Ext.bd | refine Ext.bs ?_ GE184.out) | exact HB.out | exact .refl _ _)) hb1); (first | (have HWQ := Ext.a (below_step HWN.out HWP.out)) | (have HWQ := HWP)); (try clear HWN); have HWN := HWQ; clear HWQ; have n0_ := Ext.a (Kd.C_below HR0.out HWP.out); have n1_ := Ext.a (blk_below BK184.out (below_step hb1 hb)); have n2_ := Ext.a (hb); have n3_ := Ext.a (hi); have n4_ := Ext.a (IsS56.ne_blk hi (blk_below BK184.out (below_step hb1 hb)) (by decide)); have n5_ := Ext.a (Ne.symm (IsS56.ne_blk hi (blk_below BK184.out (below_step hb1 hb)) (by decide))); clear HR0 BK184 HB; have HR0 := n0_; have BK184 := n1_; have HB := n2_; have HI188 := n3_; have NB188_184 := n4_; have NB184_188 := n5_; clear n0_ n1_ n2_ n3_ n4_ n5_; (try clear hb); (try clear hb2); (try clear hk); (try clear hi)) | ((with_reducible refine gate_callee (f := 31) rfl ?_); refine goesL_ (some 11) rfl rfl Try.func31 (by kernel_rfl) rfl #[.pointer (some ⟨g188, 0, none⟩), .int .i64 1] rfl (by (try simp only [List.map_toArray, List.map_cons, List.map_nil]); first | done | rfl | (simp only [List.length_drop, List.length_take]; rfl)) ?_; (with_reducible refine (octets_Reader_Num.calls k g188 t185 t186 t187 1 t189 t190 t191 w _ ?side1 ?side2 A3.out).mono ?_); (case side1 => repeat (first | (with_reducible first | exact HI188.out | apply IsS56.alloc | apply IsS56.drewN | apply IsS56.drew | apply IsS56.set_1 | apply IsS56.set_2 | refine IsS56.far ?_ NB188_184.out _) | exact HI188.out)); (case side2 => repeat (first | (with_reducible first | exact HB.out | apply below_alloc | apply pw_below_drewN | apply below_drew1 | refine below_set ?_ GE184.out | refine below_set ?_ (IsS56.ge HI188.out)) | exact HB.out | exact Below.refl _ _)); rintro e w51 ⟨rfl, hi, hb, hk⟩; refine ⟨_, rfl, ?_⟩; have n0_ := Ext.a (KeepBut.blk hk BK184.out NB184_188.out (by simp)); have n1_ := Ext.a (hb); have n2_ := Ext.a (hi); clear BK184 HB HI188; have BK184 := n0_; have HB := n1_; have HI188 := n2_; clear n0_ n1_ n2_; (try clear hb); (try clear hb2); (try clear hk); (try clear hi)) | ((with_reducible refine gate_callee (f := 32) rfl ?_); refine goesL_ (some 13) rfl rfl Try.func32 (by kernel_rfl) rfl #[.pointer (some ⟨g188, 0, none⟩), .int .i64 64] rfl (by (try simp only [List.map_toArray, List.map_cons, List.map_nil]); first | done | rfl | (simp only [List.length_drop, List.length_take]; rfl)) ?_; (with_reducible refine (octets_Reader_Text.calls k g188 t185 t190 t191 64 t192 t195 t196 w _ ?side1 ?side2 A4.out).mono ?_); (case side1 => repeat (first | (with_reducible first | exact HI188.out | apply IsS56.alloc | apply IsS56.drewN | apply IsS56.drew | apply IsS56.set_1 | apply IsS56.set_2 | refine IsS56.far ?_ NB188_184.out _) | exact HI188.out)); (case side2 => repeat (first | (with_reducible first | exact HB.out | apply below_alloc | apply pw_below_drewN | apply below_drew1 | refine below_set ?_ GE184.out | refine below_set ?_ (IsS56.ge HI188.out)) | exact HB.out | exact Below.refl _ _)); rintro e w52 ⟨v193, rfl, ho0, hi, hb, hk⟩; refine ⟨_, rfl, ?_⟩; have n0_ := Ext.a (KeepBut.blk hk BK184.out NB184_188.out (by simp)); have n1_ := Ext.a (Kd.R_lower ho0 (below_size (by repeat (first | (with_reducible first | exact HB.out | apply below_alloc | apply pw_below_drewN | apply below_drew1 | refine below_set ?_ GE184.out | refine below_set ?_ (IsS56.ge HI188.out)) | exact HB.out | exact Below.refl _ _)))); have n2_ := Ext.a (hb); have n3_ := Ext.a (hi); clear BK184 HB HI188; have BK184 := n0_; have HO194 := n1_; have HB := n2_; have HI188 := n3_; clear n0_ n1_ n2_ n3_; (try clear hb); (try clear hb2); (try clear hk); (try clear hi); (try clear ho0); obtain ⟨Ao53, co53, eo53⟩ := Kd.R_slice HO194.out; subst eo53) | ((with_reducible refine gate_dst (N := 7) rfl ?_); refine box_event ?hg (N := 7) ?hd (cs := #[.slice none 0 0, .slice none 0 0, .int .i64 0, .int .i64 0, .int .i64 0, .int .i64 0]) (t := 24) ?hr ?_; (case hd => rfl); (case hg => rfl); (case hr => first | (go_simp; done) | (go_simp; rfl)); intro gb197 hg w54 hbox hb; have n0_ := Ext.a (Kd.R_below (Ext.nR HO194.out) hb); have n1_ := Ext.a (blk_below BK184.out hb); have n2_ := Ext.a (IsS56.below (by repeat (first | (with_reducible first | exact HI188.out | apply IsS56.alloc | apply IsS56.drewN | apply IsS56.drew | apply IsS56.set_1 | apply IsS56.set_2 | refine IsS56.far ?_ NB188_184.out _) | exact HI188.out)) hb); have n3_ := Ext.a (below_step (by repeat (first | (with_reducible first | exact HB.out | apply below_alloc | apply pw_below_drewN | apply below_drew1 | refine below_set ?_ GE184.out | refine below_set ?_ (IsS56.ge HI188.out)) | exact HB.out | exact Below.refl _ _)) hb); have n4_ := Ext.a (hbox); have n5_ := Ext.a ((by rw [hg]; exact (below_size (by repeat (first | (with_reducible first | exact HB.out | apply below_alloc | apply pw_below_drewN | apply below_drew1 | refine below_set ?_ GE184.out | refine below_set ?_ (IsS56.ge HI188.out)) | exact HB.out | exact Below.refl _ _))) : w.heap.size ≤ gb197)); have n6_ := Ext.a ((by rw [hg]; exact (below_size (by repeat (first | (with_reducible first | exact HB.out | apply below_alloc | apply pw_below_drewN | apply below_drew1 | refine below_set ?_ GE184.out | refine below_set ?_ (IsS56.ge HI188.out)) | exact HB.out | exact Below.refl _ _))) : w.heap.size ≤ gb197)); have n7_ := Ext.a ((by rw [hg]; exact Nat.ne_of_lt (blk_lt BK184.out) : gb184 ≠ gb197)); have n8_ := Ext.a ((by rw [hg]; exact Nat.ne_of_gt (blk_lt BK184.out) : gb197 ≠ gb184)); have n9_ := Ext.a ((by rw [hg]; exact Nat.ne_of_lt (IsS56.lt (show IsS56 w _ g188 t185 t195 t196 from by repeat (first | (with_reducible first | exact HI188.out | apply IsS56.alloc | apply IsS56.drewN | apply IsS56.drew | apply IsS56.set_1 | apply IsS56.set_2 | refine IsS56.far ?_ NB188_184.out _) | exact HI188.out))) : g188 ≠ gb197)); have n10_ := Ext.a ((by rw [hg]; exact Nat.ne_of_gt (IsS56.lt (show IsS56 w _ g188 t185 t195 t196 from by repeat (first | (with_reducible first | exact HI188.out | apply IsS56.alloc | apply IsS56.drewN | apply IsS56.drew | apply IsS56.set_1 | apply IsS56.set_2 | refine IsS56.far ?_ NB188_184.out _) | exact HI188.out))) : gb197 ≠ g188)); clear HO194 BK184 HI188 HB; have HO194 := n0_; have BK184 := n1_; have HI188 := n2_; have HB := n3_; have BK197 := n4_; have GW197 := n5_; have GE197 := n6_; have NB184_197 := n7_; have NB197_184 := n8_; have NB188_197 := n9_; have NB197_188 := n10_; clear n0_ n1_ n2_ n3_ n4_ n5_ n6_ n7_ n8_ n9_ n10_; clear hb hbox hg; have hnb55 := NB197_184.out; have hnc55 := NB184_197.out; have hnb56 := NB197_188.out; have hnc56 := NB188_197.out; have hcz57_0 : w54.cell? ⟨gb197, 0, none⟩ = some (.slice none 0 0) := (blk_cell BK197.out 0).trans rfl; have hcz57_1 : w54.cell? ⟨gb197, 1, none⟩ = some (.slice none 0 0) := (blk_cell BK197.out 1).trans rfl; have hcz57_2 : w54.cell? ⟨gb197, 2, none⟩ = some (.int .i64 0) := (blk_cell BK197.out 2).trans rfl; have hcz57_3 : w54.cell? ⟨gb197, 3, none⟩ = some (.int .i64 0) := (blk_cell BK197.out 3).trans rfl; have hcz57_4 : w54.cell? ⟨gb197, 4, none⟩ = some (.int .i64 0) := (blk_cell BK197.out 4).trans rfl; have hcz57_5 : w54.cell? ⟨gb197, 5, none⟩ = some (.int .i64 0) := (blk_cell BK197.out 5).trans rfl; have hfz57_0 := blk_frozen BK197.out 0; have hfz57_1 := blk_frozen BK197.out 1; have hfz57_2 := blk_frozen BK197.out 2; have hfz57_3 := blk_frozen BK197.out 3; have hfz57_4 := blk_frozen BK197.out 4; have hfz57_5 := blk_frozen BK197.out 5))
   (try simp only [Act.put, Ext.sb, Ext.sz, Ext.ss])
   go_cut [54] (fun v54 wc => ∃ (kq : Nat) (x54_47 : Bool), v54 = .bool x54_47 ∧ Aside0 (record_Decode.j1 kq x54_47 t192 0 0 0 0 = some (r1, r2, r3, r4, r5, r6, r7, r8)) ∧ Aside0 (kq ≤ k) ∧ Aside0 (Kd.R (Kd.int .u8) 5 wc w.heap.size (fun _ => True) (.slice Ao53 t192.length co53) t192) ∧ Aside0 (wc.heap[gb184]? = some (.cells #[(.slice none 0 0), (.slice none 0 0), .int .i64 0, .int .i64 0, .int .i64 0, .int .i64 0] 24 (0, 0))) ∧ Aside0 (wc.heap[gb197]? = some (.cells #[(.slice Ao53 t192.length co53), (.slice none 0 0), .int .i64 0, .int .i64 0, .int .i64 0, .int .i64 0] 24 (0, 0))) ∧ Aside0 (Below w.heap.size w wc))
   case first =>
    have H := HC48.out
    clear HC48
    replace H := Option.bind_eq_some_iff.mp H
    obtain ⟨⟨t219, t220, t221⟩, A580, H⟩ := H
    replace H : (if t219 = 0 then ((record_key.f t192).bind fun t222 => (record_Decode.j1 k t222 t192 0 0 0 0)) else (record_Decode.j1 k false t192 0 0 0 0)) = some (r1, r2, r3, r4, r5, r6, r7, r8) := H
    have A58 := Aside0.mk A580
    clear A580
    by_cases c59 : t219 = 0
    ·
     rw [if_pos c59] at H
     have c59b0 : (t219 == 0) = true := beq_iff_eq.mpr c59
     have c59b1 : (t219 != 0) = false := bne_eq_false_iff_eq.mpr c59
     clear c59
     (first | rw [c59b0] | (simp only [i64_w, i32_w]; rw [c59b0]) | skip)
     replace H := Option.bind_eq_some_iff.mp H
     obtain ⟨t222, A600, H⟩ := H
     replace H : (record_Decode.j1 k t222 t192 0 0 0 0) = some (r1, r2, r3, r4, r5, r6, r7, r8) := H
     have A60 := Aside0.mk A600
     clear A600
     have H' := Aside0.mk H
     clear H
     go_wp2_with (first | ((with_reducible refine gate_callee (f := 33) rfl ?_); refine goesL_ (some 48) rfl rfl Try.func33 (by kernel_rfl) rfl #[.pointer (some ⟨g188, 0, none⟩)] rfl (by (try simp only [List.map_toArray, List.map_cons, List.map_nil]); first | done | rfl | (simp only [List.length_drop, List.length_take]; rfl)) ?_; (with_reducible refine (octets_Reader_End.calls g188 t185 t195 t196 t219 t220 t221 w _ ?side1 ?side2 A58.out).mono ?_); (case side1 => repeat (first | (with_reducible first | exact HI188.out | apply IsS56.alloc | apply IsS56.drewN | apply IsS56.drew | apply IsS56.set_1 | apply IsS56.set_2 | refine IsS56.far ?_ NB188_184.out _ | refine IsS56.far ?_ NB188_197.out _) | exact HI188.out)); (case side2 => repeat (first | (with_reducible first | exact HB.out | apply below_alloc | apply pw_below_drewN | apply below_drew1 | refine below_set ?_ GE184.out | refine below_set ?_ GE197.out | refine below_set ?_ (IsS56.ge HI188.out)) | exact HB.out | exact Below.refl _ _)); rintro e w61 ⟨rfl, hi, hb, hk⟩; refine ⟨_, rfl, ?_⟩; have n0_ := Ext.a (KeepBut.blk hk (g' := gb184) (o := .cells #[.slice none 0 0, .slice none 0 0, .int .i64 0, .int .i64 0, .int .i64 0, .int .i64 0] 24 (0, 0)) (by refine blk_far ?_ NB184_197.out _; refine blk_far ?_ NB184_197.out _; refine blk_far ?_ NB184_197.out _; refine blk_far ?_ NB184_197.out _; refine blk_far ?_ NB184_197.out _; refine blk_far ?_ NB184_197.out _; exact BK184.out) NB184_188.out (by simp)); have n1_ := Ext.a (Kd.R_mono (Kd.R_keep (IsS56.apart (show IsS56 w _ g188 t185 t195 t196 from by repeat (first | (with_reducible first | exact HI188.out | apply IsS56.alloc | apply IsS56.drewN | apply IsS56.drew | apply IsS56.set_1 | apply IsS56.set_2 | refine IsS56.far ?_ NB188_184.out _ | refine IsS56.far ?_ NB188_197.out _) | exact HI188.out)) (Ext.nR ((Ext.far6 HO194.out BK197.out (by decide) (.slice Ao53 t192.length co53) (.slice none 0 0) (.int .i64 0) (.int .i64 0) (.int .i64 0) (.int .i64 0)))) (by decide)) hk (fun _ h => h.2)) (fun _ h => h.1)); have n2_ := Ext.a (KeepBut.blk hk (g' := gb197) (o := .cells #[.slice Ao53 t192.length co53, .slice none 0 0, .int .i64 0, .int .i64 0, .int .i64 0, .int .i64 0] 24 (0, 0)) (by refine blk_put (cs := #[.slice Ao53 t192.length co53, .slice none 0 0, .int .i64 0, .int .i64 0, .int .i64 0, .int .i64 0]) ?_ 5 _ rfl; refine blk_put (cs := #[.slice Ao53 t192.length co53, .slice none 0 0, .int .i64 0, .int .i64 0, .int .i64 0, .int .i64 0]) ?_ 4 _ rfl; refine blk_put (cs := #[.slice Ao53 t192.length co53, .slice none 0 0, .int .i64 0, .int .i64 0, .int .i64 0, .int .i64 0]) ?_ 3 _ rfl; refine blk_put (cs := #[.slice Ao53 t192.length co53, .slice none 0 0, .int .i64 0, .int .i64 0, .int .i64 0, .int .i64 0]) ?_ 2 _ rfl; refine blk_put (cs := #[.slice Ao53 t192.length co53, .slice none 0 0, .int .i64 0, .int .i64 0, .int .i64 0, .int .i64 0]) ?_ 1 _ rfl; refine blk_put (cs := #[.slice none 0 0, .slice none 0 0, .int .i64 0, .int .i64 0, .int .i64 0, .int .i64 0]) ?_ 0 _ rfl; exact BK197.out) NB197_188.out (by simp)); have n3_ := Ext.a (hb); have n4_ := Ext.a (hi); clear BK184 HO194 BK197 HB HI188; have BK184 := n0_; have HO194 := n1_; have BK197 := n2_; have HB := n3_; have HI188 := n4_; clear n0_ n1_ n2_ n3_ n4_; (try clear hb); (try clear hb2); (try clear hk); (try clear hi); have hnb62 := NB197_184.out; have hnc62 := NB184_197.out; have hnb63 := NB197_188.out; have hnc63 := NB188_197.out; have hcz64_0 : w61.cell? ⟨gb197, 0, none⟩ = some (.slice Ao53 t192.length co53) := (blk_cell BK197.out 0).trans rfl; have hcz64_1 : w61.cell? ⟨gb197, 1, none⟩ = some (.slice none 0 0) := (blk_cell BK197.out 1).trans rfl; have hcz64_2 : w61.cell? ⟨gb197, 2, none⟩ = some (.int .i64 0) := (blk_cell BK197.out 2).trans rfl; have hcz64_3 : w61.cell? ⟨gb197, 3, none⟩ = some (.int .i64 0) := (blk_cell BK197.out 3).trans rfl; have hcz64_4 : w61.cell? ⟨gb197, 4, none⟩ = some (.int .i64 0) := (blk_cell BK197.out 4).trans rfl; have hcz64_5 : w61.cell? ⟨gb197, 5, none⟩ = some (.int .i64 0) := (blk_cell BK197.out 5).trans rfl; have hfz64_0 := blk_frozen BK197.out 0; have hfz64_1 := blk_frozen BK197.out 1; have hfz64_2 := blk_frozen BK197.out 2; have hfz64_3 := blk_frozen BK197.out 3; have hfz64_4 := blk_frozen BK197.out 4; have hfz64_5 := blk_frozen BK197.out 5) | (go_at_call 24; (with_reducible refine (record_key.calls _ _ t192 t222 _ ?side1 ?side2 A60.out).mono ?_); (case side1 => exact Ext.nC (Kd.R_reads' HO194.out).2.2); (case side2 => exact (Kd.R_reads' HO194.out).2.1); rintro e w65 ⟨rfl, hb⟩; (try replace hb := hb.below); have n0_ := Ext.a (Kd.R_below (Ext.nR HO194.out) hb); have n1_ := Ext.a (blk_below BK184.out hb); have n2_ := Ext.a (IsS56.below (by repeat (first | (with_reducible first | exact HI188.out | apply IsS56.alloc | apply IsS56.drewN | apply IsS56.drew | apply IsS56.set_1 | apply IsS56.set_2 | refine IsS56.far ?_ NB188_184.out _ | refine IsS56.far ?_ NB188_197.out _) | exact HI188.out)) hb); have n3_ := Ext.a (blk_below BK197.out hb); have n4_ := Ext.a (below_step (by repeat (first | (with_reducible first | exact HB.out | apply below_alloc | apply pw_below_drewN | apply below_drew1 | refine below_set ?_ GE184.out | refine below_set ?_ GE197.out | refine below_set ?_ (IsS56.ge HI188.out)) | exact HB.out | exact Below.refl _ _)) hb); clear HO194 BK184 HI188 BK197 HB; have HO194 := n0_; have BK184 := n1_; have HI188 := n2_; have BK197 := n3_; have HB := n4_; clear n0_ n1_ n2_ n3_ n4_; (try clear hb); (try clear hb2); (try clear hk); (try clear hi)))
     go_meet
     case rel => exact ⟨_, (t222), (by first | rfl | (simp; done) | (simp [*]; done)), H', ⟨by first | omega | exact Nat.le_refl _⟩, ⟨by (with_reducible repeat (first | apply Kd.R_alloc | apply Kd.R_drewN | apply Kd.R_drew)); exact HO194.out⟩, ⟨by exact BK184.out⟩, ⟨by exact BK197.out⟩, ⟨by repeat (first | (with_reducible first | exact HB.out | apply below_alloc | apply pw_below_drewN | apply below_drew1 | refine below_set ?_ GE184.out | refine below_set ?_ GE197.out | refine below_set ?_ (IsS56.ge HI188.out)) | exact HB.out | exact Below.refl _ _)⟩⟩
    ·
     rw [if_neg c59] at H
     have c59b0 : (t219 == 0) = false := beq_eq_false_iff_ne.mpr c59
     have c59b1 : (t219 != 0) = true := bne_iff_ne.mpr c59
     (first | rw [c59b0] | (simp only [i64_w, i32_w]; rw [c59b0]) | skip)
     have H' := Aside0.mk H
     clear H
     go_wp2_with (first | ((with_reducible refine gate_callee (f := 33) rfl ?_); refine goesL_ (some 48) rfl rfl Try.func33 (by kernel_rfl) rfl #[.pointer (some ⟨g188, 0, none⟩)] rfl (by (try simp only [List.map_toArray, List.map_cons, List.map_nil]); first | done | rfl | (simp only [List.length_drop, List.length_take]; rfl)) ?_; (with_reducible refine (octets_Reader_End.calls g188 t185 t195 t196 t219 t220 t221 w _ ?side1 ?side2 A58.out).mono ?_); (case side1 => repeat (first | (with_reducible first | exact HI188.out | apply IsS56.alloc | apply IsS56.drewN | apply IsS56.drew | apply IsS56.set_1 | apply IsS56.set_2 | refine IsS56.far ?_ NB188_184.out _ | refine IsS56.far ?_ NB188_197.out _) | exact HI188.out)); (case side2 => repeat (first | (with_reducible first | exact HB.out | apply below_alloc | apply pw_below_drewN | apply below_drew1 | refine below_set ?_ GE184.out | refine below_set ?_ GE197.out | refine below_set ?_ (IsS56.ge HI188.out)) | exact HB.out | exact Below.refl _ _)); rintro e w66 ⟨rfl, hi, hb, hk⟩; refine ⟨_, rfl, ?_⟩; have n0_ := Ext.a (KeepBut.blk hk (g' := gb184) (o := .cells #[.slice none 0 0, .slice none 0 0, .int .i64 0, .int .i64 0, .int .i64 0, .int .i64 0] 24 (0, 0)) (by refine blk_far ?_ NB184_197.out _; refine blk_far ?_ NB184_197.out _; refine blk_far ?_ NB184_197.out _; refine blk_far ?_ NB184_197.out _; refine blk_far ?_ NB184_197.out _; refine blk_far ?_ NB184_197.out _; exact BK184.out) NB184_188.out (by simp)); have n1_ := Ext.a (Kd.R_mono (Kd.R_keep (IsS56.apart (show IsS56 w _ g188 t185 t195 t196 from by repeat (first | (with_reducible first | exact HI188.out | apply IsS56.alloc | apply IsS56.drewN | apply IsS56.drew | apply IsS56.set_1 | apply IsS56.set_2 | refine IsS56.far ?_ NB188_184.out _ | refine IsS56.far ?_ NB188_197.out _) | exact HI188.out)) (Ext.nR ((Ext.far6 HO194.out BK197.out (by decide) (.slice Ao53 t192.length co53) (.slice none 0 0) (.int .i64 0) (.int .i64 0) (.int .i64 0) (.int .i64 0)))) (by decide)) hk (fun _ h => h.2)) (fun _ h => h.1)); have n2_ := Ext.a (KeepBut.blk hk (g' := gb197) (o := .cells #[.slice Ao53 t192.length co53, .slice none 0 0, .int .i64 0, .int .i64 0, .int .i64 0, .int .i64 0] 24 (0, 0)) (by refine blk_put (cs := #[.slice Ao53 t192.length co53, .slice none 0 0, .int .i64 0, .int .i64 0, .int .i64 0, .int .i64 0]) ?_ 5 _ rfl; refine blk_put (cs := #[.slice Ao53 t192.length co53, .slice none 0 0, .int .i64 0, .int .i64 0, .int .i64 0, .int .i64 0]) ?_ 4 _ rfl; refine blk_put (cs := #[.slice Ao53 t192.length co53, .slice none 0 0, .int .i64 0, .int .i64 0, .int .i64 0, .int .i64 0]) ?_ 3 _ rfl; refine blk_put (cs := #[.slice Ao53 t192.length co53, .slice none 0 0, .int .i64 0, .int .i64 0, .int .i64 0, .int .i64 0]) ?_ 2 _ rfl; refine blk_put (cs := #[.slice Ao53 t192.length co53, .slice none 0 0, .int .i64 0, .int .i64 0, .int .i64 0, .int .i64 0]) ?_ 1 _ rfl; refine blk_put (cs := #[.slice none 0 0, .slice none 0 0, .int .i64 0, .int .i64 0, .int .i64 0, .int .i64 0]) ?_ 0 _ rfl; exact BK197.out) NB197_188.out (by simp)); have n3_ := Ext.a (hb); have n4_ := Ext.a (hi); clear BK184 HO194 BK197 HB HI188; have BK184 := n0_; have HO194 := n1_; have BK197 := n2_; have HB := n3_; have HI188 := n4_; clear n0_ n1_ n2_ n3_ n4_; (try clear hb); (try clear hb2); (try clear hk); (try clear hi)))
     go_meet
     case rel => exact ⟨_, (false), (by first | rfl | (simp; done) | (simp [*]; done)), H', ⟨by first | omega | exact Nat.le_refl _⟩, ⟨by (with_reducible repeat (first | apply Kd.R_alloc | apply Kd.R_drewN | apply Kd.R_drew)); exact HO194.out⟩, ⟨by exact BK184.out⟩, ⟨by exact BK197.out⟩, ⟨by repeat (first | (with_reducible first | exact HB.out | apply below_alloc | apply pw_below_drewN | apply below_drew1 | refine below_set ?_ GE184.out | refine below_set ?_ GE197.out | refine below_set ?_ (IsS56.ge HI188.out)) | exact HB.out | exact Below.refl _ _)⟩⟩
   case rest =>
    clear HC48
    try clear c1
    try clear c2
    try clear p2
    try clear c3
    try clear c4
    try clear c5
    try clear c5b0
    try clear c5b1
    try clear c6
    try clear p6
    try clear c18
    try clear c19
    try clear c21
    try clear c30
    try clear c31
    try clear c32
    try clear c33
    try clear c33b0
    try clear c33b1
    try clear c36
    try clear c37
    try clear c41
    try clear c42
    try clear c45
    try clear c47
    try clear c47b0
    try clear c47b1
    try clear c55
    try clear c56
    try clear c59
    try clear c59b0
    try clear c59b1
    try clear c62
    try clear c63
    try clear p64
    try clear hcz20_0
    try clear hcz20_1
    try clear hcz20_2
    try clear hcz20_3
    try clear hcz20_4
    try clear hcz20_5
    try clear hcz22_0
    try clear hcz22_1
    try clear hcz22_2
    try clear hcz22_3
    try clear hcz22_4
    try clear hcz22_5
    try clear hcz24_0
    try clear hcz24_1
    try clear hcz24_2
    try clear hcz24_3
    try clear hcz24_4
    try clear hcz24_5
    try clear hcz26_0
    try clear hcz26_1
    try clear hcz26_2
    try clear hcz26_3
    try clear hcz26_4
    try clear hcz26_5
    try clear hcz28_0
    try clear hcz28_1
    try clear hcz28_2
    try clear hcz28_3
    try clear hcz28_4
    try clear hcz28_5
    try clear hcz31_0
    try clear hcz31_1
    try clear hcz31_2
    try clear hcz31_3
    try clear hcz31_4
    try clear hcz31_5
    try clear hcz38_0
    try clear hcz38_1
    try clear hcz38_2
    try clear hcz38_3
    try clear hcz38_4
    try clear hcz38_5
    try clear hcz43_0
    try clear hcz43_1
    try clear hcz43_2
    try clear hcz43_3
    try clear hcz43_4
    try clear hcz43_5
    try clear hcz44_0
    try clear hcz44_1
    try clear hcz44_2
    try clear hcz44_3
    try clear hcz44_4
    try clear hcz44_5
    try clear hcz46_0
    try clear hcz46_1
    try clear hcz46_2
    try clear hcz46_3
    try clear hcz46_4
    try clear hcz46_5
    try clear hcz57_0
    try clear hcz57_1
    try clear hcz57_2
    try clear hcz57_3
    try clear hcz57_4
    try clear hcz57_5
    try clear hcz64_0
    try clear hcz64_1
    try clear hcz64_2
    try clear hcz64_3
    try clear hcz64_4
    try clear hcz64_5
    try clear hfz20_0
    try clear hfz20_1
    try clear hfz20_2
    try clear hfz20_3
    try clear hfz20_4
    try clear hfz20_5
    try clear hfz22_0
    try clear hfz22_1
    try clear hfz22_2
    try clear hfz22_3
    try clear hfz22_4
    try clear hfz22_5
    try clear hfz24_0
    try clear hfz24_1
    try clear hfz24_2
    try clear hfz24_3
    try clear hfz24_4
    try clear hfz24_5
    try clear hfz26_0
    try clear hfz26_1
    try clear hfz26_2
    try clear hfz26_3
    try clear hfz26_4
    try clear hfz26_5
    try clear hfz28_0
    try clear hfz28_1
    try clear hfz28_2
    try clear hfz28_3
    try clear hfz28_4
    try clear hfz28_5
    try clear hfz31_0
    try clear hfz31_1
    try clear hfz31_2
    try clear hfz31_3
    try clear hfz31_4
    try clear hfz31_5
    try clear hfz38_0
    try clear hfz38_1
    try clear hfz38_2
    try clear hfz38_3
    try clear hfz38_4
    try clear hfz38_5
    try clear hfz43_0
    try clear hfz43_1
    try clear hfz43_2
    try clear hfz43_3
    try clear hfz43_4
    try clear hfz43_5
    try clear hfz44_0
    try clear hfz44_1
    try clear hfz44_2
    try clear hfz44_3
    try clear hfz44_4
    try clear hfz44_5
    try clear hfz46_0
    try clear hfz46_1
    try clear hfz46_2
    try clear hfz46_3
    try clear hfz46_4
    try clear hfz46_5
    try clear hfz57_0
    try clear hfz57_1
    try clear hfz57_2
    try clear hfz57_3
    try clear hfz57_4
    try clear hfz57_5
    try clear hfz64_0
    try clear hfz64_1
    try clear hfz64_2
    try clear hfz64_3
    try clear hfz64_4
    try clear hfz64_5
    try clear p2
    try clear p6
    obtain ⟨kq, x54_47, rfl, HA, HJ47, HO_198000, BK184, BK197, HB⟩ := hcut
    cases kq with
    | zero => exact absurd HA.out (by simp [record_Decode.j1])
    | succ kj47 =>
     have H := HA.out
     clear HA
     simp only [record_Decode.j1] at H
     by_cases c67 : x54_47 = true
     ·
      subst c67
      have H1 : (some (t192, ([] : List Int), 0, 0, 0, 0, true, 0)) = some (r1, r2, r3, r4, r5, r6, r7, r8) := by rw [if_pos rfl] at H; exact H
      clear H
      have H := H1
      clear H1
      simp only [Option.some.injEq, Prod.mk.injEq] at H
      obtain ⟨rfl, rfl, rfl, rfl, rfl, rfl, rfl, rfl⟩ := H
      have hnb68 := NB197_184.out
      have hnc68 := NB184_197.out
      have hcz69_0 : wc.cell? ⟨gb197, 0, none⟩ = some (.slice Ao53 t192.length co53) := (blk_cell BK197.out 0).trans rfl
      have hcz69_1 : wc.cell? ⟨gb197, 1, none⟩ = some (.slice none 0 0) := (blk_cell BK197.out 1).trans rfl
      have hcz69_2 : wc.cell? ⟨gb197, 2, none⟩ = some (.int .i64 0) := (blk_cell BK197.out 2).trans rfl
      have hcz69_3 : wc.cell? ⟨gb197, 3, none⟩ = some (.int .i64 0) := (blk_cell BK197.out 3).trans rfl
      have hcz69_4 : wc.cell? ⟨gb197, 4, none⟩ = some (.int .i64 0) := (blk_cell BK197.out 4).trans rfl
      have hcz69_5 : wc.cell? ⟨gb197, 5, none⟩ = some (.int .i64 0) := (blk_cell BK197.out 5).trans rfl
      have hfz69_0 := blk_frozen BK197.out 0
      have hfz69_1 := blk_frozen BK197.out 1
      have hfz69_2 := blk_frozen BK197.out 2
      have hfz69_3 := blk_frozen BK197.out 3
      have hfz69_4 := blk_frozen BK197.out 4
      have hfz69_5 := blk_frozen BK197.out 5
      have hcz70_0 : wc.cell? ⟨gb184, 0, none⟩ = some (.slice none 0 0) := (blk_cell BK184.out 0).trans rfl
      have hcz70_1 : wc.cell? ⟨gb184, 1, none⟩ = some (.slice none 0 0) := (blk_cell BK184.out 1).trans rfl
      have hcz70_2 : wc.cell? ⟨gb184, 2, none⟩ = some (.int .i64 0) := (blk_cell BK184.out 2).trans rfl
      have hcz70_3 : wc.cell? ⟨gb184, 3, none⟩ = some (.int .i64 0) := (blk_cell BK184.out 3).trans rfl
      have hcz70_4 : wc.cell? ⟨gb184, 4, none⟩ = some (.int .i64 0) := (blk_cell BK184.out 4).trans rfl
      have hcz70_5 : wc.cell? ⟨gb184, 5, none⟩ = some (.int .i64 0) := (blk_cell BK184.out 5).trans rfl
      have hfz70_0 := blk_frozen BK184.out 0
      have hfz70_1 := blk_frozen BK184.out 1
      have hfz70_2 := blk_frozen BK184.out 2
      have hfz70_3 := blk_frozen BK184.out 3
      have hfz70_4 := blk_frozen BK184.out 4
      have hfz70_5 := blk_frozen BK184.out 5
      go_wp2
      refine bodyPost_ret (results_ctt rfl _ _ gb184 24 #[.slice Ao53 t192.length co53, .slice none 0 0, .int .i64 0, .int .i64 0, .int .i64 0, .int .i64 0] (0, 0) _ rfl (by refine blk_put (cs := #[.slice Ao53 t192.length co53, .slice none 0 0, .int .i64 0, .int .i64 0, .int .i64 0, .int .i64 0]) ?_ 5 _ rfl; refine blk_put (cs := #[.slice Ao53 t192.length co53, .slice none 0 0, .int .i64 0, .int .i64 0, .int .i64 0, .int .i64 0]) ?_ 4 _ rfl; refine blk_put (cs := #[.slice Ao53 t192.length co53, .slice none 0 0, .int .i64 0, .int .i64 0, .int .i64 0, .int .i64 0]) ?_ 3 _ rfl; refine blk_put (cs := #[.slice Ao53 t192.length co53, .slice none 0 0, .int .i64 0, .int .i64 0, .int .i64 0, .int .i64 0]) ?_ 2 _ rfl; refine blk_put (cs := #[.slice Ao53 t192.length co53, .slice none 0 0, .int .i64 0, .int .i64 0, .int .i64 0, .int .i64 0]) ?_ 1 _ rfl; refine blk_put (cs := #[.slice none 0 0, .slice none 0 0, .int .i64 0, .int .i64 0, .int .i64 0, .int .i64 0]) ?_ 0 _ rfl; exact BK184.out) Try.underlying24 rfl (by kernel_rfl)) rfl ?_
      (try have HO_198000 := Ext.a (by first | exact Kd.R_lower HO_198000.out HWN.out.size | exact Kd.S_lower HO_198000.out HWN.out.size | exact Kd.N_lower HO_198000.out HWN.out.size))
      (try have GE184 := Ext.a (Nat.le_trans HWN.out.size GE184.out))
      (try have GE197 := Ext.a (Nat.le_trans HWN.out.size GE197.out))
      (try have HB := Ext.a (below_step HWN.out HB.out))
      refine ⟨_, HW0.out, ?_⟩
      exact ⟨_, _, by first | rfl | (simp [errW_none, errW_some] <;> rfl) | (simp [*, errW_none, errW_some] <;> rfl), by (with_reducible repeat (first | apply Kd.R_alloc | apply Kd.R_drewN | apply Kd.R_drew)); exact Kd.R_mono (Kd.R_far (p := ⟨gb184, 5, none⟩) (Kd.R_far (p := ⟨gb184, 4, none⟩) (Kd.R_far (p := ⟨gb184, 3, none⟩) (Kd.R_far (p := ⟨gb184, 2, none⟩) (Kd.R_far (p := ⟨gb184, 1, none⟩) (Kd.R_far (p := ⟨gb184, 0, none⟩) (Kd.R_types HO_198000.out BK184.out (by decide)) (fun _ hk => hk.2) (.slice Ao53 t192.length co53)) (fun _ hk => hk.2) (.slice none 0 0)) (fun _ hk => hk.2) (.int .i64 0)) (fun _ hk => hk.2) (.int .i64 0)) (fun _ hk => hk.2) (.int .i64 0)) (fun _ hk => hk.2) (.int .i64 0)) (fun _ hk => (by simp [Value.ownBlock])), by first | exact Kd.R_nil _ _ _ _ _ | exact Kd.N_nil _ _ _ _ _ | exact Kd.V_nil _ _ _ _ _ | exact Kd.Q_nil _ _ _ _ _ | exact Kd.S_nil _ _ _ _ _, by repeat (first | (with_reducible first | exact HB.out | apply Ext.ba | apply Ext.bn | apply Ext.bd | refine Ext.bs ?_ GE184.out | refine Ext.bs ?_ GE197.out) | exact HB.out | exact .refl _ _)⟩
     ·
      replace c67 := Bool.eq_false_iff.mpr c67
      subst c67
      have H1 : (some (([] : List Int), ([] : List Int), 0, 0, 0, 0, false, 4)) = some (r1, r2, r3, r4, r5, r6, r7, r8) := by rw [if_neg (show ¬ (false = true) by decide)] at H; exact H
      clear H
      have H := H1
      clear H1
      simp only [Option.some.injEq, Prod.mk.injEq] at H
      obtain ⟨rfl, rfl, rfl, rfl, rfl, rfl, rfl, rfl⟩ := H
      have hnb71 := NB184_197.out
      have hnc71 := NB197_184.out
      have hcz72_0 : wc.cell? ⟨gb184, 0, none⟩ = some (.slice none 0 0) := (blk_cell BK184.out 0).trans rfl
      have hcz72_1 : wc.cell? ⟨gb184, 1, none⟩ = some (.slice none 0 0) := (blk_cell BK184.out 1).trans rfl
      have hcz72_2 : wc.cell? ⟨gb184, 2, none⟩ = some (.int .i64 0) := (blk_cell BK184.out 2).trans rfl
      have hcz72_3 : wc.cell? ⟨gb184, 3, none⟩ = some (.int .i64 0) := (blk_cell BK184.out 3).trans rfl
      have hcz72_4 : wc.cell? ⟨gb184, 4, none⟩ = some (.int .i64 0) := (blk_cell BK184.out 4).trans rfl
      have hcz72_5 : wc.cell? ⟨gb184, 5, none⟩ = some (.int .i64 0) := (blk_cell BK184.out 5).trans rfl
      have hfz72_0 := blk_frozen BK184.out 0
      have hfz72_1 := blk_frozen BK184.out 1
      have hfz72_2 := blk_frozen BK184.out 2
      have hfz72_3 := blk_frozen BK184.out 3
      have hfz72_4 := blk_frozen BK184.out 4
      have hfz72_5 := blk_frozen BK184.out 5
      go_wp2
      refine bodyPost_ret (results_ctt rfl _ _ gb184 24 #[.slice none 0 0, .slice none 0 0, .int .i64 0, .int .i64 0, .int .i64 0, .int .i64 0] (0, 0) _ rfl (by refine blk_put (cs := #[.slice none 0 0, .slice none 0 0, .int .i64 0, .int .i64 0, .int .i64 0, .int .i64 0]) ?_ 5 _ rfl; refine blk_put (cs := #[.slice none 0 0, .slice none 0 0, .int .i64 0, .int .i64 0, .int .i64 0, .int .i64 0]) ?_ 4 _ rfl; refine blk_put (cs := #[.slice none 0 0, .slice none 0 0, .int .i64 0, .int .i64 0, .int .i64 0, .int .i64 0]) ?_ 3 _ rfl; refine blk_put (cs := #[.slice none 0 0, .slice none 0 0, .int .i64 0, .int .i64 0, .int .i64 0, .int .i64 0]) ?_ 2 _ rfl; refine blk_put (cs := #[.slice none 0 0, .slice none 0 0, .int .i64 0, .int .i64 0, .int .i64 0, .int .i64 0]) ?_ 1 _ rfl; refine blk_put (cs := #[.slice none 0 0, .slice none 0 0, .int .i64 0, .int .i64 0, .int .i64 0, .int .i64 0]) ?_ 0 _ rfl; exact BK184.out) Try.underlying24 rfl (by kernel_rfl)) rfl ?_
      (try have GE184 := Ext.a (Nat.le_trans HWN.out.size GE184.out))
      (try have GE197 := Ext.a (Nat.le_trans HWN.out.size GE197.out))
      (try have HB := Ext.a (below_step HWN.out HB.out))
      refine ⟨_, HW0.out, ?_⟩
      exact ⟨_, _, by first | rfl | (simp [errW_none, errW_some] <;> rfl) | (simp [*, errW_none, errW_some] <;> rfl), by first | exact Kd.R_nil _ _ _ _ _ | exact Kd.N_nil _ _ _ _ _ | exact Kd.V_nil _ _ _ _ _ | exact Kd.Q_nil _ _ _ _ _ | exact Kd.S_nil _ _ _ _ _, by first | exact Kd.R_nil _ _ _ _ _ | exact Kd.N_nil _ _ _ _ _ | exact Kd.V_nil _ _ _ _ _ | exact Kd.Q_nil _ _ _ _ _ | exact Kd.S_nil _ _ _ _ _, by repeat (first | (with_reducible first | exact HB.out | apply Ext.ba | apply Ext.bn | apply Ext.bd | refine Ext.bs ?_ GE184.out | refine Ext.bs ?_ GE197.out) | exact HB.out | exact .refl _ _)⟩
  ·
   rw [if_neg c47] at H
   have c47b0 : (t189 == 2) = false := beq_eq_false_iff_ne.mpr c47
   have c47b1 : (t189 != 2) = true := bne_iff_ne.mpr c47
   simp only [Option.some.injEq, Prod.mk.injEq] at H
   obtain ⟨rfl, rfl, rfl, rfl, rfl, rfl, rfl, rfl⟩ := H
   go_enter Try.func21, Try.ntmps21
   go_wp2_with (first | ((with_reducible refine gate_dst (N := 2) rfl ?_); refine box_event ?hg (N := 2) ?hd (cs := #[.slice none 0 0, .slice none 0 0, .int .i64 0, .int .i64 0, .int .i64 0, .int .i64 0]) (t := 24) ?hr ?_; (case hd => rfl); (case hg => rfl); (case hr => first | (go_simp; done) | (go_simp; rfl)); intro gb184 hg w73 hbox hb; have n0_ := Ext.a (below_step (Ext.nB HB.out) hb); have n1_ := Ext.a (hbox); have n2_ := Ext.a ((by rw [hg]; exact (below_size (Ext.nB HB.out)) : w.heap.size ≤ gb184)); have n3_ := Ext.a ((by rw [hg]; exact (below_size (Ext.nB HB.out)) : w.heap.size ≤ gb184)); clear HB; have HB := n0_; have BK184 := n1_; have GW184 := n2_; have GE184 := n3_; clear n0_ n1_ n2_ n3_; clear hb hbox hg) | ((with_reducible refine gate_callee (f := 30) rfl ?_); refine goesL_ (some 9) rfl rfl Try.func30 (by kernel_rfl) rfl #[.slice A0 l0.length c0] rfl (by (try simp only [List.map_toArray, List.map_cons, List.map_nil]); first | done | rfl | (simp only [List.length_drop, List.length_take]; rfl)) ?_; (with_reducible refine (octets_NewReader.calls _ _ l0 t185 t186 t187 w _ ?side1 ?side2 ?side3 A2.out).mono ?_); (case side1 => repeat (first | (with_reducible first | exact HB.out | apply Ext.ba | apply Ext.bn | apply Ext.bd | refine Ext.bs ?_ GE184.out) | exact HB.out | exact .refl _ _)); (case side2 => repeat (first | exact (Kd.C_below HR0.out HB.out) | exact HR0.out | (with_reducible refine Kd.C_alloc ?_ _) | (with_reducible refine Kd.C_drewN ?_ _) | (with_reducible refine Kd.C_drew ?_))); (case side3 => exact HC0.out); obtain ⟨wX, rfl⟩ : ∃ y_ : World, y_ = w := ⟨_, rfl⟩; rintro e w74 ⟨w, g188, rfl, hb1, hi, hb⟩; refine ⟨_, rfl, ?_⟩; have HWP := Ext.a (below_step (by repeat (first | (with_reducible first | exact HB.out | apply Ext.ba | apply Ext.bn | apply Ext.bd | refine Ext.bs ?_ GE184.out) | exact HB.out | exact .refl _ _)) hb1); (first | (have HWQ := Ext.a (below_step HWN.out HWP.out)) | (have HWQ := HWP)); (try clear HWN); have HWN := HWQ; clear HWQ; have n0_ := Ext.a (Kd.C_below HR0.out HWP.out); have n1_ := Ext.a (blk_below BK184.out (below_step hb1 hb)); have n2_ := Ext.a (hb); have n3_ := Ext.a (hi); have n4_ := Ext.a (IsS56.ne_blk hi (blk_below BK184.out (below_step hb1 hb)) (by decide)); have n5_ := Ext.a (Ne.symm (IsS56.ne_blk hi (blk_below BK184.out (below_step hb1 hb)) (by decide))); clear HR0 BK184 HB; have HR0 := n0_; have BK184 := n1_; have HB := n2_; have HI188 := n3_; have NB188_184 := n4_; have NB184_188 := n5_; clear n0_ n1_ n2_ n3_ n4_ n5_; (try clear hb); (try clear hb2); (try clear hk); (try clear hi)) | ((with_reducible refine gate_callee (f := 31) rfl ?_); refine goesL_ (some 11) rfl rfl Try.func31 (by kernel_rfl) rfl #[.pointer (some ⟨g188, 0, none⟩), .int .i64 1] rfl (by (try simp only [List.map_toArray, List.map_cons, List.map_nil]); first | done | rfl | (simp only [List.length_drop, List.length_take]; rfl)) ?_; (with_reducible refine (octets_Reader_Num.calls k g188 t185 t186 t187 1 t189 t190 t191 w _ ?side1 ?side2 A3.out).mono ?_); (case side1 => repeat (first | (with_reducible first | exact HI188.out | apply IsS56.alloc | apply IsS56.drewN | apply IsS56.drew | apply IsS56.set_1 | apply IsS56.set_2 | refine IsS56.far ?_ NB188_184.out _) | exact HI188.out)); (case side2 => repeat (first | (with_reducible first | exact HB.out | apply below_alloc | apply pw_below_drewN | apply below_drew1 | refine below_set ?_ GE184.out | refine below_set ?_ (IsS56.ge HI188.out)) | exact HB.out | exact Below.refl _ _)); rintro e w75 ⟨rfl, hi, hb, hk⟩; refine ⟨_, rfl, ?_⟩; have n0_ := Ext.a (KeepBut.blk hk BK184.out NB184_188.out (by simp)); have n1_ := Ext.a (hb); have n2_ := Ext.a (hi); clear BK184 HB HI188; have BK184 := n0_; have HB := n1_; have HI188 := n2_; clear n0_ n1_ n2_; (try clear hb); (try clear hb2); (try clear hk); (try clear hi)) | ((with_reducible refine gate_callee (f := 32) rfl ?_); refine goesL_ (some 13) rfl rfl Try.func32 (by kernel_rfl) rfl #[.pointer (some ⟨g188, 0, none⟩), .int .i64 64] rfl (by (try simp only [List.map_toArray, List.map_cons, List.map_nil]); first | done | rfl | (simp only [List.length_drop, List.length_take]; rfl)) ?_; (with_reducible refine (octets_Reader_Text.calls k g188 t185 t190 t191 64 t192 t195 t196 w _ ?side1 ?side2 A4.out).mono ?_); (case side1 => repeat (first | (with_reducible first | exact HI188.out | apply IsS56.alloc | apply IsS56.drewN | apply IsS56.drew | apply IsS56.set_1 | apply IsS56.set_2 | refine IsS56.far ?_ NB188_184.out _) | exact HI188.out)); (case side2 => repeat (first | (with_reducible first | exact HB.out | apply below_alloc | apply pw_below_drewN | apply below_drew1 | refine below_set ?_ GE184.out | refine below_set ?_ (IsS56.ge HI188.out)) | exact HB.out | exact Below.refl _ _)); rintro e w76 ⟨v193, rfl, ho0, hi, hb, hk⟩; refine ⟨_, rfl, ?_⟩; have n0_ := Ext.a (KeepBut.blk hk BK184.out NB184_188.out (by simp)); have n1_ := Ext.a (Kd.R_lower ho0 (below_size (by repeat (first | (with_reducible first | exact HB.out | apply below_alloc | apply pw_below_drewN | apply below_drew1 | refine below_set ?_ GE184.out | refine below_set ?_ (IsS56.ge HI188.out)) | exact HB.out | exact Below.refl _ _)))); have n2_ := Ext.a (hb); have n3_ := Ext.a (hi); clear BK184 HB HI188; have BK184 := n0_; have HO194 := n1_; have HB := n2_; have HI188 := n3_; clear n0_ n1_ n2_ n3_; (try clear hb); (try clear hb2); (try clear hk); (try clear hi); (try clear ho0); obtain ⟨Ao77, co77, eo77⟩ := Kd.R_slice HO194.out; subst eo77) | ((with_reducible refine gate_dst (N := 7) rfl ?_); refine box_event ?hg (N := 7) ?hd (cs := #[.slice none 0 0, .slice none 0 0, .int .i64 0, .int .i64 0, .int .i64 0, .int .i64 0]) (t := 24) ?hr ?_; (case hd => rfl); (case hg => rfl); (case hr => first | (go_simp; done) | (go_simp; rfl)); intro gb197 hg w78 hbox hb; have n0_ := Ext.a (Kd.R_below (Ext.nR HO194.out) hb); have n1_ := Ext.a (blk_below BK184.out hb); have n2_ := Ext.a (IsS56.below (by repeat (first | (with_reducible first | exact HI188.out | apply IsS56.alloc | apply IsS56.drewN | apply IsS56.drew | apply IsS56.set_1 | apply IsS56.set_2 | refine IsS56.far ?_ NB188_184.out _) | exact HI188.out)) hb); have n3_ := Ext.a (below_step (by repeat (first | (with_reducible first | exact HB.out | apply below_alloc | apply pw_below_drewN | apply below_drew1 | refine below_set ?_ GE184.out | refine below_set ?_ (IsS56.ge HI188.out)) | exact HB.out | exact Below.refl _ _)) hb); have n4_ := Ext.a (hbox); have n5_ := Ext.a ((by rw [hg]; exact (below_size (by repeat (first | (with_reducible first | exact HB.out | apply below_alloc | apply pw_below_drewN | apply below_drew1 | refine below_set ?_ GE184.out | refine below_set ?_ (IsS56.ge HI188.out)) | exact HB.out | exact Below.refl _ _))) : w.heap.size ≤ gb197)); have n6_ := Ext.a ((by rw [hg]; exact (below_size (by repeat (first | (with_reducible first | exact HB.out | apply below_alloc | apply pw_below_drewN | apply below_drew1 | refine below_set ?_ GE184.out | refine below_set ?_ (IsS56.ge HI188.out)) | exact HB.out | exact Below.refl _ _))) : w.heap.size ≤ gb197)); have n7_ := Ext.a ((by rw [hg]; exact Nat.ne_of_lt (blk_lt BK184.out) : gb184 ≠ gb197)); have n8_ := Ext.a ((by rw [hg]; exact Nat.ne_of_gt (blk_lt BK184.out) : gb197 ≠ gb184)); have n9_ := Ext.a ((by rw [hg]; exact Nat.ne_of_lt (IsS56.lt (show IsS56 w _ g188 t185 t195 t196 from by repeat (first | (with_reducible first | exact HI188.out | apply IsS56.alloc | apply IsS56.drewN | apply IsS56.drew | apply IsS56.set_1 | apply IsS56.set_2 | refine IsS56.far ?_ NB188_184.out _) | exact HI188.out))) : g188 ≠ gb197)); have n10_ := Ext.a ((by rw [hg]; exact Nat.ne_of_gt (IsS56.lt (show IsS56 w _ g188 t185 t195 t196 from by repeat (first | (with_reducible first | exact HI188.out | apply IsS56.alloc | apply IsS56.drewN | apply IsS56.drew | apply IsS56.set_1 | apply IsS56.set_2 | refine IsS56.far ?_ NB188_184.out _) | exact HI188.out))) : gb197 ≠ g188)); clear HO194 BK184 HI188 HB; have HO194 := n0_; have BK184 := n1_; have HI188 := n2_; have HB := n3_; have BK197 := n4_; have GW197 := n5_; have GE197 := n6_; have NB184_197 := n7_; have NB197_184 := n8_; have NB188_197 := n9_; have NB197_188 := n10_; clear n0_ n1_ n2_ n3_ n4_ n5_ n6_ n7_ n8_ n9_ n10_; clear hb hbox hg; have hnb79 := NB197_184.out; have hnc79 := NB184_197.out; have hnb80 := NB197_188.out; have hnc80 := NB188_197.out; have hcz81_0 : w78.cell? ⟨gb197, 0, none⟩ = some (.slice none 0 0) := (blk_cell BK197.out 0).trans rfl; have hcz81_1 : w78.cell? ⟨gb197, 1, none⟩ = some (.slice none 0 0) := (blk_cell BK197.out 1).trans rfl; have hcz81_2 : w78.cell? ⟨gb197, 2, none⟩ = some (.int .i64 0) := (blk_cell BK197.out 2).trans rfl; have hcz81_3 : w78.cell? ⟨gb197, 3, none⟩ = some (.int .i64 0) := (blk_cell BK197.out 3).trans rfl; have hcz81_4 : w78.cell? ⟨gb197, 4, none⟩ = some (.int .i64 0) := (blk_cell BK197.out 4).trans rfl; have hcz81_5 : w78.cell? ⟨gb197, 5, none⟩ = some (.int .i64 0) := (blk_cell BK197.out 5).trans rfl; have hfz81_0 := blk_frozen BK197.out 0; have hfz81_1 := blk_frozen BK197.out 1; have hfz81_2 := blk_frozen BK197.out 2; have hfz81_3 := blk_frozen BK197.out 3; have hfz81_4 := blk_frozen BK197.out 4; have hfz81_5 := blk_frozen BK197.out 5; have hnb82 := NB184_188.out; have hnc82 := NB188_184.out; have hcz83_0 : w78.cell? ⟨gb184, 0, none⟩ = some (.slice none 0 0) := (blk_cell BK184.out 0).trans rfl; have hcz83_1 : w78.cell? ⟨gb184, 1, none⟩ = some (.slice none 0 0) := (blk_cell BK184.out 1).trans rfl; have hcz83_2 : w78.cell? ⟨gb184, 2, none⟩ = some (.int .i64 0) := (blk_cell BK184.out 2).trans rfl; have hcz83_3 : w78.cell? ⟨gb184, 3, none⟩ = some (.int .i64 0) := (blk_cell BK184.out 3).trans rfl; have hcz83_4 : w78.cell? ⟨gb184, 4, none⟩ = some (.int .i64 0) := (blk_cell BK184.out 4).trans rfl; have hcz83_5 : w78.cell? ⟨gb184, 5, none⟩ = some (.int .i64 0) := (blk_cell BK184.out 5).trans rfl; have hfz83_0 := blk_frozen BK184.out 0; have hfz83_1 := blk_frozen BK184.out 1; have hfz83_2 := blk_frozen BK184.out 2; have hfz83_3 := blk_frozen BK184.out 3; have hfz83_4 := blk_frozen BK184.out 4; have hfz83_5 := blk_frozen BK184.out 5))
   refine bodyPost_ret (results_ctt rfl _ _ gb184 24 #[.slice none 0 0, .slice none 0 0, .int .i64 0, .int .i64 0, .int .i64 0, .int .i64 0] (0, 0) _ rfl (by refine blk_put (cs := #[.slice none 0 0, .slice none 0 0, .int .i64 0, .int .i64 0, .int .i64 0, .int .i64 0]) ?_ 5 _ rfl; refine blk_put (cs := #[.slice none 0 0, .slice none 0 0, .int .i64 0, .int .i64 0, .int .i64 0, .int .i64 0]) ?_ 4 _ rfl; refine blk_put (cs := #[.slice none 0 0, .slice none 0 0, .int .i64 0, .int .i64 0, .int .i64 0, .int .i64 0]) ?_ 3 _ rfl; refine blk_put (cs := #[.slice none 0 0, .slice none 0 0, .int .i64 0, .int .i64 0, .int .i64 0, .int .i64 0]) ?_ 2 _ rfl; refine blk_put (cs := #[.slice none 0 0, .slice none 0 0, .int .i64 0, .int .i64 0, .int .i64 0, .int .i64 0]) ?_ 1 _ rfl; refine blk_put (cs := #[.slice none 0 0, .slice none 0 0, .int .i64 0, .int .i64 0, .int .i64 0, .int .i64 0]) ?_ 0 _ rfl; refine blk_far ?_ NB184_197.out _; refine blk_far ?_ NB184_197.out _; refine blk_far ?_ NB184_197.out _; refine blk_far ?_ NB184_197.out _; refine blk_far ?_ NB184_197.out _; refine blk_far ?_ NB184_197.out _; exact BK184.out) Try.underlying24 rfl (by kernel_rfl)) rfl ?_
   (try have GE184 := Ext.a (Nat.le_trans HWN.out.size GE184.out))
   (try have GE197 := Ext.a (Nat.le_trans HWN.out.size GE197.out))
   (try have HB := Ext.a (below_step HWN.out HB.out))
   refine ⟨_, HW0.out, ?_⟩
   exact ⟨_, _, by first | rfl | (simp [errW_none, errW_some] <;> rfl) | (simp [*, errW_none, errW_some] <;> rfl), by first | exact Kd.R_nil _ _ _ _ _ | exact Kd.N_nil _ _ _ _ _ | exact Kd.V_nil _ _ _ _ _ | exact Kd.Q_nil _ _ _ _ _ | exact Kd.S_nil _ _ _ _ _, by first | exact Kd.R_nil _ _ _ _ _ | exact Kd.N_nil _ _ _ _ _ | exact Kd.V_nil _ _ _ _ _ | exact Kd.Q_nil _ _ _ _ _ | exact Kd.S_nil _ _ _ _ _, by repeat (first | (with_reducible first | exact HB.out | apply below_alloc | apply pw_below_drewN | apply below_drew1 | refine below_set ?_ GE184.out | refine below_set ?_ GE197.out | refine below_set ?_ (IsS56.ge HI188.out)) | exact HB.out | exact Below.refl _ _)⟩

theorem record_Decode.calls (k : Nat) (A0 : Option Addr) (c0 : Nat) (l0 : List Int) (r1 : List Int) (r2 : List Int) (r3 : Int) (r4 : Int) (r5 : Int) (r6 : Int) (r7 : Bool) (r8 : Int) (w : World) (hr0 : Kd.C (Kd.int .u8) w A0 l0.length l0) (hc0 : l0.length ≤ c0) (h : record_Decode.f k l0 = some (r1, r2, r3, r4, r5, r6, r7, r8)) :
  Calls Try.prog 21 #[.slice A0 l0.length c0] w fun e w' => ∃ v0_ v1_ : Value, e = .returned (.tuple #[.agg #[v0_, v1_, .int .i64 r3, .int .i64 r4, .int .i64 r5, .int .i64 r6], .bool r7, .int .i64 r8]) ∧ Kd.R (Kd.int .u8) 5 w' w.heap.size (fun k_ => some k_ ≠ (v1_ : Value).ownBlock) v0_ r1 ∧ Kd.R (Kd.int .u8) 5 w' w.heap.size (fun k_ => some k_ ≠ (v0_ : Value).ownBlock) v1_ r2 ∧ Below w.heap.size w w' := by
 refine (record_Decode.calls0 k A0 c0 l0 r1 r2 r3 r4 r5 r6 r7 r8 w hr0 hc0 h).mono ?_
 rintro e w' ⟨wN_, hwn_, v0_, v1_, he_, ho0_, ho1_, hb_⟩
 exact ⟨v0_, v1_, he_, (by first | exact Kd.R_lower ho0_ hwn_.size | exact Kd.S_lower ho0_ hwn_.size | exact Kd.N_lower ho0_ hwn_.size), (by first | exact Kd.R_lower ho1_ hwn_.size | exact Kd.S_lower ho1_ hwn_.size | exact Kd.N_lower ho1_ hwn_.size), below_step hwn_ hb_⟩

end Go.Proofs.Ytapmgeofbjgalaa.PR
