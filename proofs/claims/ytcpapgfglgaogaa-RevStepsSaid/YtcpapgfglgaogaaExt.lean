/- What the model's entries and a few operations do at values that the kit's print tells: for the contracts that wip/supply.py lays. -/
import Derived.Laws.Externs
import Derived.Lib.BytesEntry
import Derived.Lib.SliceRun
import Derived.Laws.LoneSync
import Derived.Test.YtcpapgfglgaogaaWMore
namespace Go.Proofs.Ytcpapgfglgaogaa.Ext
open Go.RowKit Go.Proofs.YtcpapgfglgaogaaW.PrintWords Go.Proofs.YtcpapgfglgaogaaW.PrintLast Go.Proofs.YtcpapgfglgaogaaW.PrintMore

theorem run_bytesOf_C {P : Program} {w : World} {A : Option Addr} {n c : Nat} {xs : List Int} (h : (Kd.int .u8).C w A n xs) :
    (Extern.Bytes.bytesOf (.slice A n c)).run P w = .ok (strOfNums xs) w := by
  have hr : ReadsOf (Value.int .u8) (0 : Int) w A n xs := Kd.reads_of_C (enc := Value.int .u8) (d := (0 : Int)) (h1 := fun _ => rfl) h
  obtain ⟨hn, _, hc⟩ := hr
  rcases A with _ | ad
  · have h0 : n = 0 := by
      rcases Nat.eq_zero_or_pos n with h0 | h0
      · exact h0
      · obtain ⟨ad, h', _⟩ := hc h0
        cases h'
    subst h0
    obtain rfl : xs = [] := List.eq_nil_of_length_eq_zero hn
    rfl
  · have hl := Lib.run_loadBytesX (P := P) w xs ad .empty (fun j x hj => by
      have hjl : j < xs.length := (List.getElem?_eq_some_iff.1 hj).1
      obtain ⟨ad', he, hcell⟩ := hc (by omega)
      injection he with he
      subst he
      rw [hcell j (by omega), List.getD_eq_getElem?_getD, hj]
      rfl)
    rw [hn] at hl
    have e : (⟨ByteArray.empty.data ++ (Lib.bytesOf xs).toArray⟩ : ByteArray) = strOfNums xs := by
      apply ByteArray.ext
      show (#[] : Array UInt8) ++ (Lib.bytesOf xs).toArray = _
      simp [strOfNums, Lib.bytesOf]
    rw [← e]
    exact hl

theorem run_compare {P : Program} {w : World} {A A' : Option Addr} {n c n' c' : Nat} {xs ys : List Int} (h : (Kd.int .u8).C w A n xs) (h' : (Kd.int .u8).C w A' n' ys) :
    (Extern.BytealgCompare.compare #[.slice A n c, .slice A' n' c']).run P w = .ok (.int .i64 (Lib.compareBytes (strOfNums xs).data.toList (strOfNums ys).data.toList)) w := by
  change Sem.run P (do pure (goInt (Extern.BytealgCompare.cmp (← Extern.Bytes.bytesOf (.slice A n c)) (← Extern.Bytes.bytesOf (.slice A' n' c'))))) w = _
  simp only [Sem.run_bind, run_bytesOf_C h, run_bytesOf_C h', Sem.run_pure, Result.andThen]
  rw [Lib.cmp_eq]
  rfl
theorem pick_u8 : (if IntKind.u8.signed = true then (-1 : Int) else IntKind.u8.max) = 255 := by decide
theorem pick_u32 : (if IntKind.u32.signed = true then (-1 : Int) else IntKind.u32.max) = 4294967295 := by decide
theorem pick_u64 : (if IntKind.u64.signed = true then (-1 : Int) else IntKind.u64.max) = 18446744073709551615 := by decide
end Go.Proofs.Ytcpapgfglgaogaa.Ext
