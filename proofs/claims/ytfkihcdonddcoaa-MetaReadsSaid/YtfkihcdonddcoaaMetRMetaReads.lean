/- The document's meta: the same bytes, the same numbers. -/
import Derived.Test.YtfkihcdonddcoaaOctMetaReads
import Derived.Test.YtfkihcdonddcoaaCrcMetaReads
import Derived.Test.YtfkihcdonddcoaaSumMetaReads
import Derived.Test.YtfkihcdonddcoaaMetMetaReads
import Derived.Test.YtfkihcdonddcoaaPRx11
import Derived.Test.YtfkihcdonddcoaaPRx12
namespace Go.Proofs.Ytfkihcdonddcoaa.MetR
open Go.RowKit Go.Proofs.YtfkihcdonddcoaaW.PrintWords Go.Proofs.YtfkihcdonddcoaaW.PrintLast Go.Proofs.YtfkihcdonddcoaaW.PrintMore Go.Proofs.Ytfkihcdonddcoaa.PR Go.Proofs.Ytfkihcdonddcoaa.Base Go.Proofs.Ytfkihcdonddcoaa.Oct Go.Proofs.Ytfkihcdonddcoaa.Crc Go.Proofs.Ytfkihcdonddcoaa.Sum Go.Proofs.Ytfkihcdonddcoaa.Met
theorem refRight_eq (t r s z : Int) : terrierref05_Right.f t r s z = some (decide (RightM r s z)) := by
  unfold terrierref05_Right.f RightM Spot
  repeat' split
  all_goals simp only [Option.some.injEq]
  all_goals first
    | (refine (decide_eq_false ?_).symm; omega)
    | (refine (decide_eq_true ?_).symm; omega)
    | (refine decide_eq_decide.2 ?_; omega)
theorem refPut8 {n : Int} (h0 : 0 ≤ n) (h1 : n < 18446744073709551616) : Ev (fun k => terrierref01_Put.f k n 8) (putB n 8) := refPut_ev n 8 h0 h1 (by omega) (by omega)
theorem refPut4 {n : Int} (h0 : 0 ≤ n) (h1 : n < 4294967296) : Ev (fun k => terrierref01_Put.f k (IntKind.u64.wrap n) 4) (putB n 4) := by
  rw [wrap_u64_id h0 (by omega)]
  exact refPut_ev n 4 h0 (by omega) (by omega) (by omega)
theorem pad_ev {t : Int} (r s z : Int) (h0 : 0 ≤ t) (h1 : t < 18446744073709551616) : ∀ (d : Nat) (b : List Int), Bytes b → b.length + d = 244 → Ev (fun k => terrierref05_Encode.l1 k b t r s z) (sealB (b ++ List.replicate d 0 ++ putB t 8))
  | 0, b, hb, hl => by
    refine Ev.step (fun k => by rw [terrierref05_Encode.l1_eq]) ?_
    refine Ev.iteF (by omega) (Ev.bind (refPut8 h0 h1) (Ev.iteT (by rw [putB_length]; omega) ?_))
    rw [List.replicate_zero, List.append_nil]
    exact Ev.bind (refSeal_ev _ (bytes_append.2 ⟨hb, putB_bytes _ _⟩) (by rw [List.length_append, putB_length]; omega)) (Ev.now _)
  | d + 1, b, hb, hl => by
    refine Ev.step (fun k => by rw [terrierref05_Encode.l1_eq]) ?_
    refine Ev.iteT (by omega) (Ev.iteT (by omega) ?_)
    have h := pad_ev r s z h0 h1 d (b ++ [0]) (bytes_append.2 ⟨hb, by intro x hx; simp at hx; omega⟩) (by simp; omega)
    rw [List.append_assoc b [0]] at h
    exact h
theorem refEncode_ev {t r s z : Int} (h : Fit t r s z) : Ev (fun k => terrierref05_Encode.f k t r s z) (metaE t r s z) := by
  obtain ⟨h0, h1, hr⟩ := h
  obtain ⟨⟨r0, r1⟩, ⟨s0, s1⟩, z0, z1⟩ := hr.low
  unfold terrierref05_Encode.f
  refine Ev.bind0 rfl (Ev.bind (refPut8 h0 h1) (Ev.iteT (by simp [putB_length]) (Ev.bind0 rfl (Ev.iteT (by simp [putB_length]) ?_))))
  rw [show bytesOf (⟨#[84, 69, 82, 82, 1]⟩ : ByteArray) = [84, 69, 82, 82, 1] from rfl]
  refine Ev.step (fun k => by rw [terrierref05_Encode.l0]) ?_
  refine Ev.iteT (by decide) (Ev.iteT (by decide) (Ev.bind (refPut4 (n := Ext.ix3 (r, s, z) 0) r0 (show r < _ by omega)) (Ev.iteT (by simp [putB_length]) ?_)))
  rw [show wrap64 (0 + 1) = 1 by unfold wrap64; omega]
  refine Ev.step (fun k => by rw [terrierref05_Encode.l0]) ?_
  refine Ev.iteT (by decide) (Ev.iteT (by decide) (Ev.bind (refPut4 (n := Ext.ix3 (r, s, z) 1) s0 (show s < _ by omega)) (Ev.iteT (by simp [putB_length]) ?_)))
  rw [show wrap64 (1 + 1) = 2 by unfold wrap64; omega]
  refine Ev.step (fun k => by rw [terrierref05_Encode.l0]) ?_
  refine Ev.iteT (by decide) (Ev.iteT (by decide) (Ev.bind (refPut4 (n := Ext.ix3 (r, s, z) 2) z0 (show z < _ by omega)) (Ev.iteT (by simp [putB_length]) ?_)))
  rw [show wrap64 (2 + 1) = 3 by unfold wrap64; omega]
  refine Ev.step (fun k => by rw [terrierref05_Encode.l0]) ?_
  refine Ev.iteF (by decide) ?_
  refine pad_ev r s z h0 h1 218 ([9] ++ putB t 8 ++ [84, 69, 82, 82, 1] ++ putB r 4 ++ putB s 4 ++ putB z 4) ?_ (by simp [putB_length])
  simp only [bytes_append]
  refine ⟨⟨⟨⟨⟨?_, putB_bytes _ _⟩, ?_⟩, putB_bytes _ _⟩, putB_bytes _ _⟩, putB_bytes _ _⟩
  · intro x hx; simp at hx; omega
  · intro x hx; simp at hx; omega
end Go.Proofs.Ytfkihcdonddcoaa.MetR
