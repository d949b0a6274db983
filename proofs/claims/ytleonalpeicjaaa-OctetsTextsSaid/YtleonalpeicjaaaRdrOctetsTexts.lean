/- What a reader of package octets reads where its bytes are known: a number, a text with its length ahead, the end. -/
import Derived.Test.YtleonalpeicjaaaOctOctetsTexts
import Derived.Test.YtleonalpeicjaaaPSx28
import Derived.Test.YtleonalpeicjaaaPSx29
import Derived.Test.YtleonalpeicjaaaPSx31
import Derived.Test.YtleonalpeicjaaaPSx32
import Derived.Test.YtleonalpeicjaaaPSx33
import Derived.Test.YtleonalpeicjaaaPSx34
namespace Go.Proofs.Ytleonalpeicjaaa.Rdr
open Go.RowKit Go.Proofs.YtleonalpeicjaaaW.PrintWords Go.Proofs.YtleonalpeicjaaaW.PrintLast Go.Proofs.YtleonalpeicjaaaW.PrintMore Go.Proofs.Ytleonalpeicjaaa.PS Go.Proofs.Ytleonalpeicjaaa.Base Go.Proofs.Ytleonalpeicjaaa.Oct

theorem Num_at (B p q : List Int) (n : Int) (d : Nat) (hB : B = p ++ putB n d ++ q) (hb : Bytes B) (hl : B.length ≤ 140737488351232) (h0 : 0 ≤ n) (h1 : n < 256 ^ d) (hd1 : 1 ≤ d) (hd8 : d ≤ 8) (at_ : Int) (hat : at_ = p.length) (sz : Int) (hsz : sz = d) :
    Ev (fun k => octets_Reader_Num.f k B at_ 0 sz) (n, at_ + d, 0) := by
  subst hat; subst hsz
  have hlen : B.length = p.length + d + q.length := by rw [hB]; simp [putB_length]; omega
  have e0 : octets_Reader_over.f B (p.length : Int) 0 = some (false, (p.length : Int), 0) := rfl
  unfold octets_Reader_Num.f
  refine Ev.bind0 e0 ?_
  dsimp only
  refine Ev.iteF (by decide) ?_
  refine Ev.bind (Get_ev B _ _ hb (by omega) (by omega) (by omega) (by omega) (by omega)) ?_
  have e : getE B (p.length : Int) (d : Int) = (n, 0) := by
    unfold getE
    rw [if_neg (by omega), if_neg (by omega), Int.toNat_natCast, Int.toNat_natCast, hB, List.append_assoc, List.drop_left' rfl, List.take_left' (by rw [putB_length]), getB_putB_id h0 h1]
  rw [e]
  refine Ev.eq (Ev.iteT rfl (Ev.now _)) ?_
  rw [wrap64_id (by omega) (by omega)]
theorem Bytes_at (B p t q : List Int) (hB : B = p ++ t ++ q) (hl : B.length ≤ 140737488351232) (at_ : Int) (hat : at_ = p.length) (n : Int) (hn : n = t.length) :
    octets_Reader_Bytes.f B at_ 0 n = some (t, at_ + t.length, 0) := by
  subst hat; subst hn
  have hlen : B.length = p.length + t.length + q.length := by rw [hB]; simp; omega
  unfold octets_Reader_Bytes.f octets_Reader_over.f
  have w1 : wrap64 ((B.length : Int) - (p.length : Int)) = (B.length : Int) - (p.length : Int) := wrap64_id (by omega) (by omega)
  have w2 : wrap64 ((p.length : Int) + (t.length : Int)) = (p.length : Int) + (t.length : Int) := wrap64_id (by omega) (by omega)
  have w3 : wrap64 ((p.length : Int) + (t.length : Int) - (t.length : Int)) = (p.length : Int) := by rw [wrap64_id (by omega) (by omega)]; omega
  have e : ((B.take (((p.length : Int) + (t.length : Int)).toNat)).drop ((p.length : Int)).toNat) = t := by
    rw [show ((p.length : Int) + (t.length : Int)).toNat = (p ++ t).length from by simp; omega, hB, List.take_left' rfl, Int.toNat_natCast, List.drop_left' rfl]
  simp only [Option.bind_some, w1, w2, w3]
  rw [if_neg (by decide), if_neg (by omega), if_neg (by omega), if_pos (by omega), if_pos (by omega), if_pos (by omega), e, if_pos (by simp; omega)]
  simp
theorem Text_at (B p t q : List Int) (hB : B = p ++ putB (t.length : Int) 2 ++ t ++ q) (hb : Bytes B) (hl : B.length ≤ 140737488351232) (ht : t.length < 65536) (max_ : Int) (hm : (t.length : Int) ≤ max_) (at_ : Int) (hat : at_ = p.length) :
    Ev (fun k => octets_Reader_Text.f k B at_ 0 max_) (t, at_ + 2 + t.length, 0) := by
  subst hat
  have hlen : B.length = p.length + 2 + t.length + q.length := by rw [hB]; simp [putB_length]; omega
  unfold octets_Reader_Text.f
  have e0 : octets_Reader_over.f B (p.length : Int) 0 = some (false, (p.length : Int), 0) := rfl
  refine Ev.bind0 e0 ?_
  dsimp only
  refine Ev.iteF (by decide) ?_
  have p2 : (256 : Int) ^ 2 = 65536 := by decide
  refine Ev.bind (Num_at B p (t ++ q) (t.length : Int) 2 (by rw [hB]; simp) hb hl (by omega) (by rw [p2]; omega) (by omega) (by omega) _ rfl 2 rfl) ?_
  dsimp only
  refine Ev.iteT rfl ?_
  have w : wrap64 (t.length : Int) = (t.length : Int) := wrap64_id (by omega) (by omega)
  simp only [w]
  rw [decide_eq_false (show ¬ ((t.length : Int) > max_) by omega)]
  refine Ev.step (fun k => by rw [octets_Reader_Text.j0]) (Ev.iteF (by decide) ?_)
  refine Ev.bind0 (Bytes_at B (p ++ putB (t.length : Int) 2) t q hB hl _ (by simp [putB_length]) _ rfl) ?_
  exact Ev.iteT rfl (Ev.now _)
theorem End_at (B : List Int) (at_ : Int) (hat : at_ = B.length) : octets_Reader_End.f B at_ 0 = some (0, at_, 0) := by
  subst hat
  unfold octets_Reader_End.f
  rw [if_pos rfl, if_neg (by omega)]
theorem New_eq (l : List Int) (h : l.length < 140737488355328) : octets_NewReader.f l = some (l, 0, 0) := by
  unfold octets_NewReader.f
  rw [if_pos h]
end Go.Proofs.Ytleonalpeicjaaa.Rdr
