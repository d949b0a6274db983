/- terrierlaw17.spoil, by hand: the bytes of events of the call's own are turned; nothing older than they are changes. -/
import Derived.Test.YtdakdlgkhnjhoaaPAx4
namespace Go.Proofs.Ytdakdlgkhnjhoaa.PA
open Go.RowKit Go.Proofs.YtdakdlgkhnjhoaaW.PrintWords Go.Proofs.YtdakdlgkhnjhoaaW.PrintLast Go.Proofs.YtdakdlgkhnjhoaaW.PrintMore
set_option linter.unusedVariables false
set_option linter.unusedSimpArgs false

/-- All that was there is there, but for bytes, which are bytes again; what lies below b is as it was. -/
def Spt (b : Nat) (w0 w1 : World) : Prop :=
  Below b w0 w1 ∧ ∀ (q : Addr) (u : Value), w0.cell? q = some u → (∃ u', w1.cell? q = some u' ∧ (u' = u ∨ ∃ m m', u = .int .u8 m ∧ u' = .int .u8 m')) ∧ w1.frozen? q = w0.frozen? q
theorem Spt.refl (b : Nat) (w : World) : Spt b w w := ⟨Below.refl _ _, fun _ u h => ⟨⟨u, h, .inl rfl⟩, rfl⟩⟩
theorem Spt.fix {b : Nat} {w0 w1 : World} (h : Spt b w0 w1) {q : Addr} {u : Value} (hc : w0.cell? q = some u) (hu : ∀ m, u ≠ .int .u8 m) : w1.cell? q = some u := by
  obtain ⟨⟨u', h1, h2⟩, _⟩ := h.2 q u hc
  rcases h2 with rfl | ⟨m, _, rfl, _⟩
  · exact h1
  · exact absurd rfl (hu m)
theorem Spt.byte {b : Nat} {w0 w1 : World} (h : Spt b w0 w1) {q : Addr} {m : Int} (hc : w0.cell? q = some (.int .u8 m)) (hf : w0.frozen? q = false) : ∃ m', w1.cell? q = some (.int .u8 m') ∧ w1.frozen? q = false := by
  obtain ⟨⟨u', h1, h2⟩, h3⟩ := h.2 q _ hc
  rcases h2 with rfl | ⟨_, m', _, rfl⟩
  · exact ⟨m, h1, h3.trans hf⟩
  · exact ⟨m', h1, h3.trans hf⟩
theorem frozen_below {w1 w2 : World} (hb : Below w1.heap.size w1 w2) {q : Addr} (hq : q.block < w1.heap.size) : w2.frozen? q = w1.frozen? q := by
  have := hb.block q.block hq
  simp only [World.frozen?, this]
theorem Spt.below {b : Nat} {w0 w1 w2 : World} (h : Spt b w0 w1) (hs : b ≤ w0.heap.size) (hb : Below w1.heap.size w1 w2) : Spt b w0 w2 := by
  have hle : b ≤ w1.heap.size := Nat.le_trans hs h.1.size
  refine ⟨below_then h.1 hle hb, fun q u hq => ?_⟩
  obtain ⟨⟨u', h1, h2⟩, h3⟩ := h.2 q u hq
  have hlt := World.block_lt_of_cell? w1 q h1
  exact ⟨⟨u', (hb.cell hlt).trans h1, h2⟩, (frozen_below hb hlt).trans h3⟩
theorem frozen_set (w : World) (p q : Addr) (u : Value) : (w.setCell p u).frozen? q = w.frozen? q := by
  by_cases h : q.block = p.block
  · unfold World.frozen? World.setCell
    simp only [h, Array.getElem?_modify]
    cases hb : w.heap[p.block]? with
    | none => simp
    | some o => cases o <;> simp
  · unfold World.frozen?
    rw [Below.heap_setCell w p u q.block h]
theorem Spt.put {b : Nat} {w0 w1 : World} (h : Spt b w0 w1) {p : Addr} {m m' : Int} (hc : w1.cell? p = some (.int .u8 m)) (hp : b ≤ p.block) : Spt b w0 (w1.setCell p (.int .u8 m')) := by
  refine ⟨h.1.setCell hp _, fun q u hq => ?_⟩
  obtain ⟨⟨u', h1, h2⟩, h3⟩ := h.2 q u hq
  refine ⟨?_, (frozen_set w1 p q _).trans h3⟩
  by_cases e : q = p
  · subst e
    refine ⟨.int .u8 m', World.cell?_setCell_same _ _ _ h1, .inr ?_⟩
    obtain rfl : u' = .int .u8 m := Option.some.inj (h1.symm.trans hc)
    rcases h2 with h2 | ⟨m1, _, h2, _⟩
    · exact ⟨m, m', h2.symm, rfl⟩
    · exact ⟨m1, m', h2, rfl⟩
  · exact ⟨u', (World.cell?_setCell_other _ _ _ _ (fun h => e h.symm)).trans h1, h2⟩
theorem Spt.set {b : Nat} {w0 w1 : World} (h : Spt b w0 w1) {g j : Nat} {m m' : Int} (hc : w1.cell? ⟨g, j, none⟩ = some (.int .u8 m)) (hp : b ≤ g) : Spt b w0 (w1.setCell ⟨g, j, none⟩ (.int .u8 m')) := h.put hc hp
theorem Spt.n {b : Nat} {w0 w w' : World} [k : Ext.Later w w'] (h : Spt b w0 w) (hs : b ≤ w0.heap.size) : Spt b w0 w' := h.below hs k.out
theorem Spt.keep {b gb : Nat} {w0 w1 w2 : World} (h : Spt b w0 w1) (hk : KeepBut w1 w2 gb none) (hb : Below b w0 w2) (hg : w0.heap.size ≤ gb) : Spt b w0 w2 := by
  refine ⟨hb, fun q u hq => ?_⟩
  obtain ⟨⟨u', h1, h2⟩, h3⟩ := h.2 q u hq
  have e := hk.2 q.block (World.block_lt_of_cell? w1 q h1) (by have := World.block_lt_of_cell? w0 q hq; omega) (by simp)
  refine ⟨⟨u', (World.cell?_of_block (w := w1) e).trans h1, h2⟩, ?_⟩
  rw [← h3]
  simp only [World.frozen?, e]
theorem Spt.turn {b g j : Nat} {w0 w w' : World} {m m' : Int} [k : Ext.Later w w'] (h : Spt b w0 w) (hs : b ≤ w0.heap.size) (hc : w.cell? ⟨g, j, none⟩ = some (.int .u8 m)) (hp : b ≤ g) : Spt b w0 (w'.setCell ⟨g, j, none⟩ (.int .u8 m')) :=
  (h.below hs k.out).put ((k.out.cell (World.block_lt_of_cell? w _ hc)).trans hc) hp
theorem blk_turn {g gb j t : Nat} {w w' : World} {cs : Array Value} {u : Value} [k : Ext.Later w w'] (h : w.heap[gb]? = some (.cells cs t (0, 0))) (hne : gb ≠ g) : (w'.setCell ⟨g, j, none⟩ u).heap[gb]? = some (.cells cs t (0, 0)) :=
  blk_far ((k.out.block gb (blk_lt h)).trans h) hne u
/-- A row of bytes, as young as b, at w. -/
def Byt (b : Nat) (w : World) (A : Option Addr) (n : Nat) : Prop := ∀ i : Int, 0 ≤ i → i < n → ∃ g m, A = some ⟨g, 0, none⟩ ∧ b ≤ g ∧ w.cell? ⟨g, i.toNat, none⟩ = some (.int .u8 m) ∧ w.frozen? ⟨g, i.toNat, none⟩ = false
theorem byt_of {w : World} {b : Nat} {ok : Nat → Prop} {v : Value} {xs : List Int} (h : (Kd.int .u8).R 5 w b ok v xs) : ∃ A c, v = .slice A xs.length c ∧ Byt b w A xs.length := by
  obtain ⟨A, c, rfl⟩ := Kd.R_slice h
  refine ⟨A, c, rfl, fun i h0 h1 => ?_⟩
  obtain ⟨g, cap, he, hg, _⟩ := Kd.R_form h (by omega)
  injection he with hA _ hc
  subst hA
  subst hc
  obtain ⟨cs, hl, hM, hcell, hfr⟩ := Kd.R_elem h 0 i h0 h1
  have hK := (Kd.int .u8).K_of_M hM
  obtain rfl : cs = [.int .u8 (xs.getD i.toNat 0)] := hK
  have h2 := hcell 0 _ rfl
  have h3 := hfr 0
  have hz : i.toNat * (Kd.int .u8).sz + 0 = i.toNat := Nat.mul_one _
  rw [hz] at h2 h3
  exact ⟨g, _, rfl, hg, h2, h3⟩
/-- No row is so long that a count of its places would wrap. -/
def spoilOk (l : List S38) : Bool := decide (l.length < 140737488355328) && l.all fun x => decide (x.f1.f0.length < 140737488355328) && decide (x.f3.f1.length < 140737488355328)
def terrierlaw17_spoil.f (l0 : List S38) : Option Unit := if spoilOk l0 = true then some () else none
/-- An element: its cells, and the two rows of bytes that are turned. -/
theorem elem_of {w : World} {b : Nat} {ok : Nat → Prop} {A : Option Addr} {n c : Nat} {l : List S38} (h : Kd.R k38 38 w b ok (.slice A n c) l) (hs : spoilOk l = true) (i : Int) (h0 : 0 ≤ i) (h1 : i < n) :
    ∃ (g : Nat) (x : S38) (A1 A2 A8 A9 : Option Addr) (c1 c2 c8 c9 : Nat), A = some ⟨g, 0, none⟩ ∧ b ≤ g ∧ Byt b w A1 x.f1.f0.length ∧ Byt b w A9 x.f3.f1.length ∧ (x.f1.f0.length < 140737488355328 ∧ x.f3.f1.length < 140737488355328) ∧
      ∀ (j : Nat) (u : Value), ([.int .i64 x.f0, .slice A1 x.f1.f0.length c1, .slice A2 x.f1.f1.length c2, .int .i64 x.f1.f2, .int .i64 x.f1.f3, .int .i64 x.f1.f4, .int .i64 x.f1.f5, .bool x.f2, .slice A8 x.f3.f0.length c8, .slice A9 x.f3.f1.length c9, .int .i64 x.f3.f2, .int .i64 x.f3.f3, .int .i64 x.f3.f4, .int .i64 x.f3.f5] : List Value)[j]? = some u → w.cell? ⟨g, i.toNat * 14 + j, none⟩ = some u := by
  have hn := (Kd.R_reads' h).1
  obtain ⟨g, cap, he, hg, _⟩ := Kd.R_form h (by omega)
  injection he with hA _ hc
  subst hA
  subst hc
  obtain ⟨cs, hl, hM, hcell, hfr⟩ := Kd.R_elem h z38 i h0 h1
  have hx : l.getD i.toNat z38 ∈ l := by
    rw [List.getD_eq_getElem?_getD, List.getElem?_eq_getElem (show i.toNat < l.length by omega)]
    exact List.getElem_mem _
  simp only [spoilOk, Bool.and_eq_true, List.all_eq_true, decide_eq_true_eq] at hs
  have hsx := hs.2 _ hx
  generalize l.getD i.toNat z38 = x at hM hsx
  obtain ⟨v1, v2, v8, v9, rfl, r1, r2, r8, r9⟩ := k38_openM hM
  obtain ⟨A1, c1, rfl, b1⟩ := byt_of r1
  obtain ⟨A2, c2, rfl⟩ := Kd.R_slice r2
  obtain ⟨A8, c8, rfl⟩ := Kd.R_slice r8
  obtain ⟨A9, c9, rfl, b9⟩ := byt_of r9
  exact ⟨g, x, A1, A2, A8, A9, c1, c2, c8, c9, rfl, hg, b1, b9, hsx, hcell⟩
set_option maxHeartbeats 8000000 in
set_option maxRecDepth 100000 in
theorem terrierlaw17_spoil.calls (l : List S38) (A : Option Addr) (c : Nat) (w : World) (b : Nat) (ok : Nat → Prop) (hr : Kd.R k38 38 w b ok (.slice A l.length c) l) (hbw : b ≤ w.heap.size) {u : Unit} (h : terrierlaw17_spoil.f l = some u) :
    Calls Try.prog 14 #[.slice A l.length c] w fun e w' => e = .returned (.tuple #[]) ∧ Below b w w' := by
  have hu38 := Try.underlying38
  have HR := Aside0.mk hr
  have HBW := Aside0.mk hbw
  have hs : spoilOk l = true := by
    unfold terrierlaw17_spoil.f at h
    by_cases c : spoilOk l = true
    · exact c
    · rw [if_neg c] at h; cases h
  have hl : l.length < 140737488355328 := by
    have h1 := hs
    simp only [spoilOk, Bool.and_eq_true, decide_eq_true_eq] at h1
    exact h1.1
  clear hr hbw h
  have HS := Aside0.mk (Spt.refl b w)
  go_enter Try.func14, Try.ntmps14
  go_wp2
  repeat (go_quiet (fail); try go_wp2)
  go_loopg [8] l.length (fun kq v8 w' => ∃ (x8 : Int), v8 = .int .i64 x8 ∧ Aside0 (0 ≤ x8 ∧ x8 + kq = l.length) ∧ Aside0 (Spt b w w'))
  case atStart => exact ⟨0, (by first | rfl | (simp; done) | (simp [*]; done)), ⟨by omega⟩, ⟨by exact Spt.n HS.out HBW.out⟩⟩
  case round =>
   clear HS
   obtain ⟨x8, rfl, HX, HS⟩ := hrel
   by_cases c3 : x8 < (l.length : Int)
   ·
    have c3b0 := decide_eq_true c3; have c3b1 := decide_eq_true HX.out.1; have c3b2 := eq_true c3; have c3b3 := eq_true HX.out.1
    obtain ⟨g, x, A1, A2, A8, A9, c1, c2, c8, c9, rfl, hg, b1, b9, hlen, hcs⟩ := elem_of HR.out hs x8 HX.out.1 c3
    have hx0 := HS.out.fix (hcs 0 _ rfl) (by intro m h; cases h); have hx1 := HS.out.fix (hcs 1 _ rfl) (by intro m h; cases h); have hx2 := HS.out.fix (hcs 2 _ rfl) (by intro m h; cases h); have hx3 := HS.out.fix (hcs 3 _ rfl) (by intro m h; cases h); have hx4 := HS.out.fix (hcs 4 _ rfl) (by intro m h; cases h); have hx5 := HS.out.fix (hcs 5 _ rfl) (by intro m h; cases h); have hx6 := HS.out.fix (hcs 6 _ rfl) (by intro m h; cases h); have hx7 := HS.out.fix (hcs 7 _ rfl) (by intro m h; cases h); have hx8 := HS.out.fix (hcs 8 _ rfl) (by intro m h; cases h); have hx9 := HS.out.fix (hcs 9 _ rfl) (by intro m h; cases h); have hx10 := HS.out.fix (hcs 10 _ rfl) (by intro m h; cases h); have hx11 := HS.out.fix (hcs 11 _ rfl) (by intro m h; cases h); have hx12 := HS.out.fix (hcs 12 _ rfl) (by intro m h; cases h); have hx13 := HS.out.fix (hcs 13 _ rfl) (by intro m h; cases h)
    go_wp2_with (first | ((with_reducible refine gate_dst (N := 11) rfl ?_); (try (refine gate_guard (by rfl) ?_; dsimp only)); refine Ext.struct_load (hgd := ?hg) (t := 38) (x := ?vx_11) (ho := ?ho) (cs := [.int .i64 x.f0, .slice A1 x.f1.f0.length c1, .slice A2 x.f1.f1.length c2, .int .i64 x.f1.f2, .int .i64 x.f1.f3, .int .i64 x.f1.f4, .int .i64 x.f1.f5, .bool x.f2, .slice A8 x.f3.f0.length c8, .slice A9 x.f3.f1.length c9, .int .i64 x.f3.f2, .int .i64 x.f3.f3, .int .i64 x.f3.f4, .int .i64 x.f3.f5]) (haddr := ?ha) hu38 rfl (by kernel_rfl) ⟨hx0, hx1, hx2, hx3, hx4, hx5, hx6, hx7, hx8, hx9, hx10, hx11, hx12, hx13, trivial⟩ ?_; (case ho => rfl); (case hg => rfl); (case ha => rfl)) | ((with_reducible refine gate_dst (N := 3) rfl ?_); (try (refine gate_guard (by rfl) ?_; dsimp only)); refine Ext.alloc_event (hgd := ?hg) (N := 3) (_hd := ?hd) (t := 38) (ho := ?ho) info38 ?_; (case ho => rfl); (case hd => rfl); (case hg => rfl); intro gb hg w7 hbox hb; have BK := Ext.a (hbox); have GE := Ext.gw hg (Spt.n HS.out HBW.out).1.size; replace HS := Ext.a ((Spt.n HS.out HBW.out).below HBW.out hb); clear hb hbox hg) | ((with_reducible refine gate_store (t := 38) (p := 3) rfl ?_); refine Ext.struct_store (hgd := ?hg) (hN := ?hn) (t := 38) (p := .tmp 3) (x := ?vo_w9) (ho := ?ho) (cells := #[.int .i64 x.f0, .slice A1 x.f1.f0.length c1, .slice A2 x.f1.f1.length c2, .int .i64 x.f1.f2, .int .i64 x.f1.f3, .int .i64 x.f1.f4, .int .i64 x.f1.f5, .bool x.f2, .slice A8 x.f3.f0.length c8, .slice A9 x.f3.f1.length c9, .int .i64 x.f3.f2, .int .i64 x.f3.f3, .int .i64 x.f3.f4, .int .i64 x.f3.f5]) (haddr := ?ha) (hx := ?hx) BK.out rfl (by kernel_rfl) rfl ?_; (case ho => rfl); (case hg => rfl); (case hn => rfl); (case ha => rfl); (case hx => first | rfl | (go_simp; done)); intro w9 hx_ hk_ hbl_; replace BK := Ext.a (hx_); replace HS := Ext.a ((Spt.n HS.out HBW.out).keep hk_ (hbl_ _ _ (Spt.n HS.out HBW.out).1 (Nat.le_trans HBW.out GE.out)) GE.out); clear hx_ hk_ hbl_; have hcz := Ext.cells14 BK.out; have hfz := Ext.froz14 BK.out))
    clear hx0 hx1 hx2 hx3 hx4 hx5 hx6 hx7 hx8 hx9 hx10 hx11 hx12 hx13
    go_loopg [16] x.f1.f0.length (fun kq v16 w' => ∃ (y1 : Int), v16 = .int .i64 y1 ∧ Aside0 (0 ≤ y1 ∧ y1 + kq = x.f1.f0.length) ∧ Aside0 (w'.heap[gb]? = some (.cells #[.int .i64 x.f0, .slice A1 x.f1.f0.length c1, .slice A2 x.f1.f1.length c2, .int .i64 x.f1.f2, .int .i64 x.f1.f3, .int .i64 x.f1.f4, .int .i64 x.f1.f5, .bool x.f2, .slice A8 x.f3.f0.length c8, .slice A9 x.f3.f1.length c9, .int .i64 x.f3.f2, .int .i64 x.f3.f3, .int .i64 x.f3.f4, .int .i64 x.f3.f5] 38 (0, 0))) ∧ Aside0 (Spt b w w'))
    case atStart => exact ⟨0, (by first | rfl | (simp; done) | (simp [*]; done)), ⟨by omega⟩, ⟨by exact BK.out⟩, ⟨by exact Spt.n HS.out HBW.out⟩⟩
    case round =>
     clear BK HS hcz hfz
     obtain ⟨y1, rfl, HY1, BK, HS⟩ := hrel
     have hcz := Ext.cells14 BK.out; have hfz := Ext.froz14 BK.out
     by_cases d1 : y1 < (x.f1.f0.length : Int)
     ·
      have d1b := decide_eq_true d1; have e1b := decide_eq_true HY1.out.1; have d1c := eq_true d1; have e1c := eq_true HY1.out.1
      obtain ⟨g1, m1, rfl, hg1, hc0, hf0⟩ := b1 y1 HY1.out.1 d1
      obtain ⟨n1, hc1, hf1⟩ := HS.out.byte hc0 hf0
      have hne : gb ≠ g1 := by have h1_ : g1 < w.heap.size := World.block_lt_of_cell? w _ hc0; have h2_ := GE.out; omega
      go_wp2
      go_roundg (x.f1.f0.length - y1.toNat - 1)
      case measure => have := HY1.out; omega
      case rel => exact ⟨wrap64 (y1 + 1), (by first | rfl | (simp; done) | (simp [*]; done)), ⟨by have := HY1.out; unfold wrap64; omega⟩, ⟨by exact blk_turn BK.out hne⟩, ⟨by exact HS.out.turn HBW.out hc1 hg1⟩⟩
     ·
      have d1b := decide_eq_false d1
      go_wp2
      go_loopg [32] x.f3.f1.length (fun kq v32 w' => ∃ (y2 : Int), v32 = .int .i64 y2 ∧ Aside0 (0 ≤ y2 ∧ y2 + kq = x.f3.f1.length) ∧ Aside0 (w'.heap[gb]? = some (.cells #[.int .i64 x.f0, .slice A1 x.f1.f0.length c1, .slice A2 x.f1.f1.length c2, .int .i64 x.f1.f2, .int .i64 x.f1.f3, .int .i64 x.f1.f4, .int .i64 x.f1.f5, .bool x.f2, .slice A8 x.f3.f0.length c8, .slice A9 x.f3.f1.length c9, .int .i64 x.f3.f2, .int .i64 x.f3.f3, .int .i64 x.f3.f4, .int .i64 x.f3.f5] 38 (0, 0))) ∧ Aside0 (Spt b w w'))
      case atStart => exact ⟨0, (by first | rfl | (simp; done) | (simp [*]; done)), ⟨by omega⟩, ⟨by exact BK.out⟩, ⟨by exact Spt.n HS.out HBW.out⟩⟩
      case round =>
       clear BK HS hcz hfz
       obtain ⟨y2, rfl, HY2, BK, HS⟩ := hrel
       have hcz := Ext.cells14 BK.out; have hfz := Ext.froz14 BK.out
       by_cases d2 : y2 < (x.f3.f1.length : Int)
       ·
        have d2b := decide_eq_true d2; have e2b := decide_eq_true HY2.out.1; have d2c := eq_true d2; have e2c := eq_true HY2.out.1
        obtain ⟨g2, m2, rfl, hg2, hc0, hf0⟩ := b9 y2 HY2.out.1 d2
        obtain ⟨n2, hc1, hf1⟩ := HS.out.byte hc0 hf0
        have hne : gb ≠ g2 := by have h1_ : g2 < w.heap.size := World.block_lt_of_cell? w _ hc0; have h2_ := GE.out; omega
        go_wp2
        go_roundg (x.f3.f1.length - y2.toNat - 1)
        case measure => have := HY2.out; omega
        case rel => exact ⟨wrap64 (y2 + 1), (by first | rfl | (simp; done) | (simp [*]; done)), ⟨by have := HY2.out; unfold wrap64; omega⟩, ⟨by exact blk_turn BK.out hne⟩, ⟨by exact HS.out.turn HBW.out hc1 hg2⟩⟩
       ·
        have d2b := decide_eq_false d2
        go_wp2
        go_roundg (l.length - x8.toNat - 1)
        case measure => have := HX.out; omega
        case rel => exact ⟨wrap64 (x8 + 1), (by first | rfl | (simp; done) | (simp [*]; done)), ⟨by have := HX.out; unfold wrap64; omega⟩, ⟨by exact Spt.n HS.out HBW.out⟩⟩
   ·
    have c3b0 := decide_eq_false c3
    go_wp2
    first | go_end0 | ((try simp only [Exit.inBlock, Exit.then]); refine bodyPost_ret (results_none rfl _ _ _) rfl ?_)
    exact ⟨by first | rfl | (simp; done), (Spt.n HS.out HBW.out).1⟩
theorem terrierlaw17_spoil.at {l : List S38} {A : Option Addr} {c : Nat} {w1 W : World} {b : Nat} {ok : Nat → Prop} (hr : Kd.R k38 38 w1 b ok (.slice A l.length c) l) (hbw : b ≤ w1.heap.size) {u : Unit} (h : terrierlaw17_spoil.f l = some u) [k : Ext.Later w1 W] :
    Calls Try.prog 14 #[.slice A l.length c] W fun e w' => e = .returned (.tuple #[]) ∧ Below b W w' :=
  terrierlaw17_spoil.calls l A c W b ok (Kd.R_below hr k.out) (Nat.le_trans hbw k.out.size) h
end Go.Proofs.Ytdakdlgkhnjhoaa.PA
