/- A part of the proof of the seat's rows, said of the kit's own model: what a request's memory holds. Conditions: as each theorem says. -/
import Derived.Test.YthhhklmdceieaaaCd18
namespace Go.Ab
open Go Go.Proofs Go.RowKit
set_option linter.unusedVariables false
set_option linter.unusedSimpArgs false
set_option maxRecDepth 100000
def okI (n : Int) : Prop := (Lit.int .i64 n).wf = true
def okT (l : List Int) : Prop := okSlice (fun n => (Lit.int .u8 n).wf = true) 1 l
structure Qry.good (q : Qry) : Prop where
  k0 : okT q.key
  k1 : okT q.en
  k2 : okI q.at_
  k3 : okI q.lim
  k4 : okI q.sort
  k8 : okI q.minM
  k9 : okI q.maxM
  k10 : okI q.minC
  k11 : okI q.maxC
structure Wri.good (q : Wri) : Prop where
  k0 : okT q.key
  k1 : okT q.val
  k2 : okI q.lease
structure Ers.good (q : Ers) : Prop where
  k0 : okT q.key
  k1 : okT q.en
structure Wat.good (q : Wat) : Prop where
  k0 : okT q.key
  k1 : okT q.en
  k2 : okI q.start
structure Tst.good (q : Tst) : Prop where
  k0 : okT q.key
  k1 : okI q.of
  k2 : okI q.way
  k3 : okI q.n
  k4 : okT q.val
structure Opr.good (o : Opr) : Prop where
  k0 : okI o.kind
  k1 : o.q.good
  k2 : o.w.good
  k3 : o.e.good
structure Mul where
  ifs : List Tst
  thn : List Opr
  els : List Opr
def Mul.av (x : Mul) : List AV := mul x.ifs x.thn x.els
structure Mul.good (x : Mul) : Prop where
  k0 : okSlice Tst.good 72 x.ifs
  k1 : okSlice Opr.good 240 x.thn
  k2 : okSlice Opr.good 240 x.els
structure Req.good (r : Req) : Prop where
  k0 : okI r.kind
  k1 : r.q.good
  k2 : r.w.good
  k3 : r.e.good
  k4 : Mul.good ⟨r.ifs, r.thn, r.els⟩
  k5 : r.wa.good
  k6 : okI r.rev
  k7 : okI r.id
  k8 : okI r.ttl
theorem o2 : Opens Try.prog 2 (fun n : Int => [pi n]) okI := opens_int Try.underlying2
theorem o3 : Opens Try.prog 3 (fun n : Int => [pi n]) okI := opens_int Try.underlying3
theorem o4 : Opens Try.prog 4 (fun b : Bool => [pb b]) (fun _ => True) := opens_bool Try.underlying4
theorem o5 : Opens Try.prog 5 (fun n : Int => [.v (.int .u8 n)]) (fun n => (Lit.int .u8 n).wf = true) := opens_int Try.underlying5
theorem o22 : Opens Try.prog 22 (fun l : List Int => [.row 1 (byts l)]) okT := opens_slice (sz := 1) (B := 1) Try.underlying22 o5 (by kernel_rfl) (fun _ => rfl) (by omega) (by kernel_rfl)
theorem o24 : Opens Try.prog 24 Qry.av Qry.good := by
  intro H en W base spare held fuel cs x h hw
  obtain ⟨xs, n, _, rfl, hl, hlen, hf⟩ := DataW.trod_struct Try.underlying24 h
  obtain ⟨a0, v0, g0⟩ := field_at (i := 0) (o := 0) (s := 1) Try.underlying24 rfl o22 (by kernel_rfl) rfl hlen hf hw
  obtain ⟨a1, v1, g1⟩ := field_at (i := 1) (o := 1) (s := 1) Try.underlying24 rfl o22 (by kernel_rfl) rfl hlen hf hw
  obtain ⟨a2, v2, g2⟩ := field_at (i := 2) (o := 2) (s := 1) Try.underlying24 rfl o2 (by kernel_rfl) rfl hlen hf hw
  obtain ⟨a3, v3, g3⟩ := field_at (i := 3) (o := 3) (s := 1) Try.underlying24 rfl o2 (by kernel_rfl) rfl hlen hf hw
  obtain ⟨a4, v4, g4⟩ := field_at (i := 4) (o := 4) (s := 1) Try.underlying24 rfl o3 (by kernel_rfl) rfl hlen hf hw
  obtain ⟨a5, v5, g5⟩ := field_at (i := 5) (o := 5) (s := 1) Try.underlying24 rfl o4 (by kernel_rfl) rfl hlen hf hw
  obtain ⟨a6, v6, g6⟩ := field_at (i := 6) (o := 6) (s := 1) Try.underlying24 rfl o4 (by kernel_rfl) rfl hlen hf hw
  obtain ⟨a7, v7, g7⟩ := field_at (i := 7) (o := 7) (s := 1) Try.underlying24 rfl o4 (by kernel_rfl) rfl hlen hf hw
  obtain ⟨a8, v8, g8⟩ := field_at (i := 8) (o := 8) (s := 1) Try.underlying24 rfl o2 (by kernel_rfl) rfl hlen hf hw
  obtain ⟨a9, v9, g9⟩ := field_at (i := 9) (o := 9) (s := 1) Try.underlying24 rfl o2 (by kernel_rfl) rfl hlen hf hw
  obtain ⟨a10, v10, g10⟩ := field_at (i := 10) (o := 10) (s := 1) Try.underlying24 rfl o2 (by kernel_rfl) rfl hlen hf hw
  obtain ⟨a11, v11, g11⟩ := field_at (i := 11) (o := 11) (s := 1) Try.underlying24 rfl o2 (by kernel_rfl) rfl hlen hf hw
  have hc : cs.length = 12 := hl.trans (by kernel_rfl)
  have p11 := last_piece hc v11
  have p10 := piece (o' := 11) rfl v10 p11
  have p9 := piece (o' := 10) rfl v9 p10
  have p8 := piece (o' := 9) rfl v8 p9
  have p7 := piece (o' := 8) rfl v7 p8
  have p6 := piece (o' := 7) rfl v6 p7
  have p5 := piece (o' := 6) rfl v5 p6
  have p4 := piece (o' := 5) rfl v4 p5
  have p3 := piece (o' := 4) rfl v3 p4
  have p2 := piece (o' := 3) rfl v2 p3
  have p1 := piece (o' := 2) rfl v1 p2
  have p0 := piece (o' := 1) rfl v0 p1
  exact ⟨⟨a0, a1, a2, a3, a4, a5, a6, a7, a8, a9, a10, a11⟩, p0, ⟨g0, g1, g2, g3, g4, g8, g9, g10, g11⟩⟩
theorem o26 : Opens Try.prog 26 Wri.av Wri.good := by
  intro H en W base spare held fuel cs x h hw
  obtain ⟨xs, n, _, rfl, hl, hlen, hf⟩ := DataW.trod_struct Try.underlying26 h
  obtain ⟨a0, v0, g0⟩ := field_at (i := 0) (o := 0) (s := 1) Try.underlying26 rfl o22 (by kernel_rfl) rfl hlen hf hw
  obtain ⟨a1, v1, g1⟩ := field_at (i := 1) (o := 1) (s := 1) Try.underlying26 rfl o22 (by kernel_rfl) rfl hlen hf hw
  obtain ⟨a2, v2, g2⟩ := field_at (i := 2) (o := 2) (s := 1) Try.underlying26 rfl o2 (by kernel_rfl) rfl hlen hf hw
  obtain ⟨a3, v3, g3⟩ := field_at (i := 3) (o := 3) (s := 1) Try.underlying26 rfl o4 (by kernel_rfl) rfl hlen hf hw
  have hc : cs.length = 4 := hl.trans (by kernel_rfl)
  have p3 := last_piece hc v3
  have p2 := piece (o' := 3) rfl v2 p3
  have p1 := piece (o' := 2) rfl v1 p2
  have p0 := piece (o' := 1) rfl v0 p1
  exact ⟨⟨a0, a1, a2, a3⟩, p0, ⟨g0, g1, g2⟩⟩
theorem o28 : Opens Try.prog 28 Ers.av Ers.good := by
  intro H en W base spare held fuel cs x h hw
  obtain ⟨xs, n, _, rfl, hl, hlen, hf⟩ := DataW.trod_struct Try.underlying28 h
  obtain ⟨a0, v0, g0⟩ := field_at (i := 0) (o := 0) (s := 1) Try.underlying28 rfl o22 (by kernel_rfl) rfl hlen hf hw
  obtain ⟨a1, v1, g1⟩ := field_at (i := 1) (o := 1) (s := 1) Try.underlying28 rfl o22 (by kernel_rfl) rfl hlen hf hw
  obtain ⟨a2, v2, g2⟩ := field_at (i := 2) (o := 2) (s := 1) Try.underlying28 rfl o4 (by kernel_rfl) rfl hlen hf hw
  have hc : cs.length = 3 := hl.trans (by kernel_rfl)
  have p2 := last_piece hc v2
  have p1 := piece (o' := 2) rfl v1 p2
  have p0 := piece (o' := 1) rfl v0 p1
  exact ⟨⟨a0, a1, a2⟩, p0, ⟨g0, g1⟩⟩
theorem o34 : Opens Try.prog 34 Wat.av Wat.good := by
  intro H en W base spare held fuel cs x h hw
  obtain ⟨xs, n, _, rfl, hl, hlen, hf⟩ := DataW.trod_struct Try.underlying34 h
  obtain ⟨a0, v0, g0⟩ := field_at (i := 0) (o := 0) (s := 1) Try.underlying34 rfl o22 (by kernel_rfl) rfl hlen hf hw
  obtain ⟨a1, v1, g1⟩ := field_at (i := 1) (o := 1) (s := 1) Try.underlying34 rfl o22 (by kernel_rfl) rfl hlen hf hw
  obtain ⟨a2, v2, g2⟩ := field_at (i := 2) (o := 2) (s := 1) Try.underlying34 rfl o2 (by kernel_rfl) rfl hlen hf hw
  obtain ⟨a3, v3, g3⟩ := field_at (i := 3) (o := 3) (s := 1) Try.underlying34 rfl o4 (by kernel_rfl) rfl hlen hf hw
  obtain ⟨a4, v4, g4⟩ := field_at (i := 4) (o := 4) (s := 1) Try.underlying34 rfl o4 (by kernel_rfl) rfl hlen hf hw
  obtain ⟨a5, v5, g5⟩ := field_at (i := 5) (o := 5) (s := 1) Try.underlying34 rfl o4 (by kernel_rfl) rfl hlen hf hw
  have hc : cs.length = 6 := hl.trans (by kernel_rfl)
  have p5 := last_piece hc v5
  have p4 := piece (o' := 5) rfl v4 p5
  have p3 := piece (o' := 4) rfl v3 p4
  have p2 := piece (o' := 3) rfl v2 p3
  have p1 := piece (o' := 2) rfl v1 p2
  have p0 := piece (o' := 1) rfl v0 p1
  exact ⟨⟨a0, a1, a2, a3, a4, a5⟩, p0, ⟨g0, g1, g2⟩⟩
theorem o56 : Opens Try.prog 56 Tst.av Tst.good := by
  intro H en W base spare held fuel cs x h hw
  obtain ⟨xs, n, _, rfl, hl, hlen, hf⟩ := DataW.trod_struct Try.underlying56 h
  obtain ⟨a0, v0, g0⟩ := field_at (i := 0) (o := 0) (s := 1) Try.underlying56 rfl o22 (by kernel_rfl) rfl hlen hf hw
  obtain ⟨a1, v1, g1⟩ := field_at (i := 1) (o := 1) (s := 1) Try.underlying56 rfl o3 (by kernel_rfl) rfl hlen hf hw
  obtain ⟨a2, v2, g2⟩ := field_at (i := 2) (o := 2) (s := 1) Try.underlying56 rfl o3 (by kernel_rfl) rfl hlen hf hw
  obtain ⟨a3, v3, g3⟩ := field_at (i := 3) (o := 3) (s := 1) Try.underlying56 rfl o2 (by kernel_rfl) rfl hlen hf hw
  obtain ⟨a4, v4, g4⟩ := field_at (i := 4) (o := 4) (s := 1) Try.underlying56 rfl o22 (by kernel_rfl) rfl hlen hf hw
  have hc : cs.length = 5 := hl.trans (by kernel_rfl)
  have p4 := last_piece hc v4
  have p3 := piece (o' := 4) rfl v3 p4
  have p2 := piece (o' := 3) rfl v2 p3
  have p1 := piece (o' := 2) rfl v1 p2
  have p0 := piece (o' := 1) rfl v0 p1
  exact ⟨⟨a0, a1, a2, a3, a4⟩, p0, ⟨g0, g1, g2, g3, g4⟩⟩
theorem o59 : Opens Try.prog 59 Opr.av Opr.good := by
  intro H en W base spare held fuel cs x h hw
  obtain ⟨xs, n, _, rfl, hl, hlen, hf⟩ := DataW.trod_struct Try.underlying59 h
  obtain ⟨a0, v0, g0⟩ := field_at (i := 0) (o := 0) (s := 1) Try.underlying59 rfl o3 (by kernel_rfl) rfl hlen hf hw
  obtain ⟨a1, v1, g1⟩ := field_at (i := 1) (o := 1) (s := 12) Try.underlying59 rfl o24 (by kernel_rfl) rfl hlen hf hw
  obtain ⟨a2, v2, g2⟩ := field_at (i := 2) (o := 13) (s := 4) Try.underlying59 rfl o26 (by kernel_rfl) rfl hlen hf hw
  obtain ⟨a3, v3, g3⟩ := field_at (i := 3) (o := 17) (s := 3) Try.underlying59 rfl o28 (by kernel_rfl) rfl hlen hf hw
  have hc : cs.length = 20 := hl.trans (by kernel_rfl)
  have p3 := last_piece hc v3
  have p2 := piece (o' := 17) rfl v2 p3
  have p1 := piece (o' := 13) rfl v1 p2
  have p0 := piece (o' := 1) rfl v0 p1
  exact ⟨⟨a0, a1, a2, a3⟩, p0, ⟨g0, g1, g2, g3⟩⟩
theorem o29 : Opens Try.prog 29 (fun l : List Tst => [.row 5 (l.map Tst.av)]) (okSlice Tst.good 72) := opens_slice (sz := 5) Try.underlying29 o56 (by kernel_rfl) (fun _ => rfl) (by omega) (by kernel_rfl)
theorem o30 : Opens Try.prog 30 (fun l : List Opr => [.row 20 (l.map Opr.av)]) (okSlice Opr.good 240) := opens_slice (sz := 20) Try.underlying30 o59 (by kernel_rfl) (fun _ => rfl) (by omega) (by kernel_rfl)
theorem o32 : Opens Try.prog 32 Mul.av Mul.good := by
  intro H en W base spare held fuel cs x h hw
  obtain ⟨xs, n, _, rfl, hl, hlen, hf⟩ := DataW.trod_struct Try.underlying32 h
  obtain ⟨a0, v0, g0⟩ := field_at (i := 0) (o := 0) (s := 1) Try.underlying32 rfl o29 (by kernel_rfl) rfl hlen hf hw
  obtain ⟨a1, v1, g1⟩ := field_at (i := 1) (o := 1) (s := 1) Try.underlying32 rfl o30 (by kernel_rfl) rfl hlen hf hw
  obtain ⟨a2, v2, g2⟩ := field_at (i := 2) (o := 2) (s := 1) Try.underlying32 rfl o30 (by kernel_rfl) rfl hlen hf hw
  have hc : cs.length = 3 := hl.trans (by kernel_rfl)
  have p2 := last_piece hc v2
  have p1 := piece (o' := 2) rfl v1 p2
  have p0 := piece (o' := 1) rfl v0 p1
  exact ⟨⟨a0, a1, a2⟩, p0, ⟨g0, g1, g2⟩⟩
theorem o36 : Opens Try.prog 36 Req.av Req.good := by
  intro H en W base spare held fuel cs x h hw
  obtain ⟨xs, n, _, rfl, hl, hlen, hf⟩ := DataW.trod_struct Try.underlying36 h
  obtain ⟨a0, v0, g0⟩ := field_at (i := 0) (o := 0) (s := 1) Try.underlying36 rfl o3 (by kernel_rfl) rfl hlen hf hw
  obtain ⟨a1, v1, g1⟩ := field_at (i := 1) (o := 1) (s := 12) Try.underlying36 rfl o24 (by kernel_rfl) rfl hlen hf hw
  obtain ⟨a2, v2, g2⟩ := field_at (i := 2) (o := 13) (s := 4) Try.underlying36 rfl o26 (by kernel_rfl) rfl hlen hf hw
  obtain ⟨a3, v3, g3⟩ := field_at (i := 3) (o := 17) (s := 3) Try.underlying36 rfl o28 (by kernel_rfl) rfl hlen hf hw
  obtain ⟨a4, v4, g4⟩ := field_at (i := 4) (o := 20) (s := 3) Try.underlying36 rfl o32 (by kernel_rfl) rfl hlen hf hw
  obtain ⟨a5, v5, g5⟩ := field_at (i := 5) (o := 23) (s := 6) Try.underlying36 rfl o34 (by kernel_rfl) rfl hlen hf hw
  obtain ⟨a6, v6, g6⟩ := field_at (i := 6) (o := 29) (s := 1) Try.underlying36 rfl o2 (by kernel_rfl) rfl hlen hf hw
  obtain ⟨a7, v7, g7⟩ := field_at (i := 7) (o := 30) (s := 1) Try.underlying36 rfl o2 (by kernel_rfl) rfl hlen hf hw
  obtain ⟨a8, v8, g8⟩ := field_at (i := 8) (o := 31) (s := 1) Try.underlying36 rfl o2 (by kernel_rfl) rfl hlen hf hw
  have hc : cs.length = 32 := hl.trans (by kernel_rfl)
  have p8 := last_piece hc v8
  have p7 := piece (o' := 31) rfl v7 p8
  have p6 := piece (o' := 30) rfl v6 p7
  have p5 := piece (o' := 29) rfl v5 p6
  have p4 := piece (o' := 23) rfl v4 p5
  have p3 := piece (o' := 20) rfl v3 p4
  have p2 := piece (o' := 17) rfl v2 p3
  have p1 := piece (o' := 13) rfl v1 p2
  have p0 := piece (o' := 1) rfl v0 p1
  exact ⟨⟨a0, a1, a2, a3, a4.ifs, a4.thn, a4.els, a5, a6, a7, a8⟩, p0, ⟨g0, g1, g2, g3, g4, g5, g6, g7, g8⟩⟩
end Go.Ab
