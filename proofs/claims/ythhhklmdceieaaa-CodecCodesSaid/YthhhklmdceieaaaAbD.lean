/- A part of the proof of the seat's rows, said of the kit's own model: regions that draw their order. Conditions: as each theorem says. -/
import Derived.Test.YthhhklmdceieaaaAbA
namespace Go.Ab
open Go Go.RowKit
set_option linter.unusedVariables false
set_option linter.unusedSimpArgs false

theorem partsA_congr {s s' : St} : ∀ {l : List (Nat × Operand)}, (∀ x ∈ l.map (·.2), look s' x = look s x) → partsA s' l = partsA s l
  | [], _ => rfl
  | (i, x) :: l, h => by
    simp only [partsA]
    rw [h x (by simp), partsA_congr (fun y hy => h y (by simp at hy ⊢; exact .inr hy))]
theorem argsA_congr {s s' : St} : ∀ {l : List Operand}, (∀ x ∈ l, look s' x = look s x) → argsA s' l = argsA s l
  | [], _ => rfl
  | x :: l, h => by
    simp only [argsA]
    rw [h x (by simp), argsA_congr (fun y hy => h y (by simp [hy]))]
/-- What an operation that looks depends on. -/
theorem vop_congr {P : Program} {s s' : St} (op : Op) (h : ∀ x ∈ op.operands.toList, look s' x = look s x)
    (hl : ∀ t x, op = .load t x → ∀ b off, look s x = some (.v (.pointer (some ⟨b, off, none⟩))) → s'.σ.vars b = s.σ.vars b) : vop P s' op = vop P s op := by
  cases op with
  | build t parts => simp only [vop]; rw [partsA_congr (fun x hx => h x (by simpa [Op.operands] using hx))]
  | buildSlice t n parts => simp only [vop]; rw [partsA_congr (fun x hx => h x (by simpa [Op.operands] using hx))]
  | load t x =>
    simp only [vop, rop]
    rw [h x (by simp [Op.operands])]
    cases hx : look s x with
    | none => rfl
    | some v =>
      simp only [Option.bind_some]
      unfold loadA
      split
      · rfl
      · rename_i b off
        rw [hl t x rfl b off hx]
      · rfl
  | move x => simp only [vop, rop]; exact h x (by simp [Op.operands])
  | assign x => simp only [vop, rop]; exact h x (by simp [Op.operands])
  | pick a b c => simp only [vop, rop]; rw [h a (by simp [Op.operands]), h b (by simp [Op.operands]), h c (by simp [Op.operands])]
  | nilCheck x => simp only [vop, rop]; rw [h x (by simp [Op.operands])]
  | binOp op t x y u => simp only [vop, rop]; rw [h x (by simp [Op.operands]), h y (by simp [Op.operands])]
  | unOp op t x => simp only [vop, rop]; rw [h x (by simp [Op.operands])]
  | convert a b x => simp only [vop, rop]; rw [h x (by simp [Op.operands])]
  | fieldAddr t x f => simp only [vop, rop]; rw [h x (by simp [Op.operands])]
  | field t x f => simp only [vop, rop]; rw [h x (by simp [Op.operands])]
  | indexAddr t x i => simp only [vop, rop]; rw [h x (by simp [Op.operands]), h i (by simp [Op.operands])]
  | extract x i => simp only [vop, rop]; rw [h x (by simp [Op.operands])]
  | slice t x lo hi mx =>
    simp only [vop, rop]
    rw [h x (by simp [Op.operands])]
    have e1 : intO s' lo = intO s lo := by
      cases lo with
      | none => rfl
      | some z => simp only [intO]; rw [h z (by simp [Op.operands])]
    have e2 : intO s' hi = intO s hi := by
      cases hi with
      | none => rfl
      | some z => simp only [intO]; rw [h z (by simp [Op.operands])]
    rw [e1, e2]
  | call c =>
    obtain ⟨cl, args, ts⟩ := c
    cases cl with
    | builtin b =>
      cases b <;> try rfl
      · simp only [vop, rop]
        split
        · rename_i x t hx ht
          rw [h x (by simp [Op.operands, Call.operands, hx])]
        · rfl
      · simp only [vop, rop]
        split
        · rename_i x y hx
          rw [h x (by simp [Op.operands, Call.operands, hx]), h y (by simp [Op.operands, Call.operands, hx])]
        · rfl
    | _ => rfl
  | _ => rfl

/-! ### regions that draw their order -/
/-- What a load reads of what is written to. -/
def readOf (s : St) (i : Nat) (o : Oper) : List (Nat × Nat) :=
  match o.op with
  | .load _ x => match look s x with | some (.v (.pointer (some ⟨b, _, none⟩))) => [(i, b)] | _ => []
  | _ => []
def dep (o : Oper) (i : Nat) : Bool := o.after.any fun e => Region.binds .any e && e.on == i
/-- What was read and may be read behind as well stays. -/
def Stay (o : Oper) (rd : List (Nat × Nat)) (σ σ' : Sg) : Prop := ∀ p ∈ rd, dep o p.1 = false → σ'.vars p.2 = σ.vars p.2
theorem Stay.sub {o : Oper} {rd rd' : List (Nat × Nat)} {σ σ' : Sg} (h : Stay o rd' σ σ') (k : ∀ p ∈ rd, p ∈ rd') : Stay o rd σ σ' := fun p hp hd => h p (k p hp) hd
theorem stepVC_mono {P : Program} {ow : List Nat} {ops : Array Oper} {ob ob' : Sg → Sg → Prop} {o : Oper} {K K' : St → Prop} {s : St} (h : stepVC P ow ops ob o K s) (hk : ∀ s, K s → K' s) (ho : ∀ σ σ', ob σ σ' → ob' σ σ') : stepVC P ow ops ob' o K' s := by
  unfold stepVC at h ⊢
  refine And.intro h.1 ?_
  have h2 := h.2
  split at h2
  · exact h2.elim
  · rename_i g hg
    try rw [hg]
    refine And.intro (fun e => ?_) (fun e => hk _ (h2.2 e))
    have h3 := h2.1 e
    unfold stepG at h3 ⊢
    split at h3
    · rename_i hw
      rw [if_pos hw]
      split at h3
      · rename_i vals hv
        try rw [hv]
        exact h3.mono fun r σ' hr => ⟨ho _ _ hr.1, hk _ hr.2⟩
      · exact h3.elim
    · rename_i hw
      rw [if_neg hw]
      split at h3
      · rename_i x hx
        try rw [hx]
        exact hk _ h3
      · exact h3.elim
def aany (P : Program) (ow : List Nat) (ops : Array Oper) (K : St → Prop) : Nat → Array Bool → List (Nat × Nat) → St → Prop
  | 0, listed, rd, s => Region.ready .any ops listed = [] ∧ K s
  | n + 1, listed, rd, s => (Region.ready .any ops listed = [] → K s) ∧ ∀ i ∈ Region.ready .any ops listed, ∀ o, ops[i]? = some o → stepVC P ow ops (Stay o rd) o (aany P ow ops K n (listed.setIfInBounds i true) (if isW' ow o then rd else rd ++ readOf s i o)) s
theorem aany_sub {P : Program} {ow : List Nat} {ops : Array Oper} {K : St → Prop} : ∀ (n : Nat) {listed : Array Bool} {rd rd' : List (Nat × Nat)} {s : St}, aany P ow ops K n listed rd' s → (∀ p ∈ rd, p ∈ rd') → aany P ow ops K n listed rd s
  | 0, _, _, _, _, h, _ => h
  | n + 1, listed, rd, rd', s, h, k => ⟨h.1, fun i hi o ho => stepVC_mono (h.2 i hi o ho) (fun s' hs => aany_sub n hs (by
      intro p hp
      split at hp
      · rename_i hw; rw [if_pos hw]; exact k p hp
      · rename_i hw
        rw [if_neg hw]
        rcases List.mem_append.1 hp with h1 | h1
        · exact List.mem_append.2 (.inl (k p h1))
        · exact List.mem_append.2 (.inr h1))) (fun σ σ' hh => hh.sub k)⟩
theorem aany_sound {P : Program} {ow : List Nat} {ops : Array Oper} {Q : Exit → St → Prop} : ∀ (n : Nat) {listed : Array Bool} {rd : List (Nat × Nat)} {s : St}, aany P ow ops (Q .normal) n listed rd s →
    ∀ {B : Nat} {w0 : World} {m m' : Imm} {a : Act} {w : World}, m.le m' → Sim B w0 m' s a w → wpAny P .any ops (Lift B w0 m Q) n listed a w
  | 0, listed, rd, s, h, B, w0, m, m', a, w, hm, hs => ⟨h.1, m', s, hm, hs, h.2⟩
  | n + 1, listed, rd, s, h, B, w0, m, m', a, w, hm, hs => ⟨fun e => ⟨m', s, hm, hs, h.1 e⟩, fun i hi => by
      obtain ⟨_, o, ho, _⟩ := mem_ready.1 hi
      exact stepVC_sound ho (h.2 i hi o ho) hs fun m2 s' a' w' k1 k2 k3 => aany_sound n k3 (Imm.le_trans hm k1) k2⟩

theorem look_put {s : St} {d : Option Nat} {x : AV} {z : Operand} (h : ∀ t, d = some t → z ≠ .tmp t) : look (s.puto d x) z = look s z := by
  cases d with
  | none => rfl
  | some t =>
    cases z with
    | tmp u =>
      have : u ≠ t := fun e => h t rfl (by rw [e])
      simp [look, St.puto, St.put, this]
    | _ => rfl
theorem look_sig {s : St} {σ : Sg} {z : Operand} : look { s with σ := σ } z = look s z := by cases z <;> rfl
theorem looksAt_op {ops : Array Oper} {o : Oper} {d : Nat} (h : d ∉ o.looksAt ops) : ∀ x ∈ o.op.operands.toList, x ≠ .tmp d := fun x hx e => h (by
  subst e
  exact List.mem_append_left _ (List.mem_filterMap.2 ⟨.tmp d, hx, rfl⟩))
theorem gate_put {ops : Array Oper} {o : Oper} {s : St} {d : Option Nat} {x : AV} {σ : Sg} (h : ∀ t, d = some t → t ∉ o.looksAt ops) : gate ops ({ s with σ := σ }.puto d x) o.guard = gate ops s o.guard := by
  unfold gate
  cases hg : o.guard with
  | none => rfl
  | some p =>
    obtain ⟨j, want⟩ := p
    simp only
    cases hd : (ops[j]?).bind (·.dst) with
    | none => rfl
    | some t =>
      simp only
      have : ({ s with σ := σ }.puto d x).fr t = s.fr t := by
        cases d with
        | none => rfl
        | some u =>
          have hne : t ≠ u := fun e => h u rfl (by simp [Oper.looksAt, hg, hd, e])
          simp [St.puto, St.put, hne]
      rw [this]
theorem puto_comm {s : St} {d e : Option Nat} {x y : AV} (h : ∀ t, d = some t → e ≠ some t) : (s.puto d x).puto e y = (s.puto e y).puto d x := by
  cases d with
  | none => rfl
  | some t =>
    cases e with
    | none => rfl
    | some u =>
      have hne : t ≠ u := fun k => h t rfl (by rw [k])
      simp only [St.puto, St.put]
      congr 1
      funext z
      by_cases e1 : z = t
      · subst e1; simp [hne]
      · simp [e1]
theorem dstOk_put {s : St} {d e : Option Nat} {x : AV} {σ : Sg} : dstOk ({ s with σ := σ }.puto d x) e = dstOk s e := by cases d <;> cases e <;> rfl
theorem sig_puto {s : St} {d : Option Nat} {x : AV} : (s.puto d x).σ = s.σ := by cases d <;> rfl
theorem puto_sig {s : St} {d : Option Nat} {x : AV} {σ : Sg} : ({ s.puto d x with σ := σ } : St) = { s with σ := σ }.puto d x := by cases d <;> rfl
/-- What one operation that looks makes of a state. -/
def After (P : Program) (ops : Array Oper) (o : Oper) (s : St) (x : AV) : Prop := dstOk s o.dst = true ∧ ((gate ops s o.guard = some true ∧ vop P s o.op = some x) ∨ (gate ops s o.guard = some false ∧ x = .v undef))
theorem After.keep {P : Program} {ops : Array Oper} {oi oj : Oper} {s : St} {x y : AV} {σ : Sg} (h : After P ops oi s x) (h3 : ∀ d, oj.dst = some d → d ∉ oi.looksAt ops)
    (hl : ∀ t z, oi.op = .load t z → ∀ b off, look s z = some (.v (.pointer (some ⟨b, off, none⟩))) → σ.vars b = s.σ.vars b) : After P ops oi ({ s with σ := σ }.puto oj.dst y) x := by
  refine ⟨by rw [dstOk_put]; exact h.1, ?_⟩
  rw [gate_put h3]
  rcases h.2 with ⟨h1, h2⟩ | h2
  · refine .inl ⟨h1, ?_⟩
    rw [← h2]
    refine vop_congr oi.op (fun z hz => ?_) (fun t z hz b off hb => ?_)
    · rw [look_put (fun t ht => looksAt_op (h3 t ht) z hz), look_sig]
    · rw [sig_puto]
      exact hl t z hz b off hb
  · exact .inr h2
theorem aany_first {P : Program} {ow : List Nat} {ops : Array Oper} {K : St → Prop} {i : Nat} {oi : Oper} (hi : ops[i]? = some oi) (hr : isW' ow oi = false) : ∀ (n : Nat) {listed : Array Bool} {rd : List (Nat × Nat)} {s : St} {x : AV},
    (∀ j oj, ops[j]? = some oj → j ≠ i → listed.getD j true = false → (∀ e ∈ oj.after, Region.binds .any e = true → e.on ≠ i) → oi.apart ops oj = true) →
    i ∈ Region.ready .any ops listed → After P ops oi s x → aany P ow ops K n (listed.setIfInBounds i true) (rd ++ readOf s i oi) (s.puto oi.dst x) → aany P ow ops K (n + 1) listed rd s := by
  intro n
  induction n with
  | zero =>
    intro listed rd s x hfree hready hx H
    refine ⟨fun h => (by rw [h] at hready; cases hready), fun j hj o ho => ?_⟩
    by_cases hji : j = i
    · subst hji
      obtain rfl : oi = o := Option.some.inj (hi.symm.trans ho)
      unfold stepVC
      refine And.intro hx.1 ?_
      rcases hx.2 with ⟨h1, h2⟩ | ⟨h1, h2⟩
      · rw [h1]
        refine And.intro (fun _ => ?_) (fun e => Bool.noConfusion e)
        unfold stepG
        rw [if_neg (by simp [hr]), h2, if_neg (by simp [hr])]
        exact H
      · rw [h1]
        refine And.intro (fun e => Bool.noConfusion e) (fun _ => ?_)
        rw [if_neg (by simp [hr]), ← h2]
        exact H
    · have := ready_mono hj hji
      rw [H.1] at this
      cases this
  | succ n ih =>
    intro listed rd s x hfree hready hx H
    refine ⟨fun h => (by rw [h] at hready; cases hready), fun j hj oj hoj => ?_⟩
    by_cases hji : j = i
    · subst hji
      obtain rfl : oi = oj := Option.some.inj (hi.symm.trans hoj)
      unfold stepVC
      refine And.intro hx.1 ?_
      rcases hx.2 with ⟨h1, h2⟩ | ⟨h1, h2⟩
      · rw [h1]
        refine And.intro (fun _ => ?_) (fun e => Bool.noConfusion e)
        unfold stepG
        rw [if_neg (by simp [hr]), h2, if_neg (by simp [hr])]
        exact H
      · rw [h1]
        refine And.intro (fun e => Bool.noConfusion e) (fun _ => ?_)
        rw [if_neg (by simp [hr]), ← h2]
        exact H
    · obtain ⟨hjun, oj', hoj', hall⟩ := mem_ready.1 hj
      obtain rfl : oj = oj' := Option.some.inj (hoj.symm.trans hoj')
      have hnot : ∀ e ∈ oj.after, Region.binds .any e = true → e.on ≠ i := fun e he hb heq => by
        have h1 := hall e he hb
        have h0 := (mem_ready.1 hready).1
        rw [heq] at h1
        rcases Nat.lt_or_ge i listed.size with h' | h'
        · simp [h'] at h0 h1; rw [h0] at h1; cases h1
        · simp [Array.getElem?_eq_none h'] at h1
      have hdep : dep oj i = false := by
        unfold dep
        cases hc : oj.after.any fun e => Region.binds .any e && e.on == i with
        | false => rfl
        | true =>
          obtain ⟨e, he, hb⟩ := Array.any_eq_true'.1 hc
          simp only [Bool.and_eq_true, beq_iff_eq] at hb
          exact absurd hb.2 (hnot e he hb.1)
      obtain ⟨a1, a2, a3⟩ := Oper.apart_spec (hfree j oj hoj hji hjun hnot)
      have h1 := H.2 j (ready_mono hj hji) oj hoj
      have hfree' : ∀ k ok, ops[k]? = some ok → k ≠ i → (listed.setIfInBounds j true).getD k true = false → (∀ e ∈ ok.after, Region.binds .any e = true → e.on ≠ i) → oi.apart ops ok = true := fun k ok hk hki hun hno => by
        refine hfree k ok hk hki ?_ hno
        by_cases hjk : j = k
        · subst hjk; exact hjun
        · rw [getD_set_ne true hjk] at hun; exact hun
      -- what stands behind j, and behind i and j
      have next : ∀ (y : AV) (σ' : Sg) (rd1 rd2 : List (Nat × Nat)), (∀ t z, oi.op = .load t z → ∀ b off, look s z = some (.v (.pointer (some ⟨b, off, none⟩))) → σ'.vars b = s.σ.vars b) → (∀ p ∈ rd1 ++ readOf s i oi, p ∈ rd2) →
          aany P ow ops K n ((listed.setIfInBounds i true).setIfInBounds j true) rd2 (({ s with σ := σ' }.puto oi.dst x).puto oj.dst y) → aany P ow ops K (n + 1) (listed.setIfInBounds j true) rd1 ({ s with σ := σ' }.puto oj.dst y) := fun y σ' rd1 rd2 hl hsub hK => by
        refine ih hfree' (ready_mono hready (Ne.symm hji)) (hx.keep (y := y) (σ := σ') a3 hl) ?_
        rw [Array.setIfInBounds_comm _ _ hji]
        have hrd : readOf ({ s with σ := σ' }.puto oj.dst y) i oi = readOf s i oi := by
          unfold readOf
          split
          · rename_i t z hz
            rw [look_put (fun t ht => looksAt_op (a3 t ht) z (by rw [hz]; simp [Op.operands])), look_sig]
          · rfl
        rw [hrd, ← puto_comm a2]
        exact aany_sub n hK hsub
      have e0 : ({ s with σ := s.σ } : St) = s := rfl
      unfold stepVC at h1 ⊢
      have hd1 : dstOk (s.puto oi.dst x) oj.dst = dstOk s oj.dst := by have := dstOk_put (s := s) (d := oi.dst) (e := oj.dst) (x := x) (σ := s.σ); rwa [e0] at this
      have hg1 : gate ops (s.puto oi.dst x) oj.guard = gate ops s oj.guard := by have := gate_put (ops := ops) (o := oj) (s := s) (d := oi.dst) (x := x) (σ := s.σ) a1; rwa [e0] at this
      rw [hd1, hg1] at h1
      refine And.intro h1.1 ?_
      have h2 := h1.2
      split at h2
      · exact h2.elim
      · rename_i g hg
        try rw [hg]
        refine And.intro (fun e => ?_) (fun e => ?_)
        · have h3 := h2.1 e
          unfold stepG at h3 ⊢
          by_cases hw : isW' ow oj = true
          · rw [if_pos hw] at h3 ⊢
            rw [if_pos hw] at h3 ⊢
            have hargs : argsA (s.puto oi.dst x) oj.op.operands.toList = argsA s oj.op.operands.toList := argsA_congr fun z hz => look_put fun t ht => looksAt_op (a1 t ht) z hz
            rw [hargs, sig_puto] at h3
            split at h3
            · rename_i vals hv
              try rw [hv]
              refine h3.mono fun r σ' hr => ⟨fun p hp hd => ?_, ?_⟩
              · have := hr.1 p (List.mem_append.2 (.inl hp)) hd
                rwa [sig_puto] at this
              · have h4 := hr.2
                rw [puto_sig] at h4
                refine next r σ' rd _ (fun t z hz b off hb => ?_) (fun p hp => hp) h4
                have := hr.1 (i, b) (List.mem_append.2 (.inr (by unfold readOf; rw [hz]; simp [hb]))) hdep
                rwa [sig_puto] at this
            · exact h3.elim
          · rw [if_neg hw] at h3 ⊢
            rw [if_neg hw] at h3 ⊢
            have hv : vop P (s.puto oi.dst x) oj.op = vop P s oj.op := vop_congr oj.op (fun z hz => look_put fun t ht => looksAt_op (a1 t ht) z hz) (fun t z hz b off hb => by rw [sig_puto])
            have hrd : readOf (s.puto oi.dst x) j oj = readOf s j oj := by
              unfold readOf
              split
              · rename_i t z hz
                rw [look_put (fun t ht => looksAt_op (a1 t ht) z (by rw [hz]; simp [Op.operands]))]
              · rfl
            rw [hv, hrd] at h3
            split at h3
            · rename_i y hy
              try rw [hy]
              exact next y s.σ _ _ (fun _ _ _ _ _ _ => rfl) (fun p hp => by
                rcases List.mem_append.1 hp with h | h
                · rcases List.mem_append.1 h with h | h
                  · exact List.mem_append.2 (.inl (List.mem_append.2 (.inl h)))
                  · exact List.mem_append.2 (.inr h)
                · exact List.mem_append.2 (.inl (List.mem_append.2 (.inr h)))) h3
            · exact h3.elim
        · have h3 := h2.2 e
          refine next (.v undef) s.σ _ _ (fun _ _ _ _ _ _ => rfl) ?_ h3
          intro p hp
          split
          · rename_i hw; rw [if_pos hw] at hp; exact hp
          · rename_i hw
            rw [if_neg hw] at hp
            have hrd : readOf (s.puto oi.dst x) j oj = readOf s j oj := by
              unfold readOf
              split
              · rename_i t z hz
                rw [look_put (fun t ht => looksAt_op (a1 t ht) z (by rw [hz]; simp [Op.operands]))]
              · rfl
            rw [hrd]
            rcases List.mem_append.1 hp with h | h
            · rcases List.mem_append.1 h with h | h
              · exact List.mem_append.2 (.inl (List.mem_append.2 (.inl h)))
              · exact List.mem_append.2 (.inr h)
            · exact List.mem_append.2 (.inl (List.mem_append.2 (.inr h)))

/-- Is this order one in which whatever only looks comes as early as it may, and what changes something comes alone? -/
def okL (ow : List Nat) (ops : Array Oper) : List Nat → Array Bool → Bool
  | [], listed => (Region.ready .any ops listed).isEmpty
  | i :: L, listed => match ops[i]? with
    | none => false
    | some o => (if isW' ow o = true then Region.ready .any ops listed == [i] else (Region.ready .any ops listed).contains i && Region.free .any ops listed i) && okL ow ops L (listed.setIfInBounds i true)
def dvc (P : Program) (ow : List Nat) (ops : Array Oper) (K : St → Prop) : List Nat → List (Nat × Nat) → St → Prop
  | [], _, s => K s
  | i :: L, rd, s => match ops[i]? with
    | none => False
    | some o => stepVC P ow ops (if isW' ow o = true then Stay o rd else fun _ _ => True) o (fun s' => dvc P ow ops K L (if isW' ow o = true then rd else rd ++ readOf s i o) s') s
theorem dvc_any {P : Program} {ow : List Nat} {ops : Array Oper} {K : St → Prop} : ∀ (L : List Nat) {listed : Array Bool} {rd : List (Nat × Nat)} {s : St}, okL ow ops L listed = true → dvc P ow ops K L rd s → aany P ow ops K L.length listed rd s
  | [], listed, rd, s, hL, h => ⟨by simpa [okL] using hL, h⟩
  | i :: L, listed, rd, s, hL, h => by
    simp only [okL] at hL
    simp only [dvc] at h
    cases ho : ops[i]? with
    | none => simp [ho] at hL
    | some o =>
      simp only [ho] at hL h
      rw [Bool.and_eq_true] at hL
      by_cases hw : isW' ow o = true
      · rw [if_pos hw] at hL
        have hr : Region.ready .any ops listed = [i] := by simpa using hL.1
        simp only [hw, if_true] at h
        refine ⟨fun e => (by rw [hr] at e; cases e), fun j hj oj hoj => ?_⟩
        rw [hr] at hj
        obtain rfl : j = i := by simpa using hj
        obtain rfl : o = oj := Option.some.inj (ho.symm.trans hoj)
        rw [if_pos hw]
        exact stepVC_mono h (fun s' hs => dvc_any L hL.2 hs) (fun _ _ hh => hh)
      · rw [if_neg hw, Bool.and_eq_true] at hL
        simp only [if_neg hw] at h
        have hw' : isW' ow o = false := by simpa using hw
        unfold stepVC at h
        obtain ⟨hd, h⟩ := h
        cases hg : gate ops s o.guard with
        | none => simp [hg] at h
        | some g =>
          simp only [hg] at h
          cases g with
          | true =>
            have h1 := h.1 rfl
            unfold stepG at h1
            rw [if_neg (by simp [hw'])] at h1
            split at h1
            · rename_i x hx
              exact aany_first ho hw' L.length (Region.free_spec ho hL.1.2) (by simpa using hL.1.1) ⟨hd, .inl ⟨hg, hx⟩⟩ (dvc_any L hL.2 h1)
            · exact h1.elim
          | false => exact aany_first ho hw' L.length (Region.free_spec ho hL.1.2) (by simpa using hL.1.1) ⟨hd, .inr ⟨hg, rfl⟩⟩ (dvc_any L hL.2 (h.2 rfl))
theorem AWp.draw {P : Program} (ow : List Nat) {id : Nat} {ops : Array Oper} {Q : Exit → St → Prop} {s : St} (L : List Nat) (hm : P.follows .mixedOrders = true) (hl : L.length = ops.size) (hL : okL ow ops L (Array.replicate ops.size false) = true) (h : dvc P ow ops (Q .normal) L [] s) : AWp P (.region id ops true) Q s := fun B w0 m a w hs => by
  refine wp_region_any hm ?_
  rw [← hl]
  rw [← hl] at hL
  exact aany_sound L.length (dvc_any L hL h) m.le_refl ⟨hs.inv.drew, hs.fr, hs.n, hs.defers⟩
section
variable {P : Program} {ow : List Nat} {ops : Array Oper} {K : St → Prop} {L : List Nat} {i : Nat} {rd : List (Nat × Nat)} {o : Oper} {s : St}
theorem d_nil : dvc P ow ops K [] rd s = K s := rfl
theorem d_val {v : AV} (ho : ops[i]? = some o) (hg : gate ops s o.guard = some true) (hw : isW' ow o = false) (hx : vop P s o.op = some v) (hd : dstOk s o.dst = true) (h : dvc P ow ops K L (rd ++ readOf s i o) (s.puto o.dst v)) : dvc P ow ops K (i :: L) rd s := by
  simp only [dvc, ho]
  unfold stepVC stepG
  rw [hg]
  refine And.intro hd (And.intro (fun _ => ?_) (fun e => Bool.noConfusion e))
  rw [if_neg (by simp [hw]), hx]
  simpa [hw] using h
theorem d_not (ho : ops[i]? = some o) (hg : gate ops s o.guard = some false) (hd : dstOk s o.dst = true) (h : dvc P ow ops K L (rd ++ readOf s i o) (s.puto o.dst (.v undef))) (h' : isW' ow o = true → dvc P ow ops K L rd (s.puto o.dst (.v undef))) : dvc P ow ops K (i :: L) rd s := by
  simp only [dvc, ho]
  unfold stepVC
  rw [hg]
  refine And.intro hd (And.intro (fun e => Bool.noConfusion e) (fun _ => ?_))
  by_cases hw : isW' ow o = true
  · simp only [hw, if_true]; exact h' hw
  · simp only [if_neg hw]; exact h
theorem d_w {vals : List AV} (ho : ops[i]? = some o) (hg : gate ops s o.guard = some true) (hw : isW' ow o = true) (hx : argsA s o.op.operands.toList = some vals) (hd : dstOk s o.dst = true) (h : AO P o vals s.σ fun r σ' => Stay o rd s.σ σ' ∧ dvc P ow ops K L rd ({ s with σ := σ' }.puto o.dst r)) : dvc P ow ops K (i :: L) rd s := by
  simp only [dvc, ho]
  unfold stepVC stepG
  rw [hg]
  refine And.intro hd (And.intro (fun _ => ?_) (fun e => Bool.noConfusion e))
  simp only [hw, if_true, hx]
  exact h
theorem d_split {b : Bool} (ho : ops[i]? = some o) (hg : gate ops s o.guard = some b) (h1 : b = true → dvc P ow ops K (i :: L) rd s) (h0 : b = false → dvc P ow ops K (i :: L) rd s) : dvc P ow ops K (i :: L) rd s := by
  cases b
  · exact h0 rfl
  · exact h1 rfl
end
end Go.Ab
