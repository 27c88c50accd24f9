import Derived.Test.YtnkpakakgfkpbaaGreatK1
set_option linter.unusedVariables false
set_option linter.unusedSimpArgs false
section
namespace Go.Vi
def persC : PV → Bool
  | .sc _ | .nils | .sl .. | .fn .. | .rp _ => true
  | _ => false
def resOK1 : PV → Bool
  | .mp cs => cs.all persC
  | p => persC p
def resOK2 : PV → Bool
  | .agg cs => cs.all resOK1
  | p => resOK1 p
def resOK3 : PV → Bool
  | .tup ps => ps.all resOK2
  | p => resOK2 p

/-- New ids: none is in use, none is a parameter's, no two are one. -/
def freshB (s : Objs) : List (Nat × Obj) → Bool
  | [] => true
  | (i, _) :: r => (s i).isNone && (!(Nat.beq (i % 1000) 500)) && (look r i).isNone && freshB s r

def backs (outs : List (Nat × Obj)) : List (Nat × Nat) → List (Nat × Obj)
  | [] => []
  | (j, id) :: r => match look outs j with
    | some o => (id, o) :: backs outs r
    | none => backs outs r

def backsOK (s0 : Objs) (outs : List (Nat × Obj)) : List (Nat × Nat) → Prop
  | [] => True
  | (j, _) :: r => (match look outs j, s0 (pid j) with
    | none, _ => True
    | some (.box cs fr), some (.box _ _) => fr = false ∧ cs.all persC = true
    | some (.row e sz es fr), some (.row e' sz' es' _) => e = e' ∧ sz = sz' ∧ es.length = es'.length ∧ fr = false
    | _, _ => False) ∧ backsOK s0 outs r

def callVC (P : Program) (own : List Bool) (f : FuncId) (args : List PV) (dst : Option Nat) (s : Objs) (k : K) : Prop :=
  passA 0 own s args fun qs u ps => ∃ res outs, CallOK P f qs res outs ∧ resOK3 res = true ∧ freshB (ov u s) (adopt3 (rb dst) res).2 = true ∧ backsOK (look (adoptA 0 qs).2) outs ps ∧
    k (adopt3 (rb dst) res).1 ((adopt3 (rb dst) res).2 ++ (backs outs ps ++ u))

section
variable {P : Program} {T : Tab} {F : Fr} {rd rd1 : Rd} {L L1 : Lay} {s s1 : Objs} {w w1 : World}

/-- Ids moved by a number. -/
def Shift (b : Nat) (l m : List (Nat × Obj)) : Prop := m = l.map fun x => (b + x.1, x.2)

theorem Shift.look {b : Nat} {l m : List (Nat × Obj)} (h : Shift b l m) (q : Nat) : Go.Vi.look m (b + q) = Go.Vi.look l q := by
  rw [h]
  clear h
  induction l with
  | nil => rfl
  | cons x l ih =>
    obtain ⟨i, o⟩ := x
    simp only [List.map_cons, Go.Vi.look]
    have : Nat.beq (b + i) (b + q) = Nat.beq i q := by
      cases h : Nat.beq i q with
      | true => rw [Nat.eq_of_beq_eq_true h]; exact Nat.beq_refl _
      | false =>
        cases h2 : Nat.beq (b + i) (b + q) with
        | false => rfl
        | true =>
          have h3 := Nat.eq_of_beq_eq_true h2
          have : i = q := by omega
          rw [this, Nat.beq_refl] at h; cases h
    rw [this, ih]
theorem Shift.mem {b : Nat} {l m : List (Nat × Obj)} (h : Shift b l m) {i : Nat} {o : Obj} (hi : Go.Vi.look m i = some o) : ∃ q, i = b + q ∧ Go.Vi.look l q = some o := by
  have := look_mem hi
  rw [h] at this
  obtain ⟨x, hx, he⟩ := List.mem_map.1 this
  simp only [Prod.mk.injEq] at he
  refine ⟨x.1, he.1.symm, ?_⟩
  rw [← he.1] at hi
  rwa [h.look] at hi

theorem shift1 (b r : Nat) (p : PV) : Shift b (adopt1 r p).2 (adopt1 (b + r) p).2 := by
  unfold adopt1
  split <;> rfl
theorem shiftL (b : Nat) : ∀ (ps : List PV) (r : Nat), Shift b (adoptL r ps).2 (adoptL (b + r) ps).2
  | [], r => rfl
  | p :: ps, r => by
    have h1 := shift1 b r p
    have h2 := shiftL b ps (r + 1)
    unfold Shift at *
    simp only [adoptL, List.map_append, h1]
    rw [← h2]; rfl
theorem shift2 (b r : Nat) (p : PV) : Shift b (adopt2 r p).2 (adopt2 (b + r) p).2 := by
  cases p with
  | agg cs => exact shiftL b cs (r + 1)
  | _ => exact shift1 b r _
theorem shiftT (b : Nat) : ∀ (ps : List PV) (r : Nat), Shift b (adoptT r ps).2 (adoptT (b + r) ps).2
  | [], r => rfl
  | p :: ps, r => by
    have h1 := shift2 b r p
    have h2 := shiftT b ps (r + 101)
    unfold Shift at *
    simp only [adoptT, List.map_append, h1]
    rw [← h2]; rfl
theorem shift3 (b r : Nat) (p : PV) : Shift b (adopt3 r p).2 (adopt3 (b + r) p).2 := by
  cases p with
  | tup ps => exact shiftT b ps (r + 101)
  | _ => exact shift2 b r _

/-- A result under other ids. -/
def Renames (b : Nat) (L0 L1 : Lay) (s0 s1 : Objs) (l : List (Nat × Obj)) : Prop := ∀ q o, (q, o) ∈ l → s0 q = some o ∧ s1 (b + q) = some o ∧ L1.sv (b + q) = L0.sv q ∧ L1.bl (b + q) = L0.bl q

theorem ren1 {b r : Nat} {L0 : Lay} {s0 : Objs} {p : PV} {v : Value} (hk : resOK1 p = true) (hR : Renames b L0 L1 s0 s1 (adopt1 r p).2) (h : rep1 rd L0 s0 (adopt1 r p).1 v) : rep1 rd L1 s1 (adopt1 (b + r) p).1 v := by
  cases p with
  | sl own sz es =>
    cases own with
    | none => exact h
    | some e =>
      obtain ⟨e1, e2, e3, e4⟩ := hR r (.row e sz es false) (by simp [adopt1])
      refine ⟨fun e' sz' es' fr' hh hn => ?_, fun e' sz' es' fr' hh => ?_, h.2.2.1, by rw [e2]; simp⟩
      · rw [e3]; exact h.1 _ _ _ _ e1 rfl
      · rw [e2] at hh; cases hh; exact Nat.le_refl _
  | mp cs =>
    obtain ⟨e1, e2, e3, e4⟩ := hR r (.box cs false) (by simp [adopt1])
    refine ⟨fun _ => ?_, h.2.1, by rw [e2]; simp⟩
    rw [e4]; exact h.1 ⟨_, _, e1⟩
  | sc v => exact h
  | nils => exact h
  | fn f c => exact h
  | rp c => exact h
  | _ => cases hk
theorem renL {b : Nat} {L0 : Lay} {s0 : Objs} : ∀ {ps : List PV} {r : Nat} {vs : List Value}, ps.all resOK1 = true → Renames b L0 L1 s0 s1 (adoptL r ps).2 → All2 (rep1 rd L0 s0) (adoptL r ps).1 vs → All2 (rep1 rd L1 s1) (adoptL (b + r) ps).1 vs := by
  intro ps
  induction ps with
  | nil => intro r vs _ _ h; cases h; exact .nil
  | cons p ps ih =>
    intro r vs hk hR h
    cases h with
    | cons h1 h2 =>
      simp only [List.all_cons, Bool.and_eq_true] at hk
      refine .cons (ren1 hk.1 (fun q o hq => hR q o (by simp [adoptL, hq])) h1) ?_
      exact ih (r := r + 1) hk.2 (fun q o hq => hR q o (by simp [adoptL, hq])) h2
theorem ren2 {b r : Nat} {L0 : Lay} {s0 : Objs} {p : PV} {v : Value} (hk : resOK2 p = true) (hR : Renames b L0 L1 s0 s1 (adopt2 r p).2) (h : rep2 rd L0 s0 (adopt2 r p).1 v) : rep2 rd L1 s1 (adopt2 (b + r) p).1 v := by
  have leaf : ∀ {p : PV}, (∀ cs, p ≠ .agg cs) → resOK1 p = true → rep2 rd L0 s0 (adopt1 r p).1 v → Renames b L0 L1 s0 s1 (adopt1 r p).2 → rep2 rd L1 s1 (adopt1 (b + r) p).1 v := by
    intro p hp hk h hR
    have h1 : rep1 rd L0 s0 (adopt1 r p).1 v := by
      cases p with
      | agg cs => exact absurd rfl (hp cs)
      | sl own sz es => cases own <;> exact h
      | _ => exact h
    exact rep2_of_rep1 (ren1 hk hR h1)
  cases p with
  | agg cs =>
    obtain ⟨vs, h1, h2, h3⟩ := h
    exact ⟨vs, h1, renL (r := r + 1) hk hR h2, h3⟩
  | _ => exact leaf (by simp) hk h hR
theorem renT {b : Nat} {L0 : Lay} {s0 : Objs} : ∀ {ps : List PV} {r : Nat} {vs : List Value}, ps.all resOK2 = true → Renames b L0 L1 s0 s1 (adoptT r ps).2 → All2 (rep2 rd L0 s0) (adoptT r ps).1 vs → All2 (rep2 rd L1 s1) (adoptT (b + r) ps).1 vs := by
  intro ps
  induction ps with
  | nil => intro r vs _ _ h; cases h; exact .nil
  | cons p ps ih =>
    intro r vs hk hR h
    cases h with
    | cons h1 h2 =>
      simp only [List.all_cons, Bool.and_eq_true] at hk
      refine .cons (ren2 hk.1 (fun q o hq => hR q o (by simp [adoptT, hq])) h1) ?_
      exact ih (r := r + 101) hk.2 (fun q o hq => hR q o (by simp [adoptT, hq])) h2
theorem ren3 {b r : Nat} {L0 : Lay} {s0 : Objs} {p : PV} {v : Value} (hk : resOK3 p = true) (hR : Renames b L0 L1 s0 s1 (adopt3 r p).2) (h : rep3 rd L0 s0 (adopt3 r p).1 v) : rep3 rd L1 s1 (adopt3 (b + r) p).1 v := by
  have leaf : ∀ {p : PV}, (∀ cs, p ≠ .tup cs) → resOK2 p = true → rep3 rd L0 s0 (adopt2 r p).1 v → Renames b L0 L1 s0 s1 (adopt2 r p).2 → rep3 rd L1 s1 (adopt2 (b + r) p).1 v := by
    intro p hp hk h hR
    have h1 : rep2 rd L0 s0 (adopt2 r p).1 v := by
      cases p with
      | tup cs => exact absurd rfl (hp cs)
      | sl own sz es => cases own <;> exact h
      | _ => exact h
    exact rep3_of_rep2 (ren2 hk hR h1)
  cases p with
  | tup ps =>
    obtain ⟨vs, h1, h2⟩ := h
    exact ⟨vs, h1, renT (r := r + 101) hk hR h2⟩
  | _ => exact leaf (by simp) hk h hR

theorem freshB_spec {s : Objs} : ∀ {l : List (Nat × Obj)}, freshB s l = true → ∀ i o, (i, o) ∈ l → s i = none ∧ i % 1000 ≠ 500 ∧ look l i = some o := by
  intro l
  induction l with
  | nil => intro _ i o h; simp at h
  | cons x l ih =>
    obtain ⟨j, oj⟩ := x
    intro h i o hm
    simp only [freshB, Bool.and_eq_true] at h
    obtain ⟨⟨⟨h1, h2⟩, h3⟩, h4⟩ := h
    simp only [List.mem_cons, Prod.mk.injEq] at hm
    rcases hm with ⟨rfl, rfl⟩ | hm
    · refine ⟨by simpa using h1, fun he => ?_, look_cons_self⟩
      rw [he] at h2; cases h2
    · obtain ⟨k1, k2, k3⟩ := ih h4 i o hm
      refine ⟨k1, k2, ?_⟩
      have hne : j ≠ i := by
        rintro rfl
        rw [k3] at h3; cases h3
      simp only [look]
      cases hb : Nat.beq j i with
      | true => exact absurd (Nat.eq_of_beq_eq_true hb) hne
      | false => exact k3

theorem look_backs {outs : List (Nat × Obj)} {id : Nat} {o : Obj} : ∀ {ps : List (Nat × Nat)}, look (backs outs ps) id = some o → ∃ j, (j, id) ∈ ps ∧ look outs j = some o := by
  intro ps
  induction ps with
  | nil => intro h; cases h
  | cons x ps ih =>
    obtain ⟨j, i⟩ := x
    intro h
    simp only [backs] at h
    cases hl : look outs j with
    | none => rw [hl] at h; obtain ⟨j', h1, h2⟩ := ih h; exact ⟨j', by simp [h1], h2⟩
    | some oj =>
      rw [hl] at h
      simp only [look] at h
      cases hb : Nat.beq i id with
      | true =>
        rw [hb] at h
        cases h
        exact ⟨j, by simp [Nat.eq_of_beq_eq_true hb], hl⟩
      | false =>
        rw [hb] at h
        obtain ⟨j', h1, h2⟩ := ih h
        exact ⟨j', by simp [h1], h2⟩

theorem backsOK_spec {s0 : Objs} {outs : List (Nat × Obj)} : ∀ {ps : List (Nat × Nat)}, backsOK s0 outs ps → ∀ j id o, (j, id) ∈ ps → look outs j = some o →
    (∃ cs cs', o = .box cs false ∧ cs.all persC = true ∧ ∃ fr, s0 (pid j) = some (.box cs' fr)) ∨ (∃ e sz es es' fr', o = .row e sz es false ∧ s0 (pid j) = some (.row e sz es' fr') ∧ es.length = es'.length) := by
  intro ps
  induction ps with
  | nil => intro _ j id o h; simp at h
  | cons x ps ih =>
    obtain ⟨j0, i0⟩ := x
    intro h j id o hm ho
    obtain ⟨h1, h2⟩ := h
    simp only [List.mem_cons, Prod.mk.injEq] at hm
    rcases hm with ⟨rfl, rfl⟩ | hm
    · rw [ho] at h1
      split at h1
      · exact absurd ‹some o = none› (by simp)
      · rename_i cs fr cs' fr' he hs
        cases he
        obtain ⟨rfl, h3⟩ := h1
        exact .inl ⟨cs, cs', rfl, h3, fr', hs⟩
      · rename_i e sz es fr e' sz' es' fr' he hs
        cases he
        obtain ⟨rfl, rfl, h3, rfl⟩ := h1
        exact .inr ⟨e, sz, es, es', fr', rfl, hs, h3⟩
      · exact h1.elim
    · exact ih h2 j id o hm ho

theorem persC_rep {L0 : Lay} {s0 : Objs} {p : PV} {v : Value} (h : persC p = true) (hr : rep1 rd L0 s0 p v) : RepP rd p v := by
  cases p with
  | sc v => exact hr
  | nils => exact hr
  | sl a b c => exact hr
  | fn a b => exact hr
  | rp a => exact hr
  | _ => cases h

theorem look_pp {pp : List (Nat × Nat)} (hn : (pp.map (·.1)).Nodup) {j id : Nat} (hm : (j, id) ∈ pp) : look (pp.map fun x => (pid x.1, x.2)) (pid j) = some id := by
  induction pp with
  | nil => simp at hm
  | cons x pp ih =>
    obtain ⟨j0, i0⟩ := x
    simp only [List.map_cons, List.nodup_cons] at hn
    simp only [List.mem_cons, Prod.mk.injEq] at hm
    simp only [List.map_cons, look]
    rcases hm with ⟨rfl, rfl⟩ | hm
    · rw [show Nat.beq (pid j) (pid j) = true from Nat.beq_refl _]; rfl
    · cases hb : Nat.beq (pid j0) (pid j) with
      | true =>
        have := pid_inj (Nat.eq_of_beq_eq_true hb)
        subst this
        exact absurd (List.mem_map.2 ⟨(j0, id), hm, rfl⟩) hn.1
      | false => exact ih hn.2 hm
theorem nod_snd {pp : List (Nat × Nat)} (hn : (pp.map (·.2)).Nodup) {j j' id : Nat} (h : (j, id) ∈ pp) (h' : (j', id) ∈ pp) : j = j' := by
  induction pp with
  | nil => simp at h
  | cons x pp ih =>
    simp only [List.map_cons, List.nodup_cons] at hn
    simp only [List.mem_cons] at h h'
    rcases h with rfl | h <;> rcases h' with h' | h'
    · cases h'; rfl
    · exact absurd (List.mem_map.2 ⟨_, h', rfl⟩) hn.1
    · subst h'; exact absurd (List.mem_map.2 ⟨_, h, rfl⟩) hn.1
    · exact ih hn.2 h h'
theorem look_outO (outs : List (Nat × Obj)) (j : Nat) : look (outO outs) (pid j) = look outs j := by
  induction outs with
  | nil => rfl
  | cons x outs ih =>
    obtain ⟨i, o⟩ := x
    simp only [outO, List.map_cons, look] at ih ⊢
    have : Nat.beq (pid i) (pid j) = Nat.beq i j := by
      cases h : Nat.beq i j with
      | true => rw [Nat.eq_of_beq_eq_true h]; exact Nat.beq_refl _
      | false =>
        cases h2 : Nat.beq (pid i) (pid j) with
        | false => rfl
        | true => rw [pid_inj (Nat.eq_of_beq_eq_true h2), Nat.beq_refl] at h; cases h
    rw [this, ih]

theorem nod_fst {pp : List (Nat × Nat)} (hn : (pp.map (·.1)).Nodup) {j i i' : Nat} (h : (j, i) ∈ pp) (h' : (j, i') ∈ pp) : i = i' := by
  have h1 := look_pp hn h
  have h2 := look_pp hn h'
  rw [h1] at h2
  cases h2
  rfl
theorem pers1 {r q : Nat} {p : PV} {cs : List PV} {fr : Bool} (h : resOK1 p = true) (hm : (q, Obj.box cs fr) ∈ (adopt1 r p).2) : cs.all persC = true ∧ fr = false := by
  unfold adopt1 at hm
  split at hm
  · simp at hm
  · simp at hm; obtain ⟨_, rfl, rfl⟩ := hm; exact ⟨h, rfl⟩
  · simp at hm
theorem persL {q : Nat} {cs : List PV} {fr : Bool} : ∀ {ps : List PV} {r : Nat}, ps.all resOK1 = true → (q, Obj.box cs fr) ∈ (adoptL r ps).2 → cs.all persC = true ∧ fr = false := by
  intro ps
  induction ps with
  | nil => intro r _ h; simp [adoptL] at h
  | cons p ps ih =>
    intro r hk h
    simp only [List.all_cons, Bool.and_eq_true] at hk
    simp only [adoptL, List.mem_append] at h
    rcases h with h | h
    · exact pers1 hk.1 h
    · exact ih hk.2 h
theorem pers2 {r q : Nat} {p : PV} {cs : List PV} {fr : Bool} (h : resOK2 p = true) (hm : (q, Obj.box cs fr) ∈ (adopt2 r p).2) : cs.all persC = true ∧ fr = false := by
  cases p with
  | agg l => exact persL (r := r + 1) h hm
  | _ => simp only [resOK2] at h; exact pers1 (r := r) h hm
theorem persT {q : Nat} {cs : List PV} {fr : Bool} : ∀ {ps : List PV} {r : Nat}, ps.all resOK2 = true → (q, Obj.box cs fr) ∈ (adoptT r ps).2 → cs.all persC = true ∧ fr = false := by
  intro ps
  induction ps with
  | nil => intro r _ h; simp [adoptT] at h
  | cons p ps ih =>
    intro r hk h
    simp only [List.all_cons, Bool.and_eq_true] at hk
    simp only [adoptT, List.mem_append] at h
    rcases h with h | h
    · exact pers2 hk.1 h
    · exact ih hk.2 h
theorem pers3 {r q : Nat} {p : PV} {cs : List PV} {fr : Bool} (h : resOK3 p = true) (hm : (q, Obj.box cs fr) ∈ (adopt3 r p).2) : cs.all persC = true ∧ fr = false := by
  cases p with
  | tup l => exact persT (r := r + 101) h hm
  | _ => simp only [resOK3] at h; exact pers2 (r := r) h hm
theorem persAll {L0 : Lay} {s0 : Objs} {cs : List PV} {vs : List Value} (h : cs.all persC = true) (hr : All2 (rep1 rd L0 s0) cs vs) : All2 (RepP rd) cs vs :=
  All2.of_get hr.len fun i c v hc hv => by
    obtain ⟨v', h1, h2⟩ := hr.get hc
    rw [hv] at h1
    cases h1
    exact persC_rep (List.all_eq_true.1 h c (List.mem_of_getElem? hc)) h2

def joinLay (A : List (Nat × Obj)) (b : Nat) (L' L : Lay) : Lay where
  sv i := match look A i with | some _ => L'.sv (i - b) | none => L.sv i
  bl i := match look A i with | some _ => L'.bl (i - b) | none => L.bl i
theorem joinLay_some {A : List (Nat × Obj)} {b q : Nat} {L' L : Lay} {o : Obj} (h : look A (b + q) = some o) : (joinLay A b L' L).sv (b + q) = L'.sv q ∧ (joinLay A b L' L).bl (b + q) = L'.bl q := by
  simp only [joinLay, h]
  rw [Nat.add_sub_cancel_left]
  exact ⟨rfl, rfl⟩
theorem joinLay_none {A : List (Nat × Obj)} {b i : Nat} {L' L : Lay} (h : look A i = none) : (joinLay A b L' L).sv i = L.sv i ∧ (joinLay A b L' L).bl i = L.bl i := by
  simp only [joinLay, h, and_self]

/-- A call. -/
theorem call_ok (hw : WOk rd L s w) (hg : Grows F rd L s w) {own : List Bool} {f : FuncId} {args : List PV} {vs : List Value} (hargs : All2 (rep3 rd L s) args vs) {d : Option Nat} {k : K} (h : callVC P own f args d s k) :
    (∀ args w, (callFunc f args).run P w = .ok (.enter f args) w) ∧
    Calls P f vs.toArray w fun e w' => ∃ v pv u rd' L', e = .returned v ∧ k pv u ∧ rep3 rd' L' (ov u s) pv v ∧ Stp F rd L s rd' L' (ov u s) w' := by
  obtain ⟨qs, u, pp, rd1, ⟨res, outs, hcall, hres, hfresh, hback, hk⟩, hst, hpass, hdead, hblk, hbx⟩ := passA_ok hw hg hargs h
  let s0 : Objs := look (adoptA 0 qs).2
  let L0 : Lay := { sv := fun q => match look (pp.map fun x => (pid x.1, x.2)) q with | some id => L.sv id | none => undef, bl := fun q => match look (pp.map fun x => (pid x.1, x.2)) q with | some id => L.bl id | none => 0 }
  have hL0 : ∀ j id, (j, id) ∈ pp → L0.sv (pid j) = L.sv id ∧ L0.bl (pid j) = L.bl id := by
    intro j id hm
    have := look_pp hpass.nod1 hm
    simp only [L0, this, and_self]
  have hblk0 : ∀ q b, blkOf L0 s0 q = some b → ∃ j id o, q = pid j ∧ (j, id) ∈ pp ∧ s0 q = some o ∧ objBlk L id o = some b ∧ blkOf L s id = some b := by
    intro q b hb
    cases hq : s0 q with
    | none => simp [blkOf, hq] at hb
    | some o =>
      obtain ⟨j, id, rfl, _, hm, _, hob⟩ := hpass.obj q o hq
      obtain ⟨a1, a2⟩ := hL0 j id hm
      have hb' : objBlk L id o = some b := by
        cases o with
        | box cs fr => simp only [blkOf, hq] at hb; simp only [objBlk]; rw [← a2]; exact hb
        | row e sz es fr => simp only [blkOf, hq] at hb; simp only [objBlk]; rw [← a1]; exact hb
        | dead => simp [blkOf, hq] at hb
      exact ⟨j, id, o, rfl, hm, rfl, hb', hob b hb'⟩
  have hw0 : WOk rd1 L0 s0 w := by
    refine ⟨hst.ok.hrd, fun q cs fr hq => ?_, fun q e sz es fr hq => ?_, fun q1 q2 b h1 h2 => ?_⟩
    · obtain ⟨j, id, rfl, _, hm, hat, _⟩ := hpass.obj q _ hq
      obtain ⟨a1, a2⟩ := hL0 j id hm
      obtain ⟨rfl, xs, e, h1, h2, h3, h4⟩ := hat
      rw [a2]
      exact ⟨xs, e, h1, h2.imp fun _ _ => rep1_of_P, h3, fun _ => h4, fun hf => by cases hf⟩
    · obtain ⟨j, id, rfl, _, hm, hat, _⟩ := hpass.obj q _ hq
      obtain ⟨a1, a2⟩ := hL0 j id hm
      obtain ⟨rfl, xs, h1, h2, h3, h4⟩ := hat
      rw [a1]
      exact ⟨xs, h1, h2, h3, fun b hb p v hp hpb => absurd hpb (h4 b hb p v hp)⟩
    · obtain ⟨j1, id1, o1, rfl, m1, _, _, b1⟩ := hblk0 q1 b h1
      obtain ⟨j2, id2, o2, rfl, m2, _, _, b2⟩ := hblk0 q2 b h2
      have := hw.inj id1 id2 b b1 b2
      subst this
      rw [nod_snd hpass.nod m1 m2]
  refine ⟨hcall.1, (hcall.2 rd1 L0 w vs hw0 (hpass.rep L0 hL0 s0 fun q o hq => hq)).mono fun e w' ⟨v, rd', L', he, hok, hrv, hgr, hrows⟩ => ?_⟩
  -- the caller's side behind the call
  generalize hbd : rb d = b at hfresh hk
  have hb5 : b % 1000 = 0 := by rw [← hbd]; simp only [rb]; omega
  have hsh : Shift b (adopt3 0 res).2 (adopt3 b res).2 := by have := shift3 b 0 res; simpa using this
  have hR0 := ren3 (rd := rd') (L0 := L') (s0 := look ((adopt3 0 res).2 ++ outO outs)) (L1 := joinLay (adopt3 b res).2 b L' L) (s1 := ov ((adopt3 b res).2 ++ (backs outs pp ++ u)) s) (b := b) (r := 0) (v := v) hres
  rw [Nat.add_zero] at hR0
  obtain ⟨pv, hpv⟩ : ∃ pv, pv = (adopt3 b res).1 := ⟨_, rfl⟩
  rw [← hpv] at hk hR0
  obtain ⟨A, hA⟩ : ∃ A, A = (adopt3 b res).2 := ⟨_, rfl⟩
  rw [← hA] at hsh hfresh hk hR0
  clear hpv hA hbd
  let sc : Objs := look ((adopt3 0 res).2 ++ outO outs)
  have hAs := freshB_spec hfresh
  let s1 := ov u s
  let s2 := ov (A ++ (backs outs pp ++ u)) s
  have hs2 : ∀ i, s2 i = match look A i with | some o => some o | none => match look (backs outs pp) i with | some o => some o | none => s1 i := by
    intro i
    simp only [s2, s1, ov, look_append]
    cases look A i with
    | some o => rfl
    | none => cases look (backs outs pp) i <;> rfl
  -- an id of the result
  have cA : ∀ {i o}, look A i = some o → ∃ q, i = b + q ∧ look (adopt3 0 res).2 q = some o ∧ sc q = some o ∧ (joinLay A b L' L).sv i = L'.sv q ∧ (joinLay A b L' L).bl i = L'.bl q ∧ s i = none ∧ i % 1000 ≠ 500 := by
    intro i o hi
    obtain ⟨q, rfl, hq⟩ := hsh.mem hi
    obtain ⟨f1, f2, _⟩ := hAs (b + q) o (look_mem hi)
    refine ⟨q, rfl, hq, by simp only [sc, look_append, hq], (joinLay_some hi).1, (joinLay_some hi).2, ?_, f2⟩
    have : ov u s (b + q) = none := f1
    simp only [ov] at this
    cases hl : look u (b + q) with
    | none => rw [hl] at this; exact this
    | some o => rw [hl] at this; cases this
  -- an object that comes back
  have cB : ∀ {i o}, look A i = none → look (backs outs pp) i = some o → ∃ j, (j, i) ∈ pp ∧ look outs j = some o ∧ sc (pid j) = some o ∧ (joinLay A b L' L).sv i = L.sv i ∧ (joinLay A b L' L).bl i = L.bl i ∧ L0.sv (pid j) = L.sv i ∧ L0.bl (pid j) = L.bl i := by
    intro i o hA hB
    obtain ⟨j, hm, ho⟩ := look_backs hB
    obtain ⟨a1, a2⟩ := hL0 j i hm
    refine ⟨j, hm, ho, ?_, (joinLay_none hA).1, (joinLay_none hA).2, a1, a2⟩
    simp only [sc, look_append, look_outO, ho]
    cases hq : look (adopt3 0 res).2 (pid j) with
    | none => rfl
    | some o' =>
      have h1 : look A (b + pid j) = some o' := by rw [hsh.look]; exact hq
      have h2 := (hAs _ _ (look_mem h1)).2.1
      exfalso
      apply h2
      simp only [pid]
      omega
  have hpp : ∀ j i, (j, i) ∈ pp → look A i = none := by
    intro j i hm
    cases hA : look A i with
    | none => rfl
    | some o => obtain ⟨h1, _, _⟩ := hAs i o (look_mem hA); rw [hdead j i hm] at h1; cases h1
  have hbk : ∀ j i o, (j, i) ∈ pp → look outs j = some o → look (backs outs pp) i = some o := by
    intro j i o hm ho
    have : ∀ ps : List (Nat × Nat), (j, i) ∈ ps → (ps.map (·.2)).Nodup → look (backs outs ps) i = some o := by
      intro ps
      induction ps with
      | nil => intro h; simp at h
      | cons x ps ih =>
        obtain ⟨j0, i0⟩ := x
        intro hm hn
        simp only [List.map_cons, List.nodup_cons] at hn
        simp only [List.mem_cons, Prod.mk.injEq] at hm
        rcases hm with ⟨rfl, rfl⟩ | hm
        · simp only [backs, ho]; exact look_cons_self
        · have hne : i0 ≠ i := by rintro rfl; exact hn.1 (List.mem_map.2 ⟨_, hm, rfl⟩)
          simp only [backs]
          cases look outs j0 with
          | none => exact ih hm hn.2
          | some o0 =>
            simp only [look]
            cases hb : Nat.beq i0 i with
            | true => exact absurd (Nat.eq_of_beq_eq_true hb) hne
            | false => exact ih hm hn.2
    exact this pp hm hpass.nod
  -- what comes back is what was handed over, grown
  have hWas : ∀ j i o, (j, i) ∈ pp → look outs j = some o →
      (∃ cs cs', s i = some (.box cs' false) ∧ o = .box cs false ∧ cs.all persC = true ∧ L'.bl (pid j) = L.bl i) ∨
      (∃ e sz es es', s i = some (.row e sz es' false) ∧ o = .row e sz es false ∧ es.length = es'.length ∧ L'.sv (pid j) = L.sv i) := by
    intro j i o hm ho
    obtain ⟨a1, a2⟩ := hL0 j i hm
    obtain ⟨o0, q1, q2, q3, q4, q5⟩ := hpass.pso j i hm
    rcases backsOK_spec hback j i o hm ho with ⟨cs, cs', rfl, h1, fr, h2⟩ | ⟨e, sz, es, es', fr', rfl, h2, h3⟩
    · have h2 : look (adoptA 0 qs).2 (pid j) = some (.box cs' fr) := h2
      rw [q1] at h2
      cases h2
      rcases q5 with ⟨c1, c2, q5, q6⟩ | ⟨_, _, _, _, q6⟩
      · refine .inl ⟨cs, c1, q5, rfl, h1, ?_⟩
        rw [← a2]
        exact (hgr.pins (pid j) ⟨cs, false, by rw [look_outO]; exact ho⟩).1
      · cases q6
    · have h2 : look (adoptA 0 qs).2 (pid j) = some (.row e sz es' fr') := h2
      rw [q1] at h2
      cases h2
      rcases q5 with ⟨_, _, _, q6⟩ | ⟨e2, sz2, es2, q5, q6⟩
      · cases q6
      · cases q6
        refine .inr ⟨e, sz, es, es', q5, rfl, h3, ?_⟩
        rw [← a1]
        exact hrows (pid j) e sz es false (by rw [look_outO]; exact ho)
  have hnM : ∀ i b, look (backs outs pp) i = none ∨ True → s1 i ≠ some .dead → blkOf L s1 i = some b → ¬ (callFr qs outs rd1 L0 w).M b := by
    intro i b _ hi hb ⟨q, hq⟩
    obtain ⟨j, id, o, _, hm, _, _, hb2⟩ := hblk0 q b hq
    have := hw.inj i id b (hblk i b hb) hb2
    subst this
    exact hi (hdead j i hm)
  have hlive : ∀ {i b}, blkOf L s1 i = some b → s1 i ≠ some .dead := by
    intro i b hb he
    simp [blkOf, he] at hb
  have hsame : ∀ i b, blkOf L s1 i = some b → w'.heap[b]? = w.heap[b]? := fun i b hb =>
    hgr.block b (hst.ok.blk_lt hb) (hnM i b (.inr trivial) (hlive hb) hb)
  have hnewrd : ∀ i b, blkOf L s1 i = some b → ∀ p v, rd' p = some v → p.block = b → rd1 p = some v := by
    intro i b hb p v hp hpb
    rcases hgr.new p v hp with h | h | h
    · exact h
    · rw [hpb] at h; exact absurd h (hnM i b (.inr trivial) (hlive hb) hb)
    · have h1 := hst.ok.blk_lt hb
      have h2 : w.heap.size ≤ p.block := h
      omega
  have hA0 : ∀ {q o}, (q, o) ∈ (adopt3 0 res).2 → look A (b + q) = some o := by
    intro q o hm
    refine (hAs (b + q) o ?_).2.2
    rw [hsh]
    exact List.mem_map.2 ⟨(q, o), hm, rfl⟩
  have hle : ObjLe L s (joinLay A b L' L) s2 := by
    intro i o hi
    cases hA : look A i with
    | some oo => obtain ⟨_, _, _, _, _, _, h1, _⟩ := cA hA; rw [hi] at h1; cases h1
    | none =>
      obtain ⟨e1, e2⟩ := joinLay_none (b := b) (L' := L') (L := L) hA
      cases hB : look (backs outs pp) i with
      | some oo =>
        obtain ⟨j, hm, ho, _⟩ := cB hA hB
        refine ⟨oo, by rw [hs2, hA, hB], ?_⟩
        rcases hWas j i oo hm ho with ⟨cs, cs', h1, rfl, _, _⟩ | ⟨e, sz, es, es', h1, rfl, h2, _⟩
        · rw [hi] at h1; cases h1; exact .inr (.inl ⟨_, _, _, _, rfl, rfl, e2⟩)
        · rw [hi] at h1; cases h1; exact .inr (.inr ⟨_, _, _, _, _, _, _, rfl, rfl, by omega, fun _ => e1⟩)
      | none =>
        obtain ⟨o', h1, h2⟩ := hst.obj i o hi
        refine ⟨o', by rw [hs2, hA, hB]; exact h1, ?_⟩
        rcases h2 with h2 | ⟨_, _, _, _, q1, q2, q3⟩ | ⟨_, _, _, _, _, _, _, q1, q2, q3, q4⟩
        · exact .inl h2
        · exact .inr (.inl ⟨_, _, _, _, q1, q2, e2⟩)
        · exact .inr (.inr ⟨_, _, _, _, _, _, _, q1, q2, q3, fun q5 => e1⟩)
  have hle1 : ∀ i o, look A i = none → look (backs outs pp) i = none → s1 i = some o → s2 i = some o := by
    intro i o h1 h2 h3
    rw [hs2, h1, h2]; exact h3
  have cls : ∀ i bb, blkOf (joinLay A b L' L) s2 i = some bb → (∃ q, blkOf L' sc q = some bb ∧ (i = b + q ∧ i % 1000 ≠ 500 ∨ ∃ j, q = pid j ∧ (j, i) ∈ pp)) ∨ blkOf L s1 i = some bb := by
    intro i bb hb
    cases hA : look A i with
    | some oo =>
      obtain ⟨q, h1, _, h2, h3, h4, _, h5⟩ := cA hA
      refine .inl ⟨q, ?_, .inl ⟨h1, h5⟩⟩
      have e : s2 i = some oo := by rw [hs2, hA]
      cases oo with
      | box cs fr => simp only [blkOf, e, h2, h4] at hb ⊢; exact hb
      | row a b c d => simp only [blkOf, e, h2, h3] at hb ⊢; exact hb
      | dead => simp only [blkOf, e] at hb; cases hb
    | none =>
      obtain ⟨e1, e2⟩ := joinLay_none (b := b) (L' := L') (L := L) hA
      cases hB : look (backs outs pp) i with
      | some oo =>
        obtain ⟨j, hm, ho, h2, _⟩ := cB hA hB
        have e : s2 i = some oo := by rw [hs2, hA, hB]
        refine .inl ⟨pid j, ?_, .inr ⟨j, rfl, hm⟩⟩
        rcases hWas j i oo hm ho with ⟨cs, cs', h1, rfl, _, h5⟩ | ⟨ee, sz, es, es', h1, rfl, _, h5⟩
        · simp only [blkOf, e, h2, e2, h5] at hb ⊢; exact hb
        · simp only [blkOf, e, h2, e1, h5] at hb ⊢; exact hb
      | none =>
        right
        have e : s2 i = s1 i := by rw [hs2, hA, hB]
        simp only [blkOf, e, e1, e2] at hb ⊢; exact hb
  have hMsz : ∀ q bb, blkOf L' sc q = some bb → ∀ i, blkOf L s1 i ≠ some bb := by
    intro q bb h1 i h2
    rcases hgr.own q bb h1 with h | h
    · exact hnM i bb (.inr trivial) (hlive h2) h2 h
    · have := hst.ok.blk_lt h2
      have h : w.heap.size ≤ bb := h
      omega
  have hMF : ∀ kk, kk < F.w0.heap.size → ¬ F.M kk → ¬ (callFr qs outs rd1 L0 w).M kk := by
    intro kk h1 h2 ⟨q, hq⟩
    obtain ⟨j, id, o, _, _, _, _, hb2⟩ := hblk0 q kk hq
    rcases hg.own id kk hb2 with h | h
    · exact h2 h
    · omega
  have hMown : ∀ bb, ((callFr qs outs rd1 L0 w).M bb ∨ w.heap.size ≤ bb) → F.M bb ∨ F.w0.heap.size ≤ bb := by
    intro bb h
    rcases h with ⟨q, hq⟩ | h
    · obtain ⟨j, id, o, _, _, _, _, hb2⟩ := hblk0 q bb hq
      exact hg.own id bb hb2
    · exact .inr (Nat.le_trans hg.size h)
  have hlerd : Rd.le rd rd' := fun p v hp => hgr.le p v (hst.le p v hp)
  refine ⟨v, pv, A ++ (backs outs pp ++ u), rd', joinLay A b L' L, he, hk, hR0 (fun q o hm => ?_) hrv, hlerd, hle, ⟨hok.hrd, fun i cs fr hi => ?_, fun i e sz es fr hi => ?_, fun i1 i2 bb h1 h2 => ?_⟩, ?_⟩
  · have h1 := hA0 hm
    obtain ⟨e1, e2⟩ := joinLay_some (L' := L') (L := L) h1
    obtain ⟨q', h3, _, h4, _⟩ := cA h1
    have : q' = q := by omega
    subst this
    exact ⟨h4, by show s2 (b + q') = some o; rw [hs2, h1], e1, e2⟩
  · have hi : s2 i = some (.box cs fr) := hi
    cases hA : look A i with
    | some oo =>
      obtain ⟨q, h1, h2, h3, h4, h5, _⟩ := cA hA
      rw [hs2, hA] at hi
      cases hi
      obtain ⟨vs, e, k1, k2, k3, k4, k5⟩ := hok.box q cs fr h3
      rw [h5]
      exact ⟨vs, e, k1, (persAll (pers3 hres (look_mem h2)).1 k2).imp fun _ _ => rep1_of_P, k3, k4, k5⟩
    | none =>
      obtain ⟨e1, e2⟩ := joinLay_none (b := b) (L' := L') (L := L) hA
      rw [e2]
      cases hB : look (backs outs pp) i with
      | some oo =>
        obtain ⟨j, hm, ho, h2, _⟩ := cB hA hB
        rw [hs2, hA, hB] at hi
        cases hi
        rcases hWas j i _ hm ho with ⟨cs1, cs', h1, h3, h4, h5⟩ | ⟨_, _, _, _, _, h3, _⟩
        · cases h3
          obtain ⟨vs, e, k1, k2, k3, k4, k5⟩ := hok.box (pid j) cs false h2
          rw [← h5]
          exact ⟨vs, e, k1, (persAll h4 k2).imp fun _ _ => rep1_of_P, k3, k4, k5⟩
        · cases h3
      | none =>
        rw [hs2, hA, hB] at hi
        have hb : blkOf L s1 i = some (L.bl i) := by simp [blkOf, hi]
        obtain ⟨vs, e, k1, _, k3, k4, k5⟩ := hst.ok.box i cs fr hi
        obtain ⟨vs', e', k1', k2', _⟩ := hw.box i cs fr (hbx i cs fr hi)
        have hvv : vs' = vs := by rw [k1] at k1'; cases k1'; rfl
        subst hvv
        exact ⟨vs', e, (hsame i _ hb).trans k1, k2'.imp fun _ _ => rep1_mono hlerd hle, k3, fun hf p v hp hpb => k4 hf p v (hnewrd i _ hb p v hp hpb) hpb,
          fun hf j c v hc hv => ⟨hgr.le _ _ (k5 hf j c v hc hv).1, (k5 hf j c v hc hv).2.mono hgr.le⟩⟩
  · have hi : s2 i = some (.row e sz es fr) := hi
    cases hA : look A i with
    | some oo =>
      obtain ⟨q, h1, h2, h3, h4, h5, _⟩ := cA hA
      rw [hs2, hA] at hi
      cases hi
      rw [h4]
      exact hok.row q e sz es fr h3
    | none =>
      obtain ⟨e1, e2⟩ := joinLay_none (b := b) (L' := L') (L := L) hA
      rw [e1]
      cases hB : look (backs outs pp) i with
      | some oo =>
        obtain ⟨j, hm, ho, h2, _⟩ := cB hA hB
        rw [hs2, hA, hB] at hi
        cases hi
        rcases hWas j i _ hm ho with ⟨_, _, _, h3, _⟩ | ⟨_, _, _, _, h1, h3, h4, h5⟩
        · cases h3
        · cases h3
          rw [← h5]
          exact hok.row (pid j) _ _ _ _ h2
      | none =>
        rw [hs2, hA, hB] at hi
        obtain ⟨xs, k1, k2, k3, k4⟩ := hst.ok.row i e sz es fr hi
        have hb : ∀ bb, (L.sv i).ownBlock = some bb → blkOf L s1 i = some bb := fun bb h => by simp [blkOf, hi, h]
        exact ⟨xs, ownsRow_heap k1 fun bb h => hsame i bb (hb bb h), k2.imp fun _ _ h => h.mono hgr.le, k3, fun bb h p v hp hpb => k4 bb h p v (hnewrd i bb (hb bb h) p v hp hpb) hpb⟩
  · rcases cls i1 bb h1 with ⟨q1, b1, k1⟩ | b1 <;> rcases cls i2 bb h2 with ⟨q2, b2, k2⟩ | b2
    · have := hok.inj q1 q2 bb b1 b2
      subst this
      rcases k1 with ⟨rfl, k1⟩ | ⟨j1, rfl, k1⟩ <;> rcases k2 with ⟨rfl, k2⟩ | ⟨j2, h3, k2⟩
      · rfl
      · rw [h3] at k1; exfalso; apply k1; simp only [pid]; omega
      · exfalso; apply k2; simp only [pid]; omega
      · have := pid_inj h3
        subst this
        exact nod_fst hpass.nod1 k1 k2
    · exact absurd b2 (hMsz q1 bb b1 i2)
    · exact absurd b1 (hMsz q2 bb b2 i1)
    · exact hst.ok.inj i1 i2 bb b1 b2
  · refine ⟨hgr.os.trans hg.os, hgr.tape.trans hg.tape, hgr.output.trans hg.output, Nat.le_trans hg.size hgr.size, fun kk h1 h2 => (hgr.block kk (Nat.lt_of_lt_of_le h1 hg.size) (hMF kk h1 h2)).trans (hg.block kk h1 h2),
      fun p v hp => hlerd p v (hg.le p v hp), fun p v hp => ?_, fun i bb hb => ?_, fun i hi => ?_, fun i hi e sz es fr h => ?_⟩
    · rcases hgr.new p v hp with h | h | h
      · exact hst.gr.new p v h
      · exact .inr (hMown _ (.inl h))
      · exact .inr (hMown _ (.inr h))
    · rcases cls i bb hb with ⟨q, b1, _⟩ | b1
      · exact hMown _ (hgr.own q bb b1)
      · exact hst.gr.own i bb b1
    · cases hA : look A i with
      | some oo => exact absurd (F.pin5 i hi) (hAs i oo (look_mem hA)).2.1
      | none =>
        obtain ⟨e1, e2⟩ := joinLay_none (b := b) (L' := L') (L := L) hA
        rw [e1, e2]; exact hg.pins i hi
    · have h : s2 i = some (.row e sz es fr) := h
      cases hA : look A i with
      | some oo => exact absurd (F.pin5 i hi) (hAs i oo (look_mem hA)).2.1
      | none =>
        cases hB : look (backs outs pp) i with
        | some oo =>
          obtain ⟨j, hm, ho, _⟩ := cB hA hB
          rw [hs2, hA, hB] at h
          cases h
          rcases hWas j i _ hm ho with ⟨_, _, _, h1, _⟩ | ⟨_, _, _, _, h1, _⟩
          · cases h1
          · exact hg.pb i hi _ _ _ _ h1
        | none =>
          rw [hs2, hA, hB] at h
          exact hst.gr.pb i hi _ _ _ _ h
end
structure Sig where
  T : Tab
  own : List (Nat × List Bool)

def dstOK (d : Option Nat) (n : Nat) : Bool := match d with
  | some t => Nat.blt t n
  | none => true

/-- One operation, calls too. -/
def stepVC (P : Program) (G : Sig) (o : Oper) (σ : St) (k : St → Prop) : Prop :=
  match o.op with
  | .call { callee := .value c, args, .. } => match evo σ.get c with
    | .fn f cap => dstOK o.dst σ.n = true ∧ callVC P (lookD [] G.own f) f (args.toList.map (evo σ.get) ++ cap) o.dst σ.obj fun v u => k ((σ.upd u).set o.dst v)
    | _ => False
  | _ => dstOK o.dst σ.n = true ∧ opVC G.T o σ.get σ.obj fun v u => k ((σ.upd u).set o.dst v)

def bval (b : Bool) : PV := .sc (.bool b)

/-- The operations of a region one after another. -/
def vcL (P : Program) (G : Sig) (ops : List Oper) : List Oper → St → (St → Prop) → Prop
  | [], σ, k => k σ
  | o :: l, σ, k => match o.guard with
    | none => stepVC P G o σ fun σ' => vcL P G ops l σ' k
    | some (j, want) => match (ops[j]?).bind (·.dst) with
      | some t => match σ.get t with
        | .sc (.bool b) => (b = want → stepVC P G o (σ.set (some t) (bval want)) fun σ' => vcL P G ops l σ' k) ∧ (b = !want → dstOK o.dst σ.n = true ∧ vcL P G ops l ((σ.set (some t) (bval (!want))).set o.dst (.tup [])) k)
        | .tup [] => dstOK o.dst σ.n = true ∧ vcL P G ops l (σ.set o.dst (.tup [])) k
        | _ => False
      | none => False

def MW (P : Program) (c : Code) (σ : St) (k : Exit → St → Prop) : Prop :=
  ∀ F a w, Sim F σ a w → c.wp P (fun e a' w' => ∃ σ', k e σ' ∧ Sim F σ' a' w') a w

section
variable {P : Program} {G : Sig} {F : Fr} {σ : St} {a : Act} {w : World}

theorem getD_put (a : Act) (d : Option Nat) (v : Value) (t : Nat) (h : dstOK d a.tmps.size = true) : (a.put d v).tmps.getD t undef = if d = some t then v else a.tmps.getD t undef := by
  cases d with
  | none => simp [Act.put]
  | some d =>
    have hd : d < a.tmps.size := by simpa [dstOK, Nat.blt_eq] using h
    simp only [Act.put, Array.getD_eq_getD_getElem?, Array.getElem?_setIfInBounds]
    by_cases hdt : d = t
    · subst hdt; simp [hd]
    · simp [hdt]
theorem St.get_set (σ : St) (d : Option Nat) (v : PV) (t : Nat) : (σ.set d v).get t = if d = some t then v else σ.get t := by
  cases d with
  | none => simp [St.set]
  | some d =>
    simp only [St.set, St.get, lookD]
    by_cases hdt : d = t
    · subst hdt; simp
    · have : Nat.beq d t = false := by
        cases hb : Nat.beq d t with
        | false => rfl
        | true => exact absurd (Nat.eq_of_beq_eq_true hb) hdt
      simp [this, hdt]
theorem St.obj_set (σ : St) (d : Option Nat) (v : PV) : (σ.set d v).obj = σ.obj := by cases d <;> rfl
theorem St.n_set (σ : St) (d : Option Nat) (v : PV) : (σ.set d v).n = σ.n := by cases d <;> rfl
theorem St.get_upd (σ : St) (u : List (Nat × Obj)) (t : Nat) : (σ.upd u).get t = σ.get t := rfl

theorem sim_put {rd rd' : Rd} {L L' : Lay} {u : List (Nat × Obj)} {w' : World} (hs : a.tmps.size = σ.n) (hd : a.defers = []) (hrep : ∀ t, rep3 rd L σ.obj (σ.get t) (a.tmps.getD t undef)) (hst : Stp F rd L σ.obj rd' L' (ov u σ.obj) w') {d : Option Nat} (hdst : dstOK d σ.n = true)
    {pv : PV} {v : Value} (hv : rep3 rd' L' (ov u σ.obj) pv v) : Sim F ((σ.upd u).set d pv) (a.put d v) w' := by
  have ho : ((σ.upd u).set d pv).obj = ov u σ.obj := by rw [St.obj_set, St.obj_upd]
  refine ⟨rd', L', ?_, ?_, fun t => ?_, by rw [ho]; exact hst.ok, by rw [ho]; exact hst.gr⟩
  · cases d <;> simp [Act.put, St.set, St.upd, hs]
  · cases d <;> simp [Act.put, hd]
  · rw [ho, getD_put a d v t (by rw [hs]; exact hdst), St.get_set]
    split
    · exact hv
    · exact rep3_mono hst.le hst.obj (hrep t)

theorem step_ok (hT : TabOK P G.T) (hs : Sim F σ a w) {o : Oper} {k : St → Prop} (h : stepVC P G o σ k) (Q : Exit → Act → World → Prop) : o.wp P a w (fun a' w' => ∃ σ', k σ' ∧ Sim F σ' a' w') Q := by
  obtain ⟨rd, L, hn, hdf, hrep, hw, hg⟩ := hs
  have other : dstOK o.dst σ.n = true ∧ opVC G.T o σ.get σ.obj (fun v u => k ((σ.upd u).set o.dst v)) → o.wp P a w (fun a' w' => ∃ σ', k σ' ∧ Sim F σ' a' w') Q := by
    intro ⟨hd, h⟩
    obtain ⟨pv, u, rd', L', w', nx, val, hk, hr, hnx, hv, hst⟩ := op_ok hT hrep hw hg h
    unfold Oper.wp
    rw [hr]
    rcases hnx with rfl | ⟨rfl, rfl⟩
    · exact ⟨_, hk, sim_put hn hdf hrep hst hd hv⟩
    · exact ⟨_, hk, sim_put hn hdf hrep hst hd hv⟩
  unfold stepVC at h
  split at h
  · rename_i c args tys hop
    have hc := evo_rep hrep c
    split at h
    · rename_i f cap hp
      rw [hp] at hc
      obtain ⟨hd, h⟩ := h
      obtain ⟨vs, hv, hvs⟩ : ∃ vs : List Value, a.eval c = .func (.func f) #[] vs.toArray ∧ All2 (rep3 rd L σ.obj) cap vs := by
        have hc : RepP rd (.fn f cap) (a.eval c) := hc
        generalize a.eval c = x at hc
        cases hc with
        | fn hl hh => exact ⟨_, rfl, All2.of_get hl fun i c v h1 h2 => rep3_of_P (hh i c v h1 h2)⟩
      have hall : ∀ l : List Operand, All2 (rep3 rd L σ.obj) (l.map (evo σ.get)) (l.map a.eval) := by
        intro l
        induction l with
        | nil => exact .nil
        | cons x l ih => exact .cons (evo_rep hrep x) ih
      obtain ⟨hen, hcall⟩ := call_ok hw hg ((hall args.toList).append hvs) h
      unfold Oper.wp
      have hr : (execOp a.eval o).run P w = .ok (.enter f (args.toList.map a.eval ++ vs).toArray) w := by
        have e1 : (args.toList.map a.eval ++ vs).toArray = args.map a.eval ++ vs.toArray := by rw [← Array.toList_inj]; simp
        have := hen (args.map a.eval ++ vs.toArray) w
        rw [e1]
        simp only [execOp, hop, resolve, hv, Deferred.ofValue, Sem.run_bind]
        simp only [pure, Sem.run, Result.andThen, invoke]
        simpa using this
      rw [hr, Oper.upon_enter]
      refine hcall.mono fun e w' ⟨v, pv, u, rd', L', he, hk, hv, hst⟩ => ?_
      subst he
      exact ⟨_, hk, sim_put hn hdf hrep hst hd hv⟩
    · exact h.elim
  · exact other h

theorem unb {rd : Rd} {L : Lay} {s : Objs} {ops : Array Oper} {j t : Nat} (ht : (ops[j]?).bind (·.dst) = some t) (hb : rep3 rd L s (.tup []) (a.tmps.getD t undef)) : yielded ops a.tmps j = none := by
  obtain ⟨vs, h1, h2⟩ := hb
  cases h2
  unfold yielded
  rw [ht, Option.bind_some]
  rw [Array.getD_eq_getD_getElem?] at h1
  cases hq : a.tmps[t]? with
  | none => rfl
  | some x => rw [hq] at h1; simp only [Option.getD_some] at h1; rw [h1]

theorem vcL_ok (hT : TabOK P G.T) {ops : Array Oper} {F : Fr} : ∀ (l : List Oper) (i : Nat) (σ : St) (a : Act) (w : World) (k : St → Prop), Sim F σ a w → ops.toList.drop i = l → vcL P G ops.toList l σ k →
    ∀ Q : Exit → Act → World → Prop, (∀ σ' a' w', k σ' → Sim F σ' a' w' → Q .normal a' w') → wpOps P ops Q (List.range' i l.length) a w := by
  intro l
  induction l with
  | nil => intro i σ a w k hs _ h Q hQ; exact hQ σ a w h hs
  | cons o l ih =>
    intro i σ a w k hs hl h Q hQ
    have hi : ops[i]? = some o := by
      have := congrArg (·[0]?) hl
      simpa [List.getElem?_drop] using this
    have hl' : ops.toList.drop (i + 1) = l := by
      have := congrArg (List.drop 1) hl
      simpa [List.drop_drop, Nat.add_comm] using this
    simp only [List.length_cons, List.range'_succ, wpOps, hi]
    simp only [vcL] at h
    -- a step whose continuation is known
    have go : ∀ {σ1 : St}, Sim F σ1 a w → stepVC P G o σ1 (fun σ' => vcL P G ops.toList l σ' k) →
        o.wp P a w (wpOps P ops Q (List.range' (i + 1) l.length)) Q := by
      intro σ1 hs1 h1
      have h2 := step_ok hT hs1 h1 Q
      unfold Oper.wp at h2 ⊢
      revert h2
      cases (execOp a.eval o).run P w with
      | halt hh w' => cases hh <;> exact fun h => h
      | ok nx w' =>
        cases nx with
        | value v => exact fun ⟨σ', h1, h2⟩ => ih (i + 1) σ' _ _ k h2 hl' h1 Q hQ
        | skip => exact fun ⟨σ', h1, h2⟩ => ih (i + 1) σ' _ _ k h2 hl' h1 Q hQ
        | defer d => exact fun ⟨σ', h1, h2⟩ => ih (i + 1) σ' _ _ k h2 hl' h1 Q hQ
        | enter f args =>
          intro h2
          refine Calls.mono h2 fun e w'' => ?_
          cases e with
          | returned v => exact fun ⟨σ', h1, h2⟩ => ih (i + 1) σ' _ _ k h2 hl' h1 Q hQ
          | panicked c => exact fun h => h
          | outgrown => exact fun h => h
        | row r args =>
          intro h2
          exact Rows.mono h2 fun v w'' ⟨σ', h1, h2⟩ => ih (i + 1) σ' _ _ k h2 hl' h1 Q hQ
        | _ => exact fun h => h
    cases hg : o.guard with
    | none =>
      rw [hg] at h
      have hw : Region.wanted o (yielded ops a.tmps) = true := by simp [Region.wanted, hg]
      rw [if_pos hw]
      exact .inl (go hs h)
    | some jw =>
      obtain ⟨j, want⟩ := jw
      rw [hg] at h
      dsimp only at h
      cases ht : (ops.toList[j]?).bind (·.dst) with
      | none => rw [ht] at h; exact h.elim
      | some t =>
        rw [ht] at h
        dsimp only at h
        cases hp : σ.get t with
        | sc v =>
          rw [hp] at h
          cases v with
          | bool b =>
            dsimp only at h
            obtain ⟨rd, L, hn, hdf, hrep, hwk, hgr⟩ := hs
            have hb := hrep t
            rw [hp] at hb
            have hb := rep3_bool hb
            have hy : yielded ops a.tmps j = some b := by
              have ht' : (ops[j]?).bind (·.dst) = some t := by simpa using ht
              simp only [yielded, ht', Option.bind_some]
              rw [Array.getD_eq_getD_getElem?] at hb
              cases hq : a.tmps[t]? with
              | none => rw [hq] at hb; cases hb
              | some x => rw [hq] at hb; simp only [Option.getD_some] at hb; rw [hb]
            have hset : ∀ c, b = c → Sim F (σ.set (some t) (bval c)) a w := by
              intro c hc
              refine ⟨rd, L, by rw [St.n_set]; exact hn, hdf, fun q => ?_, by rw [St.obj_set]; exact hwk, by rw [St.obj_set]; exact hgr⟩
              rw [St.obj_set, St.get_set]
              split
              · rename_i hq
                cases hq
                rw [hb, hc]; exact .sc rfl
              · exact hrep q
            by_cases hbw : b = want
            · have hw : Region.wanted o (yielded ops a.tmps) = true := by simp [Region.wanted, hg, hy, hbw]
              rw [if_pos hw]
              exact .inl (go (hset want hbw) (h.1 hbw))
            · have hw : Region.wanted o (yielded ops a.tmps) = false := by simp [Region.wanted, hg, hy, hbw]
              rw [if_neg (by rw [hw]; simp)]
              have hbn : b = !want := by cases b <;> cases want <;> simp_all
              obtain ⟨hd, h2⟩ := h.2 hbn
              obtain ⟨rd, L, hn, hdf, hrep, hwk, hgr⟩ := hset (!want) hbn
              refine ih (i + 1) _ _ _ k ?_ hl' h2 Q hQ
              have := sim_put (σ := σ.set (some t) (bval (!want))) (u := []) hn hdf hrep (Stp.refl hwk hgr) (d := o.dst) (by rw [St.n_set]; exact hd) (pv := .tup []) (v := undef) ⟨[], rfl, .nil⟩
              exact this
          | _ => exact h.elim
        | tup ps =>
          rw [hp] at h
          cases ps with
          | nil =>
            dsimp only at h
            obtain ⟨rd, L, hn, hdf, hrep, hwk, hgr⟩ := hs
            have hb := hrep t
            rw [hp] at hb
            have hw : Region.wanted o (yielded ops a.tmps) = false := by
              have ht' : (ops[j]?).bind (·.dst) = some t := by simpa using ht
              simp [Region.wanted, hg, unb ht' hb]
            rw [if_neg (by rw [hw]; simp)]
            exact ih (i + 1) _ _ _ k (sim_put (σ := σ) (u := []) hn hdf hrep (Stp.refl hwk hgr) (d := o.dst) h.1 (pv := .tup []) (v := undef) ⟨[], rfl, .nil⟩) hl' h.2 Q hQ
          | cons => exact h.elim
        | _ => rw [hp] at h; exact h.elim

theorem MW_region (hT : TabOK P G.T) {id : Nat} {ops : Array Oper} {k : Exit → St → Prop} (h : vcL P G ops.toList ops.toList σ (k .normal)) : MW P (.region id ops false) σ k := by
  intro F a w hs
  refine wp_region ?_
  have := vcL_ok hT ops.toList 0 σ a w (k .normal) hs (by simp) h (fun e a' w' => ∃ σ', k e σ' ∧ Sim F σ' a' w') (fun σ' a' w' h1 h2 => ⟨σ', h1, h2⟩)
  rw [List.range_eq_range']
  simpa using this
end
def St.know (σ : St) (c : Operand) (b : Bool) : St := match c with
  | .tmp t => σ.set (some t) (bval b)
  | _ => σ

/-- Regions whose order Go leaves open: 'D' tells which of them are understood (see Vi18). -/
def vc (P : Program) (G : Sig) (D : Array Oper → Bool) : Code → St → (Exit → St → Prop) → Prop
  | .skip, σ, k => k .normal σ
  | .region _ ops false, σ, k => vcL P G ops.toList ops.toList σ (k .normal)
  | .region _ ops true, σ, k => D ops = true ∧ vcL P G ops.toList ops.toList σ (k .normal)
  | .seq x y, σ, k => vc P G D x σ fun e σ' => match e with
    | .normal => vc P G D y σ' k
    | e => k e σ'
  | .cond c x y, σ, k => match evo σ.get c with
    | .sc (.bool b) => (b = true → vc P G D x (σ.know c true) k) ∧ (b = false → vc P G D y (σ.know c false) k)
    | _ => False
  | .block id c, σ, k => vc P G D c σ fun e σ' => match e with
    | .exit i => match Nat.beq i id with
      | true => k .normal σ'
      | false => k (.exit i) σ'
    | e => k e σ'
  | .loop c, σ, k => MW P (.loop c) σ k
  | .exit id, σ, k => k (.exit id) σ
  | .ret, σ, k => k .ret σ
  | _, _, _ => False

section
variable {P : Program} {G : Sig} {D : Array Oper → Bool} {F : Fr} {σ τ : St} {a : Act} {w : World}

theorem MW.mono {c : Code} {k k' : Exit → St → Prop} (h : MW P c σ k) (f : ∀ e σ, k e σ → k' e σ) : MW P c σ k' :=
  fun F a w hs => wp_mono (h F a w hs) fun e a' w' ⟨σ', h1, h2⟩ => ⟨σ', f e σ' h1, h2⟩

theorem sim_know (hs : Sim F σ a w) {c : Operand} {b : Bool} (h : evo σ.get c = .sc (.bool b)) : Sim F (σ.know c b) a w ∧ a.eval c = .bool b := by
  obtain ⟨rd, L, hn, hdf, hrep, hwk, hgr⟩ := hs
  have hc := evo_rep hrep c
  rw [h] at hc
  have hc := rep3_bool hc
  refine ⟨?_, hc⟩
  cases c with
  | tmp t =>
    refine ⟨rd, L, by simp only [St.know]; rw [St.n_set]; exact hn, hdf, fun q => ?_, by simp only [St.know]; rw [St.obj_set]; exact hwk, by simp only [St.know]; rw [St.obj_set]; exact hgr⟩
    simp only [St.know]
    rw [St.obj_set, St.get_set]
    split
    · rename_i hq
      cases hq
      rw [show a.tmps.getD t undef = .bool b from hc]; exact .sc rfl
    · exact hrep q
  | _ => exact ⟨rd, L, hn, hdf, hrep, hwk, hgr⟩

theorem vc_ok (hT : TabOK P G.T) (hD : ∀ ops, D ops = true → ∀ σ k id, vcL P G ops.toList ops.toList σ (k .normal) → MW P (.region id ops true) σ k) : ∀ (c : Code) (σ : St) (k : Exit → St → Prop), vc P G D c σ k → MW P c σ k := by
  intro c
  induction c with
  | skip => intro σ k h F a w hs; exact wp_skip ⟨σ, h, hs⟩
  | region id ops b =>
    intro σ k h
    cases b with
    | false => exact MW_region hT h
    | true => exact hD ops h.1 σ k id h.2
  | seq x y ihx ihy =>
    intro σ k h F a w hs
    refine wp_seq (wp_mono (ihx σ _ h F a w hs) fun e a' w' ⟨σ', h1, h2⟩ => ?_)
    cases e with
    | normal => exact ihy σ' k h1 F a' w' h2
    | _ => exact ⟨σ', h1, h2⟩
  | cond c x y ihx ihy =>
    intro σ k h F a w hs
    simp only [vc] at h
    split at h
    · rename_i b hp
      cases b with
      | true => obtain ⟨h1, h2⟩ := sim_know hs hp; exact wp_cond_true h2 (ihx _ k (h.1 rfl) F a w h1)
      | false => obtain ⟨h1, h2⟩ := sim_know hs hp; exact wp_cond_false h2 (ihy _ k (h.2 rfl) F a w h1)
    · exact h.elim
  | block id c ih =>
    intro σ k h F a w hs
    refine wp_block (wp_mono (ih σ _ h F a w hs) fun e a' w' ⟨σ', h1, h2⟩ => ?_)
    cases e with
    | exit i =>
      simp only [Exit.inBlock]
      dsimp only at h1
      cases hb : Nat.beq i id with
      | true => rw [hb] at h1; rw [if_pos (Nat.eq_of_beq_eq_true hb)]; exact ⟨σ', h1, h2⟩
      | false => rw [hb] at h1; rw [if_neg (fun he => by rw [he, Nat.beq_refl] at hb; cases hb)]; exact ⟨σ', h1, h2⟩
    | _ => exact ⟨σ', h1, h2⟩
  | loop c ih => intro σ k h; exact h
  | exit id => intro σ k h F a w hs; exact wp_exit ⟨σ, h, hs⟩
  | ret => intro σ k h F a w hs; exact wp_ret ⟨σ, h, hs⟩
  | _ => intro σ k h; exact h.elim

/-- τ says no more than σ. -/
def Less (τ σ : St) : Prop := ∀ F a w, Sim F σ a w → Sim F τ a w

theorem MW.weaken {c : Code} {k : Exit → St → Prop} (h : Less τ σ) (hm : MW P c τ k) : MW P c σ k := fun F a w hs => hm F a w (h F a w hs)

theorem MW_loop {α : Type} (I : α → St) (μ : α → Nat) {c : Code} {k : Exit → St → Prop} (x0 : α) (h0 : Less (I x0) σ)
    (round : ∀ x, MW P c (I x) fun e σ' => match e with | .normal => ∃ y, Less (I y) σ' ∧ μ y < μ x | e => k e σ') : MW P (.loop c) σ k := by
  intro F a w hs
  refine wp_mono (Q := fun e a' w' => ∃ σ', k e σ' ∧ Sim F σ' a' w') ?_ fun _ _ _ h => h
  have key : ∀ n x a w, μ x = n → Sim F (I x) a w → (Code.loop c).wp P (fun e a' w' => ∃ σ', k e σ' ∧ Sim F σ' a' w') a w := by
    intro n x a w hn hs
    let J : Act → World → Prop := fun a w => ∃ x, Sim F (I x) a w
    -- the least measure among the states that hold
    have : ∀ a w, J a w → ∃ x, Sim F (I x) a w ∧ ∀ y, Sim F (I y) a w → μ x ≤ μ y := by
      intro a w ⟨x, hx⟩
      have : ∀ n, ∀ x, μ x = n → Sim F (I x) a w → ∃ x, Sim F (I x) a w ∧ ∀ y, Sim F (I y) a w → μ x ≤ μ y := by
        intro n
        induction n using Nat.strongRecOn with
        | _ n ih =>
          intro x hx hs
          by_cases h : ∃ y, Sim F (I y) a w ∧ μ y < n
          · obtain ⟨y, h1, h2⟩ := h; exact ih (μ y) h2 y rfl h1
          · exact ⟨x, hs, fun y hy => by rcases Nat.lt_or_ge (μ y) n with h' | h'; exact absurd ⟨y, hy, h'⟩ h; omega⟩
      exact this (μ x) x rfl hx
    classical
    let m : Act → World → Nat := fun a w => if h : J a w then μ (Classical.choose (this a w h)) else 0
    refine wp_loop J m ⟨x, hs⟩ fun a w hJ => ?_
    have hm : m a w = μ (Classical.choose (this a w hJ)) := by simp only [m]; rw [dif_pos hJ]
    have hc := Classical.choose_spec (this a w hJ)
    refine wp_mono (round _ F a w hc.1) fun e a' w' ⟨σ', h1, h2⟩ => ?_
    cases e with
    | normal =>
      obtain ⟨y, h3, h4⟩ := h1
      have hy := h3 F a' w' h2
      refine ⟨⟨y, hy⟩, ?_⟩
      have hJ' : J a' w' := ⟨y, hy⟩
      have hm' : m a' w' = μ (Classical.choose (this a' w' hJ')) := by simp only [m]; rw [dif_pos hJ']
      rw [hm, hm']
      exact Nat.lt_of_le_of_lt ((Classical.choose_spec (this a' w' hJ')).2 y hy) h4
    | _ => exact ⟨σ', h1, h2⟩
  exact key _ x0 a w rfl (h0 F a w hs)

/-- References within a state that says less. -/
def ref1 (s : Objs) : PV → Bool
  | .loc id _ | .lel id _ _ _ | .ls id _ | .lw id _ _ => (s id).isSome
  | _ => true
def ref2 (s : Objs) : PV → Bool
  | .agg cs => cs.all (ref1 s)
  | p => ref1 s p
def ref3 (s : Objs) : PV → Bool
  | .tup ps => ps.all (ref2 s)
  | p => ref2 s p

def fitE (τ σ : St) : List (Nat × PV) → Prop
  | [] => True
  | (t, v) :: r => (match v with
    | .ls id 0 => (match σ.get t with
      | .nils => ∃ e sz, τ.obj id = some (.row e sz [] false) ∧ σ.obj id = none
      | p => p = .ls id 0 ∧ ref3 τ.obj p = true)
    | v => σ.get t = v ∧ ref3 τ.obj v = true) ∧ fitE τ σ r
def fitC (τ σ : St) : List PV → List PV → Prop
  | [], [] => True
  | c :: cs, c' :: cs' => (match c with
    | .ls id 0 => (match c' with
      | .nils => ∃ e sz, τ.obj id = some (.row e sz [] false) ∧ σ.obj id = none
      | p => p = .ls id 0 ∧ ref1 τ.obj p = true)
    | c => c' = c ∧ ref1 τ.obj c = true) ∧ fitC τ σ cs cs'
  | _, _ => False
def fitO (τ σ : St) : List (Nat × Obj) → Prop
  | [] => True
  | (id, o) :: r => (match σ.obj id with
    | some o' => (match o with
      | .box cs false => (match o' with
        | .box cs' false => fitC τ σ cs cs'
        | _ => False)
      | .box cs true => o' = .box cs true ∧ cs.all (ref1 τ.obj) = true
      | o => o' = o)
    | none => id % 1000 ≠ 500 ∧ ∃ e sz, o = .row e sz [] false) ∧ fitO τ σ r
def Fits (τ σ : St) : Prop := τ.n = σ.n ∧ fitE τ σ τ.env ∧ fitO τ σ τ.st

theorem lookD_mem {α : Type} {d : α} {l : List (Nat × α)} {t : Nat} : lookD d l t = d ∨ (t, lookD d l t) ∈ l := by
  induction l with
  | nil => exact .inl rfl
  | cons x l ih =>
    obtain ⟨s, v⟩ := x
    simp only [lookD]
    cases hb : Nat.beq s t with
    | true => right; simp [Nat.eq_of_beq_eq_true hb]
    | false =>
      rcases ih with h | h
      · exact .inl h
      · right; simp [h]

/-- Cells of a state that says less. -/
def CellOK (τ σ : St) (c c' : PV) : Prop := (c' = c ∧ ref1 τ.obj c = true) ∨ (∃ id, c = .ls id 0 ∧ c' = .nils ∧ (∃ e sz, τ.obj id = some (.row e sz [] false)) ∧ σ.obj id = none)
theorem fitC_spec : ∀ {cs cs' : List PV}, fitC τ σ cs cs' → All2 (CellOK τ σ) cs cs' := by
  intro cs
  induction cs with
  | nil => intro cs' h; cases cs' with
    | nil => exact .nil
    | cons => exact h.elim
  | cons c cs ih => intro cs' h; cases cs' with
    | nil => exact h.elim
    | cons c' cs' =>
      refine .cons ?_ (ih h.2)
      have h1 := h.1
      split at h1
      · split at h1
        · obtain ⟨e, sz, h3, h4⟩ := h1
          exact .inr ⟨_, rfl, rfl, ⟨e, sz, h3⟩, h4⟩
        · obtain ⟨h3, h4⟩ := h1
          rw [h3] at h4
          exact .inl ⟨h3, h4⟩
      · exact .inl h1
theorem fitO_spec : ∀ {l : List (Nat × Obj)}, fitO τ σ l → ∀ id o, (id, o) ∈ l → (σ.obj id = some o ∧ (∀ cs fr, o = .box cs fr → cs.all (ref1 τ.obj) = true)) ∨ (σ.obj id = none ∧ id % 1000 ≠ 500 ∧ ∃ e sz, o = .row e sz [] false) ∨
    (∃ cs cs', o = .box cs false ∧ σ.obj id = some (.box cs' false) ∧ All2 (CellOK τ σ) cs cs') := by
  intro l
  induction l with
  | nil => intro _ id o h; simp at h
  | cons x l ih =>
    obtain ⟨i, oi⟩ := x
    intro h id o hm
    obtain ⟨h1, h2⟩ := h
    simp only [List.mem_cons, Prod.mk.injEq] at hm
    rcases hm with ⟨rfl, rfl⟩ | hm
    · split at h1
      · rename_i o' ho
        split at h1
        · split at h1
          · exact .inr (.inr ⟨_, _, rfl, ho, fitC_spec h1⟩)
          · exact h1.elim
        · obtain ⟨rfl, h3⟩ := h1
          refine .inl ⟨ho, fun cs fr he => ?_⟩
          cases he
          exact h3
        · rename_i hn1 hn2
          subst h1
          refine .inl ⟨ho, fun cs fr he => ?_⟩
          cases fr with
          | true => exact (hn2 _ he).elim
          | false => exact (hn1 _ he).elim
      · rename_i ho
        exact .inr (.inl ⟨ho, h1⟩)
    · exact ih h2 id o hm

theorem fitE_spec : ∀ {l : List (Nat × PV)}, fitE τ σ l → ∀ t v, (t, v) ∈ l → (σ.get t = v ∧ ref3 τ.obj v = true) ∨ (∃ id, v = .ls id 0 ∧ σ.get t = .nils ∧ (∃ e sz, τ.obj id = some (.row e sz [] false)) ∧ σ.obj id = none) := by
  intro l
  induction l with
  | nil => intro _ id o h; simp at h
  | cons x l ih =>
    obtain ⟨i, vi⟩ := x
    intro h t v hm
    obtain ⟨h1, h2⟩ := h
    simp only [List.mem_cons, Prod.mk.injEq] at hm
    rcases hm with ⟨rfl, rfl⟩ | hm
    · split at h1
      · split at h1
        · rename_i hn
          obtain ⟨e, sz, h3, h4⟩ := h1
          exact .inr ⟨_, rfl, hn, ⟨e, sz, h3⟩, h4⟩
        · obtain ⟨h3, h4⟩ := h1
          rw [h3] at h4
          exact .inl ⟨h3, h4⟩
      · exact .inl h1
    · exact ih h2 t v hm
end
section
variable {P : Program} {G : Sig} {D : Array Oper → Bool} {F : Fr} {σ τ : St} {a : Act} {w : World}

theorem obj_mem {σ : St} {id : Nat} {o : Obj} (h : σ.obj id = some o) : (id, o) ∈ σ.st := look_mem h

theorem less_of_fits (h : Fits τ σ) : Less τ σ := by
  intro F a w ⟨rd, L, hn, hdf, hrep, hw, hg⟩
  obtain ⟨h0, hE, hO⟩ := h
  have hO := fitO_spec hO
  have hE := fitE_spec hE
  let L' : Lay := { L with sv := fun i => match σ.obj i, τ.obj i with | none, some _ => .slice none 0 0 | _, _ => L.sv i }
  have hold : ∀ {id o}, σ.obj id = some o → L'.sv id = L.sv id := by
    intro id o h; simp only [L', h]
  have hnew : ∀ {id o}, σ.obj id = none → τ.obj id = some o → L'.sv id = .slice none 0 0 := by
    intro id o h h'; simp only [L', h, h']
  have hrow : ∀ {id e sz es fr}, τ.obj id = some (.row e sz es fr) → σ.obj id ≠ none → σ.obj id = some (.row e sz es fr) := by
    intro id e sz es fr h1 h2
    rcases hO id _ (obj_mem h1) with ⟨h3, _⟩ | ⟨h3, _⟩ | ⟨_, _, h3, _⟩
    · exact h3
    · exact absurd h3 h2
    · cases h3
  have hbox : ∀ {id cs fr}, τ.obj id = some (.box cs fr) → σ.obj id ≠ none → ∃ cs', σ.obj id = some (.box cs' fr) := by
    intro id cs fr h1 h2
    rcases hO id _ (obj_mem h1) with ⟨h3, _⟩ | ⟨h3, _⟩ | ⟨_, cs', h3, h4, _⟩
    · exact ⟨_, h3⟩
    · exact absurd h3 h2
    · cases h3; exact ⟨_, h4⟩
  have r1 : ∀ {v u}, ref1 τ.obj v = true → rep1 rd L σ.obj v u → rep1 rd L' τ.obj v u := by
    intro v u hv hr
    cases v with
    | loc id off =>
      obtain ⟨k1, k2, k3⟩ := hr
      refine ⟨fun ⟨cs, fr, hb⟩ => ?_, k2, fun hq => by simp [ref1, hq] at hv⟩
      obtain ⟨cs', hb'⟩ := hbox hb k3
      exact k1 ⟨cs', fr, hb'⟩
    | lel id n i j =>
      obtain ⟨k1, k2, k3, k4⟩ := hr
      refine ⟨fun e sz es fr hb hl => ?_, fun e sz es fr hb => k2 _ _ _ _ (hrow hb k4), k3, fun hq => by simp [ref1, hq] at hv⟩
      rw [hold (hrow hb k4)]
      exact k1 _ _ _ _ (hrow hb k4) hl
    | ls id n =>
      obtain ⟨k1, k2, k3, k4⟩ := hr
      refine ⟨fun e sz es fr hb hl => ?_, fun e sz es fr hb => k2 _ _ _ _ (hrow hb k4), k3, fun hq => by simp [ref1, hq] at hv⟩
      rw [hold (hrow hb k4)]
      exact k1 _ _ _ _ (hrow hb k4) hl
    | lw id n lo =>
      obtain ⟨k1, k2, k3, k4⟩ := hr
      refine ⟨fun e sz es fr hb hl => ?_, fun e sz es fr hb => k2 _ _ _ _ (hrow hb k4), k3, fun hq => by simp [ref1, hq] at hv⟩
      rw [hold (hrow hb k4)]
      exact k1 _ _ _ _ (hrow hb k4) hl
    | _ => exact hr
  have rnil : ∀ {id v}, (∃ e sz, τ.obj id = some (.row e sz [] false)) → σ.obj id = none → RepP rd .nils v → rep1 rd L' τ.obj (.ls id 0) v := by
    intro id v ⟨e, sz, h3⟩ h4 hr
    cases hr
    exact ⟨fun e' sz' es' fr' hb hl => (hnew h4 h3).symm, fun _ _ _ _ _ => Nat.zero_le _, ⟨none, 0, rfl⟩, by rw [h3]; simp⟩
  have r2 : ∀ {v u}, ref2 τ.obj v = true → rep2 rd L σ.obj v u → rep2 rd L' τ.obj v u := by
    intro v u hv hr
    cases v with
    | agg cs =>
      obtain ⟨vs, k1, k2, k3⟩ := hr
      refine ⟨vs, k1, All2.of_get k2.len fun i c v hc hv2 => ?_, k3⟩
      obtain ⟨v', k4, k5⟩ := k2.get hc
      rw [hv2] at k4
      cases k4
      exact r1 (List.all_eq_true.1 hv c (List.mem_of_getElem? hc)) k5
    | _ => simp only [ref2] at hv; simp only [rep2] at hr ⊢; exact r1 hv hr
  have r3 : ∀ {v u}, ref3 τ.obj v = true → rep3 rd L σ.obj v u → rep3 rd L' τ.obj v u := by
    intro v u hv hr
    cases v with
    | tup cs =>
      obtain ⟨vs, k1, k2⟩ := hr
      refine ⟨vs, k1, All2.of_get k2.len fun i c v hc hv2 => ?_⟩
      obtain ⟨v', k4, k5⟩ := k2.get hc
      rw [hv2] at k4
      cases k4
      exact r2 (List.all_eq_true.1 hv c (List.mem_of_getElem? hc)) k5
    | _ => simp only [ref3] at hv; simp only [rep3] at hr ⊢; exact r2 hv hr
  have hblk : ∀ i b, blkOf L' τ.obj i = some b → blkOf L σ.obj i = some b := by
    intro i b hb
    cases ht : τ.obj i with
    | none => simp [blkOf, ht] at hb
    | some o =>
      rcases hO i o (obj_mem ht) with ⟨h3, _⟩ | ⟨h3, _, e, sz, rfl⟩ | ⟨cs, cs', rfl, h3, _⟩
      · cases o with
        | box cs fr => simp only [blkOf, ht, h3] at hb ⊢; exact hb
        | row e sz es fr => simp only [blkOf, ht, h3, hold h3] at hb ⊢; exact hb
        | dead => simp [blkOf, ht] at hb
      · simp only [blkOf, ht, hnew h3 ht] at hb
        simp [Value.ownBlock] at hb
      · simp only [blkOf, ht, h3] at hb ⊢; exact hb
  refine ⟨rd, L', hn.trans h0.symm, hdf, fun t => ?_, ⟨hw.hrd, fun id cs fr h => ?_, fun id e sz es fr h => ?_, fun i j b hi hj => hw.inj i j b (hblk i b hi) (hblk j b hj)⟩,
    ⟨hg.os, hg.tape, hg.output, hg.size, hg.block, hg.le, hg.new, fun i b hb => hg.own i b (hblk i b hb), fun i hi => ?_, fun i hi e sz es fr h => ?_⟩⟩
  · rcases lookD_mem (d := PV.undef) (l := τ.env) (t := t) with h | h
    · rw [show τ.get t = .undef from h]; trivial
    · rcases hE t _ h with ⟨h1, h2⟩ | ⟨id, h1, h2, ⟨e, sz, h3⟩, h4⟩
      · have h1 : σ.get t = τ.get t := h1
        have h2 : ref3 τ.obj (τ.get t) = true := h2
        rw [← h1] at h2 ⊢
        exact r3 h2 (hrep t)
      · have h1 : τ.get t = .ls id 0 := h1
        have hr := hrep t
        rw [h2] at hr
        rw [h1]
        exact rnil ⟨e, sz, h3⟩ h4 hr
  · rcases hO id _ (obj_mem h) with ⟨h3, h5⟩ | ⟨h3, _, e, sz, h4⟩ | ⟨cs0, cs', h4, h3, h5⟩
    · obtain ⟨vs, e, k1, k2, k3, k4⟩ := hw.box id cs fr h3
      have hall := h5 cs fr rfl
      refine ⟨vs, e, k1, All2.of_get k2.len fun i c v hc hv2 => ?_, k3, k4⟩
      obtain ⟨v', k6, k7⟩ := k2.get hc
      rw [hv2] at k6
      cases k6
      exact r1 (List.all_eq_true.1 hall c (List.mem_of_getElem? hc)) k7
    · cases h4
    · cases h4
      obtain ⟨vs, e, k1, k2, k3, k4, k5⟩ := hw.box id cs' false h3
      refine ⟨vs, e, k1, All2.of_get (h5.len.trans k2.len) fun i c v hc hv2 => ?_, k3, k4, fun hf => by cases hf⟩
      obtain ⟨c', hc', hcell⟩ := h5.get hc
      obtain ⟨v', k6, k7⟩ := k2.get hc'
      rw [hv2] at k6
      cases k6
      rcases hcell with ⟨rfl, hr⟩ | ⟨id', rfl, rfl, hro, hno⟩
      · exact r1 hr k7
      · exact rnil hro hno k7
  · rcases hO id _ (obj_mem h) with ⟨h3, _⟩ | ⟨h3, _, e', sz', h4⟩ | ⟨_, _, h4, _⟩
    · rw [hold h3]; exact hw.row id e sz es fr h3
    · cases h4
      rw [hnew h3 h]
      exact ⟨[], World.ownsRow_nil w 0 e sz, .nil, by simp, fun b hb => by simp [Value.ownBlock] at hb⟩
    · cases h4
  · refine ⟨(hg.pins i hi).1, ?_⟩
    cases hs : σ.obj i with
    | some o => rw [hold hs]; exact (hg.pins i hi).2
    | none =>
      cases ht : τ.obj i with
      | none => rw [show L'.sv i = L.sv i by simp only [L', hs, ht]]; exact (hg.pins i hi).2
      | some o =>
        rcases hO i o (obj_mem ht) with ⟨h3, _⟩ | ⟨_, h4, _⟩ | ⟨_, _, _, h3, _⟩
        · rw [hs] at h3; cases h3
        · exact absurd (F.pin5 i hi) h4
        · rw [hs] at h3; cases h3
  · rcases hO i _ (obj_mem h) with ⟨h3, _⟩ | ⟨h3, h4, _⟩ | ⟨_, _, h4, _⟩
    · exact hg.pb i hi _ _ _ _ h3
    · exact absurd (F.pin5 i hi) h4
    · cases h4
end
def Sub (p r : PV) : Prop := p = r ∨ (p = .nils ∧ ∃ sz, r = .sl none sz [])

/-- One-cell parts of a result: how each is handed back (q: its id if it is an object). -/
def gv (s : Objs) : List (Nat × PV × PV) → (List (Nat × Obj) → List (Nat × Option Nat × Obj) → Prop) → Prop
  | [], k => k [] []
  | (q, p, r) :: l, k => match r with
    | .sl (some e) sz es => match p with
      | .ls id n => match s id with
        | some (.row e' sz' es' false) => e' = e ∧ sz' = sz ∧ n = es'.length ∧ es' = es ∧ gv (ov [(id, .dead)] s) l fun u gs => k (u ++ [(id, .dead)]) ((q, some id, .row e sz es false) :: gs)
        | _ => False
      | .nils => es = [] ∧ gv s l fun u gs => k u ((q, none, .row e sz [] false) :: gs)
      | _ => False
    | .mp cs => match p with
      | .loc id 0 => match s id with
        | some (.box cs' false) => cs' = cs ∧ cs.all persC = true ∧ gv (ov [(id, .dead)] s) l fun u gs => k (u ++ [(id, .dead)]) ((q, some id, .box cs false) :: gs)
        | _ => False
      | _ => False
    | r => share1 s p fun p' u => Sub p' r ∧ gv (ov u s) l fun u' gs => k (u' ++ u) gs

def trL (q : Nat) : List PV → List PV → Option (List (Nat × PV × PV))
  | [], [] => some []
  | p :: ps, r :: rs => (trL (q + 1) ps rs).map ((q, p, r) :: ·)
  | _, _ => none
def tr2 (q : Nat) (p r : PV) : Option (List (Nat × PV × PV)) :=
  match r with
  | .agg rs => match p with
    | .agg ps => trL (q + 1) ps rs
    | _ => none
  | r => match p with
    | .agg _ => none
    | p => some [(q, p, r)]
def trT (q : Nat) : List PV → List PV → Option (List (Nat × PV × PV))
  | [], [] => some []
  | p :: ps, r :: rs => match tr2 q p r with
    | some l => (trT (q + 101) ps rs).map (l ++ ·)
    | none => none
  | _, _ => none
def tr3 (q : Nat) (p r : PV) : Option (List (Nat × PV × PV)) :=
  match r with
  | .tup rs => match p with
    | .tup ps => trT (q + 101) ps rs
    | _ => none
  | r => match p with
    | .tup _ => none
    | p => tr2 q p r

section
variable {P : Program} {G : Sig} {D : Array Oper → Bool} {F : Fr} {rd rd1 rd2 : Rd} {L L2 : Lay} {s s2 : Objs} {w : World}

/-- Whatever the one value stands for, the other stands for. -/
def Conv (rd : Rd) (L : Lay) (s : Objs) (rd2 : Rd) (L2 : Lay) (s2 : Objs) (l : List (Nat × PV × PV)) : Prop := ∀ q p r, (q, p, r) ∈ l → ∀ v, rep1 rd L s p v → rep1 rd2 L2 s2 (adopt1 q r).1 v

theorem trL_rep {ps : List PV} : ∀ {q : Nat} {rs : List PV} {l : List (Nat × PV × PV)} {vs : List Value}, trL q ps rs = some l → Conv rd L s rd2 L2 s2 l → All2 (rep1 rd L s) ps vs → All2 (rep1 rd2 L2 s2) (adoptL q rs).1 vs := by
  induction ps with
  | nil =>
    intro q rs l vs h hc hp
    cases hp
    cases rs with
    | nil => exact .nil
    | cons r rs => simp [trL] at h
  | cons p ps ih =>
    intro q rs l vs h hc hp
    cases rs with
    | nil => simp [trL] at h
    | cons r rs =>
      simp only [trL, Option.map_eq_some_iff] at h
      obtain ⟨l', h1, rfl⟩ := h
      cases hp with
      | cons h2 h3 => exact .cons (hc q p r (by simp) _ h2) (ih h1 (fun q p r hm => hc q p r (by simp [hm])) h3)
theorem tr2_rep {q : Nat} {p r : PV} {l : List (Nat × PV × PV)} {v : Value} (h : tr2 q p r = some l) (hc : Conv rd L s rd2 L2 s2 l) (hp : rep2 rd L s p v) : rep2 rd2 L2 s2 (adopt2 q r).1 v := by
  unfold tr2 at h
  split at h
  · split at h
    · obtain ⟨vs, h1, h2, h3⟩ := hp
      exact ⟨vs, h1, trL_rep h hc h2, h3⟩
    · cases h
  · rename_i hr
    split at h
    · cases h
    · rename_i hpa
      cases h
      have hp1 : rep1 rd L s p v := by
        cases p with
        | agg cs => exact absurd rfl (hpa cs)
        | _ => exact hp
      have := hc q p r (by simp) v hp1
      have e : adopt2 q r = adopt1 q r := by
        cases r with
        | agg cs => exact absurd rfl (hr cs)
        | _ => rfl
      rw [e]
      exact rep2_of_rep1 this
theorem trT_rep {ps : List PV} : ∀ {q : Nat} {rs : List PV} {l : List (Nat × PV × PV)} {vs : List Value}, trT q ps rs = some l → Conv rd L s rd2 L2 s2 l → All2 (rep2 rd L s) ps vs → All2 (rep2 rd2 L2 s2) (adoptT q rs).1 vs := by
  induction ps with
  | nil =>
    intro q rs l vs h hc hp
    cases hp
    cases rs with
    | nil => exact .nil
    | cons r rs => simp [trT] at h
  | cons p ps ih =>
    intro q rs l vs h hc hp
    cases rs with
    | nil => simp [trT] at h
    | cons r rs =>
      simp only [trT] at h
      split at h
      · rename_i l1 h1
        simp only [Option.map_eq_some_iff] at h
        obtain ⟨l', h2, rfl⟩ := h
        cases hp with
        | cons h3 h4 => exact .cons (tr2_rep h1 (fun q p r hm => hc q p r (by simp [hm])) h3) (ih h2 (fun q p r hm => hc q p r (by simp [hm])) h4)
      · cases h
theorem tr3_rep {q : Nat} {p r : PV} {l : List (Nat × PV × PV)} {v : Value} (h : tr3 q p r = some l) (hc : Conv rd L s rd2 L2 s2 l) (hp : rep3 rd L s p v) : rep3 rd2 L2 s2 (adopt3 q r).1 v := by
  unfold tr3 at h
  split at h
  · split at h
    · obtain ⟨vs, h1, h2⟩ := hp
      exact ⟨vs, h1, trT_rep h hc h2⟩
    · cases h
  · rename_i hr
    split at h
    · cases h
    · rename_i hpa
      have hp1 : rep2 rd L s p v := by
        cases p with
        | tup cs => exact absurd rfl (hpa cs)
        | _ => exact hp
      have := tr2_rep h hc hp1
      have e : adopt3 q r = adopt2 q r := by
        cases r with
        | tup cs => exact absurd rfl (hr cs)
        | _ => rfl
      rw [e]
      exact rep3_of_rep2 this

theorem trL_eq {ps : List PV} : ∀ {q : Nat} {rs : List PV} {l : List (Nat × PV × PV)}, trL q ps rs = some l → l.flatMap (fun x => (adopt1 x.1 x.2.2).2) = (adoptL q rs).2 := by
  induction ps with
  | nil =>
    intro q rs l h
    cases rs with
    | nil => cases h; rfl
    | cons r rs => simp [trL] at h
  | cons p ps ih =>
    intro q rs l h
    cases rs with
    | nil => simp [trL] at h
    | cons r rs =>
      simp only [trL, Option.map_eq_some_iff] at h
      obtain ⟨l', h1, rfl⟩ := h
      simp only [List.flatMap_cons, adoptL, ih h1]
theorem tr2_eq {q : Nat} {p r : PV} {l : List (Nat × PV × PV)} (h : tr2 q p r = some l) : l.flatMap (fun x => (adopt1 x.1 x.2.2).2) = (adopt2 q r).2 := by
  unfold tr2 at h
  split at h
  · split at h
    · exact trL_eq h
    · cases h
  · rename_i hr
    split at h
    · cases h
    · cases h
      have e : adopt2 q r = adopt1 q r := by
        cases r with
        | agg cs => exact absurd rfl (hr cs)
        | _ => rfl
      rw [e]
      simp
theorem trT_eq {ps : List PV} : ∀ {q : Nat} {rs : List PV} {l : List (Nat × PV × PV)}, trT q ps rs = some l → l.flatMap (fun x => (adopt1 x.1 x.2.2).2) = (adoptT q rs).2 := by
  induction ps with
  | nil =>
    intro q rs l h
    cases rs with
    | nil => cases h; rfl
    | cons r rs => simp [trT] at h
  | cons p ps ih =>
    intro q rs l h
    cases rs with
    | nil => simp [trT] at h
    | cons r rs =>
      simp only [trT] at h
      split at h
      · rename_i l1 h1
        simp only [Option.map_eq_some_iff] at h
        obtain ⟨l', h2, rfl⟩ := h
        simp only [List.flatMap_append, adoptT, tr2_eq h1, ih h2]
      · cases h
theorem tr3_eq {q : Nat} {p r : PV} {l : List (Nat × PV × PV)} (h : tr3 q p r = some l) : l.flatMap (fun x => (adopt1 x.1 x.2.2).2) = (adopt3 q r).2 := by
  unfold tr3 at h
  split at h
  · split at h
    · exact trT_eq h
    · cases h
  · rename_i hr
    split at h
    · cases h
    · have e : adopt3 q r = adopt2 q r := by
        cases r with
        | tup cs => exact absurd rfl (hr cs)
        | _ => rfl
      rw [e]
      exact tr2_eq h

structure Given (rd0 rd : Rd) (L : Lay) (s : Objs) (w : World) (l : List (Nat × PV × PV)) (gs : List (Nat × Option Nat × Obj)) : Prop where
  conv : ∀ rd2 L2 s2, Rd.le rd rd2 → (∀ q id o, (q, some id, o) ∈ gs → s2 q = some o ∧ L2.sv q = L.sv id ∧ L2.bl q = L.bl id) → (∀ q o, (q, none, o) ∈ gs → s2 q = some o ∧ L2.sv q = .slice none 0 0) → Conv rd0 L s rd2 L2 s2 l
  obj : ∀ q id o, (q, some id, o) ∈ gs → ObjAt rd L w id o ∧ (∀ b, objBlk L id o = some b → blkOf L s id = some b) ∧ s id ≠ none ∧ s id ≠ some .dead
  nil : ∀ q o, (q, none, o) ∈ gs → ∃ e sz, o = .row e sz [] false
  nod : ∀ q q' id o o', (q, some id, o) ∈ gs → (q', some id, o') ∈ gs → q = q'
  eqn : gs.map (fun x => (x.1, x.2.2)) = l.flatMap fun x => (adopt1 x.1 x.2.2).2
  mp : ∀ q id cs, (q, .loc id 0, .mp cs) ∈ l → (q, some id, .box cs false) ∈ gs
end
section
variable {P : Program} {G : Sig} {D : Array Oper → Bool} {F : Fr} {rd rd1 rd2 : Rd} {L L2 : Lay} {s s2 : Objs} {w : World}

theorem Given.kept_obj {u : List (Nat × Obj)} (hu : FzU s u) {id : Nat} (h : ov u s id ≠ none ∧ ov u s id ≠ some .dead) : s id ≠ none ∧ s id ≠ some .dead := by
  refine ⟨fun hn => h.1 (fzu_none hu hn), fun hn => h.2 ?_⟩
  simp only [ov]
  cases hl : look u id with
  | none => exact hn
  | some o3 => obtain ⟨_, _, _, _, q1, _⟩ := hu id o3 hl; rw [hn] at q1; cases q1

theorem blk_fzu {u : List (Nat × Obj)} (hu : FzU s u) (i b : Nat) (hb : blkOf L (ov u s) i = some b) : blkOf L s i = some b := by
  simp only [blkOf, ov] at hb ⊢
  cases hl : look u i with
  | none => rw [hl] at hb; exact hb
  | some o => obtain ⟨e, sz, es, fr, q1, rfl⟩ := hu i o hl; rw [hl] at hb; rw [q1]; exact hb

theorem share1_all (hw : WOk rd L s w) (hg : Grows F rd L s w) {p : PV} {k : PV → List (Nat × Obj) → Prop} (h : share1 s p k) :
    ∃ q u rd1, k q u ∧ FzU s u ∧ Stp F rd L s rd1 L (ov u s) w ∧ ∀ v, rep1 rd L s p v → RepP rd1 q v := by
  cases p with
  | ls id n =>
    simp only [share1] at h
    cases hs : s id with
    | none => rw [hs] at h; exact h.elim
    | some oo =>
      rw [hs] at h
      cases oo with
      | row e sz es fr =>
        obtain ⟨rfl, hk⟩ := h
        obtain ⟨rd1, h1, h2⟩ := freeze_ok hw hg hs
        refine ⟨_, _, rd1, hk, ?_, h1, fun v hp => ?_⟩
        · intro i o ho
          simp only [look] at ho
          cases hb : Nat.beq id i with
          | false => rw [hb] at ho; cases ho
          | true =>
            rw [hb] at ho; cases ho
            have := Nat.eq_of_beq_eq_true hb
            subst this
            exact ⟨e, sz, es, fr, hs, rfl⟩
        · rw [hp.1 _ _ _ _ hs rfl]; exact h2
      | _ => exact h.elim
  | sc v' => exact ⟨_, _, rd, h, FzU.nil s, Stp.refl hw hg, fun v hp => hp⟩
  | nils => exact ⟨_, _, rd, h, FzU.nil s, Stp.refl hw hg, fun v hp => hp⟩
  | sl o sz es => exact ⟨_, _, rd, h, FzU.nil s, Stp.refl hw hg, fun v hp => by
      have hp : RepP rd (.sl o sz es) v := hp
      cases hp with
      | sl a b c d e f g => exact .sl a b c d e f g⟩
  | fn f c => exact ⟨_, _, rd, h, FzU.nil s, Stp.refl hw hg, fun v hp => hp⟩
  | rp c => exact ⟨_, _, rd, h, FzU.nil s, Stp.refl hw hg, fun v hp => hp⟩
  | _ => exact h.elim

theorem gv_ok {l : List (Nat × PV × PV)} : ∀ {F : Fr} {rd : Rd} {s : Objs} (_ : WOk rd L s w) (_ : Grows F rd L s w) {k : List (Nat × Obj) → List (Nat × Option Nat × Obj) → Prop} (_ : gv s l k),
    ∃ u gs rd1, k u gs ∧ Stp F rd L s rd1 L (ov u s) w ∧ Given rd rd1 L s w l gs := by
  induction l with
  | nil =>
    intro F rd s hw hg k h
    exact ⟨[], [], rd, h, Stp.refl hw hg, ⟨fun _ _ _ _ _ _ _ _ _ h => by simp at h, fun _ _ _ h => by simp at h, fun _ _ h => by simp at h, fun _ _ _ _ _ h => by simp at h, rfl, fun _ _ _ h => by simp at h⟩⟩
  | cons x l ih =>
    obtain ⟨q, p, r⟩ := x
    intro F rd s hw hg k h
    -- an object is handed back
    have give : ∀ {id : Nat} {o o' : Obj}, s id = some o' → o' ≠ .dead → ObjAt rd L w id o → (∀ b, objBlk L id o = some b → blkOf L s id = some b) → (adopt1 q r).2 = [(q, o)] →
        (∀ id' cs, p = .loc id' 0 → r = .mp cs → id' = id ∧ o = .box cs false) → (∀ rd2 L2 s2, s2 q = some o ∧ L2.sv q = L.sv id ∧ L2.bl q = L.bl id → ∀ v, rep1 rd L s p v → rep1 rd2 L2 s2 (adopt1 q r).1 v) →
        gv (ov [(id, .dead)] s) l (fun u gs => k (u ++ [(id, .dead)]) ((q, some id, o) :: gs)) → ∃ u gs rd1, k u gs ∧ Stp F rd L s rd1 L (ov u s) w ∧ Given rd rd1 L s w ((q, p, r) :: l) gs := by
      intro id o o' hs hnd hat hob had hmp hrep hk
      have hst := kill_ok hw hg hs
      obtain ⟨u, gs, rd1, h1, h2, h3⟩ := ih (F := Go.Vi.inner F rd L (ov [(id, .dead)] s) w) hst.ok (Grows.inner hst.ok hst.gr) hk
      have hat2 : ObjAt rd1 L w id o := ObjAt.kept (s := s) (s' := ov u (ov [(id, .dead)] s)) (F := F) hw hs hob hat h2
      have hne : ∀ q' id' o2, (q', some id', o2) ∈ gs → id' ≠ id := by
        intro q' id' o2 hm he
        obtain ⟨_, _, _, hq⟩ := h3.obj _ _ _ hm
        rw [he, ov_at] at hq
        exact hq rfl
      refine ⟨_, _, rd1, h1, ?_, ⟨fun rd2 L2 s2 hle hS hN q' p' r' hm v hv => ?_, fun q' id' o2 hm => ?_, fun q' o2 hm => ?_, fun q1 q2 id' o1 o2 hm1 hm2 => ?_, by simp only [List.map_cons, List.flatMap_cons, had, h3.eqn, List.singleton_append], fun q' id' cs hm => ?_⟩⟩
      · rw [ov_append]; exact hst.trans (Stp.comp hst.gr h2)
      · simp only [List.mem_cons, Prod.mk.injEq] at hm
        rcases hm with ⟨rfl, rfl, rfl⟩ | hm
        · exact hrep rd2 L2 s2 (hS q' id o (by simp)) v hv
        · exact h3.conv rd2 L2 s2 hle (fun q id o hm => hS q id o (by simp [hm])) (fun q o hm => hN q o (by simp [hm])) q' p' r' hm v (rep1_mono hst.le hst.obj hv)
      · simp only [List.mem_cons, Prod.mk.injEq, Option.some.injEq] at hm
        rcases hm with ⟨rfl, rfl, rfl⟩ | hm
        · exact ⟨hat2, hob, by rw [hs]; simp, by rw [hs]; simpa using hnd⟩
        · obtain ⟨k1, k2, k3, k4⟩ := h3.obj _ _ _ hm
          have hn := hne _ _ _ hm
          refine ⟨k1, fun b hb => ?_, by rwa [ov_at_ne hn] at k3, by rwa [ov_at_ne hn] at k4⟩
          have := k2 b hb
          rwa [blkOf_ov_ne hn ⟨rfl, rfl⟩] at this
      · simp only [List.mem_cons, Prod.mk.injEq] at hm
        rcases hm with ⟨_, hm, _⟩ | hm
        · cases hm
        · exact h3.nil _ _ hm
      · simp only [List.mem_cons, Prod.mk.injEq, Option.some.injEq] at hm1 hm2
        rcases hm1 with ⟨rfl, rfl, rfl⟩ | hm1 <;> rcases hm2 with ⟨rfl, hh, rfl⟩ | hm2
        · rfl
        · exact absurd rfl (hne _ _ _ hm2)
        · exact absurd hh (hne _ _ _ hm1)
        · exact h3.nod _ _ _ _ _ hm1 hm2
      · simp only [List.mem_cons, Prod.mk.injEq] at hm
        rcases hm with ⟨rfl, rfl, rfl⟩ | hm
        · obtain ⟨rfl, rfl⟩ := hmp id' cs rfl rfl
          simp
        · simp [h3.mp _ _ _ hm]
    have keep : share1 s p (fun p' u => Sub p' r ∧ gv (ov u s) l fun u' gs => k (u' ++ u) gs) → (∀ e sz es, r ≠ .sl (some e) sz es) → (∀ cs, r ≠ .mp cs) →
        ∃ u gs rd1, k u gs ∧ Stp F rd L s rd1 L (ov u s) w ∧ Given rd rd1 L s w ((q, p, r) :: l) gs := by
      intro h hr1 hr2
      have had : adopt1 q r = (r, []) := by
        unfold adopt1
        split
        · exact absurd rfl (hr1 _ _ _)
        · exact absurd rfl (hr2 _)
        · rfl
      obtain ⟨p', u, rd1, ⟨hsub, hk⟩, hu, hst, hq0⟩ := share1_all hw hg h
      obtain ⟨u2, gs, rd2, h1, h2, h3⟩ := ih hst.ok hst.gr hk
      refine ⟨_, _, rd2, h1, by rw [ov_append]; exact hst.trans h2, ⟨fun rd3 L2 s2 hle hS hN q' p2 r' hm v hv => ?_, fun q' id' o2 hm => ?_, h3.nil, h3.nod, by simp only [List.flatMap_cons, had, h3.eqn, List.nil_append], fun q' id' cs hm => ?_⟩⟩
      · simp only [List.mem_cons, Prod.mk.injEq] at hm
        rcases hm with ⟨rfl, rfl, rfl⟩ | hm
        · rw [had]
          have hp' : RepP rd3 p' v := (hq0 v hv).mono fun a b hh => hle a b (h2.le a b hh)
          rcases hsub with rfl | ⟨rfl, sz, rfl⟩
          · exact rep1_of_P hp'
          · have : v = .slice none 0 0 := by cases hp'; rfl
            rw [this]
            exact .sl (es := []) (b := 0) (o := 0) (u := fun _ _ => undef) (Nat.le_refl _) (by simp) (fun _ => rfl) (fun h => absurd rfl h) (by simp) (fun i e j c h => by simp at h) (fun i e j c h => by simp at h)
        · exact h3.conv rd3 L2 s2 hle hS hN q' p2 r' hm v (rep1_mono hst.le hst.obj hv)
      · obtain ⟨k1, k2, k3⟩ := h3.obj _ _ _ hm
        exact ⟨k1, fun b hb => blk_fzu hu _ _ (k2 b hb), Given.kept_obj hu k3⟩
      · simp only [List.mem_cons, Prod.mk.injEq] at hm
        rcases hm with ⟨_, _, hm⟩ | hm
        · exact absurd hm.symm (hr2 _)
        · exact h3.mp _ _ _ hm
    unfold gv at h
    split at h
    · rename_i e sz es
      split at h
      · rename_i id n
        split at h
        · rename_i e' sz' es' hs
          obtain ⟨rfl, rfl, rfl, rfl, hk⟩ := h
          obtain ⟨xs, h1, h2, h3, h4⟩ := hw.row _ _ _ _ _ hs
          refine give (o := .row e' sz' es' false) hs (by simp) ⟨rfl, xs, h1, h2, h3, fun b hb p v hp hpb => by cases (h4 b hb p v hp hpb).1⟩ (fun b hb => by simp only [blkOf, hs]; exact hb) rfl (fun _ _ h => by cases h) (fun rd2 L2 s2 ⟨a1, a2, a3⟩ v hv => ⟨fun e2 sz2 es2 fr2 _ _ => ?_, fun e2 sz2 es2 fr2 hh => ?_, hv.2.2.1, by rw [a1]; simp⟩) hk
          · rw [a2]; exact hv.1 _ _ _ _ hs rfl
          · rw [a1] at hh; cases hh; exact Nat.le_refl _
        · exact h.elim
      · obtain ⟨rfl, hk⟩ := h
        obtain ⟨u, gs, rd1, h1, h2, h3⟩ := ih hw hg hk
        refine ⟨_, _, rd1, h1, h2, ⟨fun rd2 L2 s2 hle hS hN q' p2 r' hm v hv => ?_, fun q' id' o2 hm => ?_, fun q' o2 hm => ?_, fun q1 q2 id' o1 o2 hm1 hm2 => ?_, by simp only [List.map_cons, List.flatMap_cons, h3.eqn, adopt1, List.singleton_append], fun q' id' cs hm => ?_⟩⟩
        · simp only [List.mem_cons, Prod.mk.injEq] at hm
          rcases hm with ⟨rfl, rfl, rfl⟩ | hm
          · obtain ⟨a1, a2⟩ := hN q' _ (List.mem_cons_self ..)
            have hv' : v = .slice none 0 0 := by
              have hv : RepP rd .nils v := hv
              cases hv; rfl
            subst hv'
            refine ⟨fun e2 sz2 es2 fr2 _ _ => a2.symm, fun e2 sz2 es2 fr2 hh => by simp, ⟨none, 0, rfl⟩, by rw [a1]; simp⟩
          · exact h3.conv rd2 L2 s2 hle (fun q id o hm => hS q id o (by simp [hm])) (fun q o hm => hN q o (by simp [hm])) q' p2 r' hm v hv
        · simp only [List.mem_cons, Prod.mk.injEq] at hm
          rcases hm with ⟨_, hm, _⟩ | hm
          · cases hm
          · exact h3.obj _ _ _ hm
        · simp only [List.mem_cons, Prod.mk.injEq] at hm
          rcases hm with ⟨_, _, rfl⟩ | hm
          · exact ⟨_, _, rfl⟩
          · exact h3.nil _ _ hm
        · simp only [List.mem_cons, Prod.mk.injEq] at hm1 hm2
          rcases hm1 with ⟨_, hm1, _⟩ | hm1
          · cases hm1
          · rcases hm2 with ⟨_, hm2, _⟩ | hm2
            · cases hm2
            · exact h3.nod _ _ _ _ _ hm1 hm2
        · simp only [List.mem_cons, Prod.mk.injEq] at hm
          rcases hm with ⟨_, hm, _⟩ | hm
          · cases hm
          · simp [h3.mp _ _ _ hm]
      · exact h.elim
    · rename_i cs
      split at h
      · rename_i id
        split at h
        · rename_i cs' hs
          obtain ⟨rfl, hpc, hk⟩ := h
          obtain ⟨xs, e, h1, h2, h3, h4, _⟩ := hw.box _ _ _ hs
          refine give (o := .box cs' false) hs (by simp) ⟨rfl, xs, e, h1, persAll hpc h2, h3, h4 rfl⟩ (fun b hb => by simp only [blkOf, hs]; exact hb) rfl (fun _ _ h h2 => by cases h; cases h2; exact ⟨rfl, rfl⟩) (fun rd2 L2 s2 ⟨a1, a2, a3⟩ v hv => ⟨fun _ => ?_, hv.2.1, by rw [a1]; simp⟩) hk
          rw [a3]; exact hv.1 ⟨_, _, hs⟩
        · exact h.elim
      · exact h.elim
    · rename_i hr1 hr2
      exact keep h (fun e sz es he => hr1 e sz es he) (fun cs he => hr2 cs he)
end
def notTup : PV → Bool
  | .tup _ => false
  | _ => true

def resP (T : Tab) (g : Nat → PV) (s : Objs) : List ResultVar → (List PV → Prop) → Prop
  | [], k => k []
  | .tmp t :: r, k => notTup (g t) = true ∧ resP T g s r fun l => k (g t :: l)
  | .cell a t :: r, k => match look T t, g a with
    | some row, .loc id off => match s id with
      | some (.box cs _) => loadV row.agg row.n (cs.drop off) fun v => resP T g s r fun l => k (v :: l)
      | _ => False
    | _, _ => False

def one : List PV → PV
  | [p] => p
  | l => .tup l

def outT (outs : List (Nat × Obj)) : List (Nat × PV × PV) := outs.map fun x => (pid x.1, .loc (pid x.1) 0, match x.2 with | .box cs _ => .mp cs | _ => .undef)
def outsOK (args : List PV) (outs : List (Nat × Obj)) : Bool := outs.all fun x => (match x.2 with | .box _ false => true | _ => false) && (match look (adoptA 0 args).2 (pid x.1) with | some (.box ..) => true | _ => false)

def nodupB : List Nat → Bool
  | [] => true
  | x :: r => !(r.any (Nat.beq x)) && nodupB r

def retVC (T : Tab) (fn : Func) (σ : St) (res : PV) (outs : List (Nat × Obj)) : Prop :=
  resP T σ.get σ.obj fn.results.toList fun l => match tr3 0 (one l) res with
    | some tr => gv σ.obj (tr ++ outT outs) fun _ gs => nodupB (gs.map (·.1)) = true
    | none => False

def envOf (i : Nat) : List PV → List (Nat × PV)
  | [] => []
  | p :: r => (i, p) :: envOf (i + 1) r

def initSt (n : Nat) (args : List PV) : St := ⟨n, envOf 0 (adoptA 0 args).1, (adoptA 0 args).2⟩

def exitVC (T : Tab) (fn : Func) (res : PV) (outs : List (Nat × Obj)) (e : Exit) (σ : St) : Prop :=
  match e with
  | .normal => retVC T fn σ res outs
  | .ret => retVC T fn σ res outs
  | _ => False

section
variable {P : Program} {G : Sig} {D : Array Oper → Bool} {F : Fr} {rd rd1 rd2 : Rd} {L L2 : Lay} {s s2 : Objs} {w : World}

theorem nodupB_spec {α : Type} {l : List (Nat × α)} (h : nodupB (l.map (·.1)) = true) : ∀ {q : Nat} {x : α}, (q, x) ∈ l → look l q = some x := by
  induction l with
  | nil => intro q x h; simp at h
  | cons y l ih =>
    obtain ⟨i, y⟩ := y
    intro q x hm
    simp only [List.map_cons, nodupB, Bool.and_eq_true, Bool.not_eq_true'] at h
    simp only [List.mem_cons, Prod.mk.injEq] at hm
    simp only [look]
    rcases hm with ⟨rfl, rfl⟩ | hm
    · rw [show Nat.beq q q = true from Nat.beq_refl q]; rfl
    · cases hb : Nat.beq i q with
      | false => exact ih h.2 hm
      | true =>
        have := Nat.eq_of_beq_eq_true hb
        subst this
        have h1 := h.1
        rw [List.any_eq_false] at h1
        exact absurd (Nat.beq_refl i) (by simpa using h1 i (List.mem_map.2 ⟨_, hm, rfl⟩))

theorem look_map2 {α β : Type} (f : α → β) (l : List (Nat × α)) (q : Nat) : look (l.map fun x => (x.1, f x.2)) q = (look l q).map f := by
  induction l with
  | nil => rfl
  | cons x l ih =>
    obtain ⟨i, y⟩ := x
    simp only [List.map_cons, look]
    cases Nat.beq i q <;> simp [ih]

theorem get_envOf {ps : List PV} : ∀ {i t : Nat}, lookD .undef (envOf i ps) t = if i ≤ t then ps.getD (t - i) .undef else .undef := by
  induction ps with
  | nil => intro i t; simp [envOf, lookD]
  | cons p ps ih =>
    intro i t
    simp only [envOf, lookD]
    cases hb : Nat.beq i t with
    | true =>
      have := Nat.eq_of_beq_eq_true hb
      subst this
      simp
    | false =>
      have hne : i ≠ t := fun h => by rw [h, Nat.beq_refl] at hb; cases hb
      simp only [cond_false, ih]
      by_cases h : i ≤ t
      · rw [if_pos (by omega), if_pos h]
        rw [show t - i = (t - (i + 1)) + 1 by omega]; rfl
      · rw [if_neg (by omega), if_neg h]

def resF (tmps : Array Value) : ResultVar → Sem Value
  | .tmp t => pure (tmps.getD t undef)
  | .cell a t => do loadVar t (← asAddr (tmps.getD a undef))

theorem resP_ok (hT : TabOK P G.T) {g : Nat → PV} {tmps : Array Value} (hrep : ∀ t, rep3 rd L s (g t) (tmps.getD t undef)) (hw : WOk rd L s w) : ∀ {rs : List ResultVar} {k : List PV → Prop}, resP G.T g s rs k →
    ∃ l vs, k l ∧ (rs.mapM (resF tmps)).run P w = .ok vs w ∧ All2 (rep2 rd L s) l vs := by
  intro rs
  induction rs with
  | nil => intro k h; exact ⟨[], [], h, by simp [pure, Sem.run], .nil⟩
  | cons r rs ih =>
    intro k h
    cases r with
    | tmp t =>
      obtain ⟨ht, h⟩ := h
      obtain ⟨l, vs, h1, h2, h3⟩ := ih h
      refine ⟨_, tmps.getD t undef :: vs, h1, ?_, .cons ?_ h3⟩
      · rw [List.mapM_cons, Sem.run_bind]
        show Result.andThen (.ok (tmps.getD t undef) w) _ = _
        dsimp only [Result.andThen]
        rw [Sem.run_bind, h2]; rfl
      · have := hrep t
        cases hp : g t with
        | tup c => rw [hp] at ht; cases ht
        | _ => rw [hp] at this; exact this
    | cell a t =>
      simp only [resP] at h
      split at h
      · rename_i row id off hl hp
        have ha := hrep a
        rw [hp] at ha
        split at h
        · rename_i cs fr hs
          obtain ⟨xs, e, k1, k2, k3, _⟩ := hw.box id cs fr hs
          have hv := ha.1 ⟨cs, fr, hs⟩
          obtain ⟨pv, hk, hle, h5⟩ := loadV_ok h (k2.drop off)
          obtain ⟨l, vs, h1, h2, h3⟩ := ih hk
          have hr := hT t row hl
          have hll : ((xs.drop off).take row.n).length = row.n := by rw [List.length_take]; omega
          have hload := run_load_cells (w := w) hr (L.bl id) off ((xs.drop off).take row.n) hll (fun j v hj => by
            rw [List.getElem?_take] at hj
            split at hj
            · rw [List.getElem?_drop] at hj
              rw [cell_of_row w _ _ _ _ _ k1]; simpa using hj
            · cases hj)
          refine ⟨_, (if row.agg then .agg ((xs.drop off).take row.n).toArray else ((xs.drop off).take row.n).headD undef) :: vs, h1, ?_, .cons ?_ h3⟩
          · have hload' : (loadVar t ⟨L.bl id, off, none⟩).run P w = .ok (if row.agg then .agg ((xs.drop off).take row.n).toArray else ((xs.drop off).take row.n).headD undef) w := by
              simpa [Instr.loadAt, Instr.sureAddr] using hload
            have hres : (resF tmps (.cell a t)).run P w = .ok (if row.agg then .agg ((xs.drop off).take row.n).toArray else ((xs.drop off).take row.n).headD undef) w := by
              simp only [resF, hv, asAddr, Sem.run_bind]
              exact hload'
            rw [List.mapM_cons, Sem.run_bind, hres]
            dsimp only [Result.andThen]
            rw [Sem.run_bind, h2]; rfl
          · cases hag : row.agg with
            | true => rw [hag] at h5; obtain ⟨l, rfl, _, hl2⟩ := h5; exact ⟨_, rfl, hl2, fun u hu => k3 u (List.mem_of_mem_drop (List.mem_of_mem_take hu))⟩
            | false => rw [hag] at h5; exact rep2_of_rep1 h5
        · exact h.elim
      · exact h.elim

theorem outT_eq {args : List PV} {outs : List (Nat × Obj)} (h : outsOK args outs = true) : (outT outs).flatMap (fun x => (adopt1 x.1 x.2.2).2) = outO outs := by
  induction outs with
  | nil => rfl
  | cons x outs ih =>
    obtain ⟨i, o⟩ := x
    simp only [outsOK, List.all_cons, Bool.and_eq_true] at h
    have ih := ih h.2
    simp only [outT, outO, List.map_cons, List.flatMap_cons] at ih ⊢
    rw [ih]
    have h1 := h.1.1
    cases o with
    | box cs fr => cases fr with
      | false => rfl
      | true => cases h1
    | _ => cases h1

/-- From a body to a contract. -/
theorem call_intro (hT : TabOK P G.T)
    {f : FuncId} {fn : Func} {c : Code} (hf : P.funcs[f]? = some fn) (hb : fn.body = some c) (hname : (fn.name == "runtime.NumGoroutine") = false) {args : List PV} {res : PV} {outs : List (Nat × Obj)}
    (hn : Nat.ble args.length fn.ntmps = true) (ho : outsOK args outs = true) (h : MW P c (initSt fn.ntmps args) (exitVC G.T fn res outs)) : CallOK P f args res outs := by
  refine ⟨fun a w => ?_, fun rd L w vs hw hvs => ?_⟩
  · have h1 : fn.name ≠ "runtime.NumGoroutine" := by simpa using hname
    simp [callFunc, hf, h1, hb, mark]
  refine calls_of_wp hf hb ?_
  have hlen : (adoptA 0 args).1.length = args.length := by
    have : ∀ (l : List PV) i, (adoptA i l).1.length = l.length := by
      intro l
      induction l with
      | nil => intro i; rfl
      | cons p l ih => intro i; simp [adoptA, ih]
    exact this _ _
  have hle : args.length ≤ fn.ntmps := Nat.le_of_ble_eq_true hn
  have hvl : vs.length = args.length := by rw [← hvs.len, hlen]
  have hout : ∀ i o, (i, o) ∈ outs → (∃ cs, o = .box cs false) ∧ ∃ cs fr, look (adoptA 0 args).2 (pid i) = some (.box cs fr) := by
    intro i o hm
    have := List.all_eq_true.1 ho (i, o) hm
    simp only [Bool.and_eq_true] at this
    refine ⟨?_, ?_⟩
    · have h1 := this.1
      cases o with
      | box cs fr => cases fr with
        | false => exact ⟨cs, rfl⟩
        | true => cases h1
      | _ => cases h1
    · have h1 := this.2
      split at h1
      · rename_i cs fr hh; exact ⟨cs, fr, hh⟩
      · cases h1
  have hpin : ∀ id, (callFr args outs rd L w).pin id → ∃ i o, (i, o) ∈ outs ∧ id = pid i := by
    intro id ⟨cs, fr, hl⟩
    have := look_mem hl
    simp only [outO, List.mem_map, Prod.mk.injEq] at this
    obtain ⟨⟨i, o⟩, hm, rfl, rfl⟩ := this
    exact ⟨i, _, hm, rfl⟩
  have hsim : Sim (callFr args outs rd L w) (initSt fn.ntmps args) { tmps := vs.toArray ++ Array.replicate (fn.ntmps - vs.toArray.size) undef, defers := [] } w := by
    refine ⟨rd, L, ?_, rfl, fun t => ?_, hw, ⟨rfl, rfl, OutLe.refl _, Nat.le_refl _, fun _ _ _ => rfl, fun _ _ h => h, fun _ _ h => .inl h, fun id b hb => .inl ⟨id, hb⟩, fun _ _ => ⟨rfl, rfl⟩, fun id hi e sz es fr hh => ?_⟩⟩
    · simp [initSt]; omega
    · simp only [initSt, St.get, get_envOf, Nat.zero_le, if_true, Nat.sub_zero]
      by_cases ht : t < vs.length
      · have h1 : (adoptA 0 args).1[t]? = some (adoptA 0 args).1[t] := List.getElem?_eq_getElem (by rw [hlen]; omega)
        obtain ⟨v, h2, h3⟩ := hvs.get h1
        rw [List.getD_eq_getElem?_getD, h1, Array.getD_eq_getD_getElem?, Array.getElem?_append_left (by simpa using ht)]
        simp only [List.getElem?_toArray, h2, Option.getD_some]
        exact rep3_of_rep2 h3
      · rw [List.getD_eq_getElem?_getD, List.getElem?_eq_none (by rw [hlen]; omega)]
        trivial
    · obtain ⟨i, o, hm, rfl⟩ := hpin id hi
      obtain ⟨_, cs, fr', h2⟩ := hout i o hm
      have hh : look (adoptA 0 args).2 (pid i) = some (.row e sz es fr) := hh
      rw [h2] at hh; cases hh
  refine Code.wp_mono (fun e a' w' hq => ?_) (h _ _ _ hsim)
  obtain ⟨σ', hk, rd', L', hn', hdf, hrep, hw', hg'⟩ := hq
  have fin : retVC G.T fn σ' res outs → a'.defers = [] ∧ ∃ v, (results fn a'.tmps).run P w' = .ok v w' ∧ ∃ v' rd'' L'', Ending.returned v = .returned v' ∧ WOk rd'' L'' (look ((adopt3 0 res).2 ++ outO outs)) w' ∧
      rep3 rd'' L'' (look ((adopt3 0 res).2 ++ outO outs)) (adopt3 0 res).1 v' ∧ Grows (callFr args outs rd L w) rd'' L'' (look ((adopt3 0 res).2 ++ outO outs)) w' ∧
      ∀ id e sz es fr, look (outO outs) id = some (.row e sz es fr) → L''.sv id = L.sv id := by
    intro hret
    refine ⟨hdf, ?_⟩
    obtain ⟨l, xs, h1, h2, h3⟩ := resP_ok hT hrep hw' hret
    split at h1
    · rename_i tr htr
      obtain ⟨u, gs, rd1, hnod, hst, hgv⟩ := gv_ok hw' hg' h1
      have hl3 : rep3 rd' L' σ'.obj (one l) (if hs : xs.toArray.size = 1 then xs.toArray[0] else .tuple xs.toArray) := by
        match l, xs, h3 with
        | [], _, .nil => exact ⟨[], rfl, .nil⟩
        | [p], _, .cons h .nil => exact rep3_of_rep2 h
        | p :: p2 :: l, _, .cons h (.cons h' h'') => exact ⟨_, rfl, .cons h (.cons h' h'')⟩
      refine ⟨(if hs : xs.toArray.size = 1 then xs.toArray[0] else .tuple xs.toArray), ?_, ?_⟩
      · have h2' : (fn.results.mapM (resF a'.tmps)).run P w' = .ok xs.toArray w' := by
          rw [Array.mapM_eq_mapM_toList]
          simp [h2]
        have : results fn a'.tmps = (do let vs ← fn.results.mapM (resF a'.tmps); pure (if h : vs.size = 1 then vs[0] else .tuple vs)) := by
          unfold results
          congr 1
        rw [this, Sem.run_bind, h2']
        rfl
      -- the objects that are handed back, under their new ids
      have heq : gs.map (fun x => (x.1, x.2.2)) = (adopt3 0 res).2 ++ outO outs := by
        rw [hgv.eqn, List.flatMap_append, tr3_eq htr, outT_eq ho]
      let sc : Objs := look ((adopt3 0 res).2 ++ outO outs)
      have hsc : ∀ q, sc q = (look gs q).map (·.2) := by
        intro q
        show look ((adopt3 0 res).2 ++ outO outs) q = _
        rw [← heq]
        exact look_map2 (fun x : Option Nat × Obj => x.2) gs q
      let L2 : Lay := { sv := fun q => match look gs q with | some (some id, _) => L'.sv id | _ => .slice none 0 0, bl := fun q => match look gs q with | some (some id, _) => L'.bl id | _ => 0 }
      have hS : ∀ q id o, (q, some id, o) ∈ gs → sc q = some o ∧ L2.sv q = L'.sv id ∧ L2.bl q = L'.bl id := by
        intro q id o hm
        have h := nodupB_spec hnod hm
        exact ⟨by rw [hsc, h]; rfl, by simp only [L2, h], by simp only [L2, h]⟩
      have hN : ∀ q o, (q, none, o) ∈ gs → sc q = some o ∧ L2.sv q = .slice none 0 0 := by
        intro q o hm
        have h := nodupB_spec hnod hm
        exact ⟨by rw [hsc, h]; rfl, by simp only [L2, h]⟩
      have hsome : ∀ q o, sc q = some o → ∃ m, (q, m, o) ∈ gs := by
        intro q o h
        rw [hsc] at h
        obtain ⟨⟨m, o'⟩, h4, rfl⟩ := Option.map_eq_some_iff.1 h
        exact ⟨m, look_mem h4⟩
      have hblk : ∀ q b, blkOf L2 sc q = some b → ∃ id o, (q, some id, o) ∈ gs ∧ blkOf L' σ'.obj id = some b := by
        intro q b hb
        cases hq : sc q with
        | none => simp [blkOf, hq] at hb
        | some o =>
          obtain ⟨m, hm⟩ := hsome q o hq
          cases m with
          | none =>
            obtain ⟨e, sz, rfl⟩ := hgv.nil _ _ hm
            simp only [blkOf, hq, (hN _ _ hm).2] at hb
            simp [Value.ownBlock] at hb
          | some id =>
            obtain ⟨_, e1, e2⟩ := hS _ _ _ hm
            refine ⟨id, o, hm, (hgv.obj _ _ _ hm).2.1 b ?_⟩
            cases o with
            | box cs fr => simp only [blkOf, hq, e2] at hb; exact hb
            | row e sz es fr => simp only [blkOf, hq, e1] at hb; exact hb
            | dead => simp [blkOf, hq] at hb
      have hpinm : ∀ id, (callFr args outs rd L w).pin id → ∃ cs, (id, some id, .box cs false) ∈ gs := by
        intro id hi
        obtain ⟨i, o, hm, rfl⟩ := hpin id hi
        obtain ⟨⟨cs, rfl⟩, _⟩ := hout i o hm
        exact ⟨cs, hgv.mp _ _ _ (List.mem_append_right _ (List.mem_map.2 ⟨(i, .box cs false), hm, rfl⟩))⟩
      have hconv := hgv.conv rd1 L2 sc (fun _ _ h => h) hS hN
      refine ⟨_, rd1, L2, rfl, ⟨hst.ok.hrd, fun q cs fr hq => ?_, fun q e sz es fr hq => ?_, fun q1 q2 b hb1 hb2 => ?_⟩, ?_, ?_, fun id e sz es fr hl => ?_⟩
      · obtain ⟨m, hm⟩ := hsome q _ hq
        cases m with
        | none => obtain ⟨_, _, hh⟩ := hgv.nil _ _ hm; cases hh
        | some id =>
          obtain ⟨⟨rfl, vs, e, k1, k2, k3, k4⟩, _⟩ := hgv.obj _ _ _ hm
          rw [(hS _ _ _ hm).2.2]
          exact ⟨vs, e, k1, k2.imp fun _ _ => rep1_of_P, k3, fun _ => k4, fun hf => by cases hf⟩
      · obtain ⟨m, hm⟩ := hsome q _ hq
        cases m with
        | none =>
          obtain ⟨_, _, hh⟩ := hgv.nil _ _ hm
          cases hh
          rw [(hN _ _ hm).2]
          exact ⟨[], World.ownsRow_nil _ 0 _ _, .nil, by simp, fun b hb => by simp [Value.ownBlock] at hb⟩
        | some id =>
          obtain ⟨⟨rfl, vs, k1, k2, k3, k4⟩, _⟩ := hgv.obj _ _ _ hm
          rw [(hS _ _ _ hm).2.1]
          exact ⟨vs, k1, k2, k3, fun b hb p v hp hpb => absurd hpb (k4 b hb p v hp)⟩
      · obtain ⟨id1, o1, m1, b1⟩ := hblk q1 b hb1
        obtain ⟨id2, o2, m2, b2⟩ := hblk q2 b hb2
        have := hw'.inj _ _ _ b1 b2
        subst this
        exact hgv.nod _ _ _ _ _ m1 m2
      · exact tr3_rep htr (fun q p r hm => hconv q p r (List.mem_append_left _ hm)) hl3
      · refine ⟨hst.gr.os, hst.gr.tape, hst.gr.output, hst.gr.size, hst.gr.block, hst.gr.le, hst.gr.new, fun q b hb => ?_, fun id hi => ?_, fun id hi e sz es fr hh => ?_⟩
        · obtain ⟨id, o, m, b1⟩ := hblk q b hb
          exact hg'.own id b b1
        · obtain ⟨cs, hm⟩ := hpinm id hi
          obtain ⟨_, e1, e2⟩ := hS _ _ _ hm
          rw [e1, e2]
          exact hg'.pins id hi
        · obtain ⟨cs, hm⟩ := hpinm id hi
          have h9 := (hS _ _ _ hm).1
          have hh : sc id = some (.row e sz es fr) := hh
          rw [h9] at hh; cases hh
      · have := look_mem hl
        simp only [outO, List.mem_map, Prod.mk.injEq] at this
        obtain ⟨⟨i, o⟩, hm, rfl, rfl⟩ := this
        obtain ⟨⟨cs, hh⟩, _⟩ := hout i _ hm
        cases hh
    · exact h1.elim
  cases e with
  | normal => exact fin hk
  | ret => exact fin hk
  | _ => exact hk.elim
end
def chkZero : List PV → List Value → Bool
  | [], [] => true
  | p :: ps, v :: vs => (match p, v with
    | .sc (.int k n), .int k' m => decide (k = k') && decide (n = m)
    | .sc (.bool b), .bool c => b == c
    | .sc (.string s), .string u => Nat.beq s.size 0 && Nat.beq u.size 0
    | .sc .nilFunc, .nilFunc => true
    | .sc (.pointer none), .pointer none => true
    | .nils, .slice none 0 0 => true
    | _, _ => false) && chkZero ps vs
  | _, _ => false
def aggD : TypeDesc → Bool
  | .struct _ | .array .. => true
  | _ => false
def chkF (P : Program) : List (Nat × Nat × Bool) → List Field → Bool
  | [], [] => true
  | (off, n, ag) :: r, f :: fs => Nat.beq f.offset off && (match P.info? f.type, P.underlying f.type with
    | some i, some d => Nat.beq i.size n && Nat.blt 0 n && (aggD d == ag)
    | _, _ => false) && chkF P r fs
  | _, _ => false
def chkTI (P : Program) (d : TypeDesc) : TI → Bool
  | .slice e => match d with
    | .slice e' => Nat.beq e' e
    | _ => false
  | .struct fs => match d with
    | .struct fields => chkF P fs fields.toList
    | _ => false
  | .array len n ag => match d with
    | .array l e => Nat.beq l len && (match P.info? e, P.underlying e with
      | some i, some d => Nat.beq i.size n && (aggD d == ag)
      | _, _ => false)
    | _ => false
  | .int k => match d with
    | .int k' => decide (k' = k)
    | _ => false
  | .bool => match d with
    | .bool => true
    | _ => false
  | .string => match d with
    | .string => true
    | _ => false
  | .other => true
def isAggTI : TI → Bool
  | .struct _ | .array .. => true
  | _ => false
def chkRow (P : Program) (t : Nat) (r : TRow) : Bool :=
  match P.info? t, P.underlying t with
  | some i, some d => Nat.beq i.size r.n && Nat.blt 0 r.n && Nat.ble i.bytes 65536 && (match i.zero with
    | some z => chkZero r.zero z.cells.toList && Nat.beq z.cells.size r.n
    | none => false) && (aggD d == r.agg) && (r.agg || Nat.beq r.n 1) && chkTI P d r.ti && (r.agg == isAggTI r.ti || !(isAggTI r.ti))
  | _, _ => false

def EqOK (P : Program) (t n : Nat) : Prop := ∀ (xs ys : List Value) (b : Bool), eqV xs ys = some b → xs.length = n → ys.length = n → ∀ X Y w,
    (do eqGuard .eql t X Y (.agg xs.toArray) (.agg ys.toArray); binOp .eql t (.agg xs.toArray) (.agg ys.toArray)).run P w = .ok (.bool b) w ∧
    (do eqGuard .neq t X Y (.agg xs.toArray) (.agg ys.toArray); binOp .neq t (.agg xs.toArray) (.agg ys.toArray)).run P w = .ok (.bool (!b)) w

theorem bytes_nil {s : ByteArray} (h : s.size = 0) : s = ByteArray.empty := by
  apply ByteArray.ext
  apply Array.ext
  · exact h
  · intro i h1 h2; simp at h2

theorem chkZero_ok : ∀ {ps : List PV} {vs : List Value}, chkZero ps vs = true → All2 (fun p v => ∀ rd, RepP rd p v) ps vs := by
  intro ps
  induction ps with
  | nil => intro vs h; cases vs with
    | nil => exact .nil
    | cons v vs => cases h
  | cons p ps ih =>
    intro vs h
    cases vs with
    | nil => cases h
    | cons v vs =>
      simp only [chkZero, Bool.and_eq_true] at h
      refine .cons (fun rd => ?_) (ih h.2)
      have h1 := h.1
      split at h1
      · simp only [Bool.and_eq_true, decide_eq_true_eq] at h1
        obtain ⟨rfl, rfl⟩ := h1
        exact .sc rfl
      · have := eq_of_beq h1; subst this; exact .sc rfl
      · rename_i s u
        simp only [Bool.and_eq_true] at h1
        have e2 : u = ByteArray.empty := bytes_nil (Nat.eq_of_beq_eq_true h1.2)
        have e3 : s = ByteArray.empty := bytes_nil (Nat.eq_of_beq_eq_true h1.1)
        subst e2
        subst e3
        exact .sc rfl
      · exact .sc rfl
      · exact .sc rfl
      · exact .nils
      · cases h1

theorem aggD_eq {d : TypeDesc} {b : Bool} : (aggD d == b) = true → (match d with | .struct _ | .array .. => true | _ => false) = b := by
  intro h
  have := eq_of_beq h
  rw [← this]
  cases d <;> rfl

theorem chkF_ok {P : Program} : ∀ {fs : List (Nat × Nat × Bool)} {fl : List Field}, chkF P fs fl = true → fs.length = fl.length ∧ ∀ (k off n : Nat) (ag : Bool), fs[k]? = some (off, n, ag) → ∃ f i d, fl[k]? = some f ∧ f.offset = off ∧ P.info? f.type = some i ∧ i.size = n ∧ 0 < n ∧
        P.underlying f.type = some d ∧ (match d with | .struct _ | .array .. => true | _ => false) = ag := by
  intro fs
  induction fs with
  | nil => intro fl h; cases fl with
    | nil => exact ⟨rfl, fun k off n ag h => by simp at h⟩
    | cons v vs => cases h
  | cons x fs ih =>
    obtain ⟨off, n, ag⟩ := x
    intro fl h
    cases fl with
    | nil => cases h
    | cons f fl =>
      simp only [chkF, Bool.and_eq_true] at h
      obtain ⟨⟨h1, h2⟩, h3⟩ := h
      obtain ⟨k1, k2⟩ := ih h3
      refine ⟨by simp [k1], fun k off' n' ag' hk => ?_⟩
      cases k with
      | zero =>
        simp only [List.getElem?_cons_zero, Option.some.injEq, Prod.mk.injEq] at hk
        obtain ⟨rfl, rfl, rfl⟩ := hk
        split at h2
        · rename_i i d e1 e2
          simp only [Bool.and_eq_true] at h2
          exact ⟨f, i, d, rfl, Nat.eq_of_beq_eq_true h1, e1, Nat.eq_of_beq_eq_true h2.1.1, by simpa [Nat.blt_eq] using h2.1.2, e2, aggD_eq h2.2⟩
        · cases h2
      | succ k => simpa using k2 k off' n' ag' (by simpa using hk)

theorem chkRow_ok {P : Program} {t : Nat} {r : TRow} (h : chkRow P t r = true) (he : r.eq = true → EqOK P t r.n) : TRowOK P t r := by
  unfold chkRow at h
  split at h
  · rename_i i d e1 e2
    simp only [Bool.and_eq_true] at h
    obtain ⟨⟨⟨⟨⟨⟨⟨h1, h2⟩, h3⟩, h4⟩, h5⟩, h6⟩, h7⟩, h8⟩ := h
    split at h4
    · rename_i z hz
      simp only [Bool.and_eq_true] at h4
      refine ⟨⟨i, z, e1, Nat.eq_of_beq_eq_true h1, by simpa [Nat.blt_eq] using h2, Nat.le_of_ble_eq_true h3, hz, chkZero_ok h4.1, Nat.eq_of_beq_eq_true h4.2⟩, ⟨d, e2, aggD_eq h5⟩, fun hf => ?_, ?_, fun fs hfs fields hfl => ?_, he⟩
      · rw [hf] at h6; exact Nat.eq_of_beq_eq_true (by simpa using h6)
      · obtain ⟨ti, n, ag, zero, eq⟩ := r
        dsimp only at *
        cases ti with
        | slice e =>
          simp only [chkTI] at h7
          split at h7
          · rw [e2, Nat.eq_of_beq_eq_true h7]
          · cases h7
        | struct fs =>
          simp only [chkTI] at h7
          split at h7
          · rename_i fields
            obtain ⟨k1, k2⟩ := chkF_ok h7
            refine ⟨by simpa [isAggTI] using h8, fields, e2, fun k off n ag hk => ?_⟩
            obtain ⟨f, i, d, q1, q2⟩ := k2 k off n ag hk
            exact ⟨f, i, d, by simpa using q1, q2⟩
          · cases h7
        | array len n' ag' =>
          simp only [chkTI] at h7
          split at h7
          · rename_i l e
            simp only [Bool.and_eq_true] at h7
            refine ⟨by simpa [isAggTI] using h8, ?_⟩
            have h9 := h7.2
            split at h9
            · rename_i ie de q1 q2
              simp only [Bool.and_eq_true] at h9
              exact ⟨e, ie, de, by rw [e2, Nat.eq_of_beq_eq_true h7.1], q1, Nat.eq_of_beq_eq_true h9.1, q2, aggD_eq h9.2⟩
            · cases h9
          · cases h7
        | int k =>
          simp only [chkTI] at h7
          split at h7
          · rw [e2, of_decide_eq_true h7]
          · cases h7
        | bool =>
          simp only [chkTI] at h7
          split at h7
          · exact e2
          · cases h7
        | string =>
          simp only [chkTI] at h7
          split at h7
          · exact e2
          · cases h7
        | other => trivial
      · rw [e2] at hfl
        cases hfl
        rw [hfs] at h7
        simp only [chkTI] at h7
        have := (chkF_ok h7).1
        simpa using this
    · cases h4
  · cases h

theorem tabOK_of {P : Program} {T : Tab} (h : T.all (fun x => chkRow P x.1 x.2) = true) (he : ∀ x ∈ T, x.2.eq = true → EqOK P x.1 x.2.n) : TabOK P T := by
  intro t r hl
  have := look_mem hl
  exact chkRow_ok (List.all_eq_true.1 h (t, r) this) (he (t, r) this)
def forceV (x : Value) (k : Value → Prop) : Prop := match x with
  | .int i n => k (.int i n)
  | .bool b => k (.bool b)
  | .string s => k (.string s)
  | x => k x
def force1 (p : PV) (k : PV → Prop) : Prop := match p with
  | .undef => k .undef
  | .sc x => forceV x fun x => k (.sc x)
  | .nils => k .nils
  | .sl o sz es => k (.sl o sz es)
  | .agg cs => k (.agg cs)
  | .tup vs => k (.tup vs)
  | .fn f c => k (.fn f c)
  | .rp cs => k (.rp cs)
  | .mp cs => k (.mp cs)
  | .loc i o => k (.loc i o)
  | .lel a b c d => k (.lel a b c d)
  | .ls i n => k (.ls i n)
  | .lw i n l => k (.lw i n l)
def forceL : List PV → (List PV → Prop) → Prop
  | [], k => k []
  | p :: r, k => force1 p fun p => forceL r fun r => k (p :: r)
def force2 (p : PV) (k : PV → Prop) : Prop := match p with
  | .agg cs => forceL cs fun cs => k (.agg cs)
  | .rp cs => k (.rp cs)
  | p => force1 p k
def forceT : List PV → (List PV → Prop) → Prop
  | [], k => k []
  | p :: r, k => force2 p fun p => forceT r fun r => k (p :: r)
def force3 (p : PV) (k : PV → Prop) : Prop := match p with
  | .tup vs => forceT vs fun vs => k (.tup vs)
  | p => force2 p k
def forceO (o : Obj) (k : Obj → Prop) : Prop := match o with
  | .row e sz es fr => k (.row e sz es fr)
  | .box cs fr => forceL cs fun cs => k (.box cs fr)
  | .dead => k .dead
def appC : List (Nat × Obj) → List (Nat × Obj) → (List (Nat × Obj) → Prop) → Prop
  | [], l, k => k l
  | (i, o) :: r, l, k => forceO o fun o => appC r l fun l => k ((i, o) :: l)
def setC (d : Option Nat) (v : PV) (env : List (Nat × PV)) (k : List (Nat × PV) → Prop) : Prop := match d with
  | some t => k ((t, v) :: env)
  | none => k env

theorem force1_eq (p : PV) (k : PV → Prop) : force1 p k = k p := by
  cases p with
  | sc x => cases x <;> rfl
  | _ => rfl
theorem forceL_eq : ∀ (l : List PV) (k : List PV → Prop), forceL l k = k l
  | [], _ => rfl
  | p :: r, k => by simp only [forceL, force1_eq, forceL_eq r]
theorem force2_eq (p : PV) (k : PV → Prop) : force2 p k = k p := by
  cases p with
  | agg cs => exact forceL_eq cs _
  | rp cs => rfl
  | _ => simp only [force2]; exact force1_eq _ _
theorem forceT_eq : ∀ (l : List PV) (k : List PV → Prop), forceT l k = k l
  | [], _ => rfl
  | p :: r, k => by simp only [forceT, force2_eq, forceT_eq r]
theorem force3_eq (p : PV) (k : PV → Prop) : force3 p k = k p := by
  cases p with
  | tup cs => exact forceT_eq cs _
  | _ => simp only [force3]; exact force2_eq _ _
theorem forceO_eq (o : Obj) (k : Obj → Prop) : forceO o k = k o := by
  cases o with
  | box cs fr => exact forceL_eq cs _
  | _ => rfl
theorem appC_eq : ∀ (u l : List (Nat × Obj)) (k : List (Nat × Obj) → Prop), appC u l k = k (u ++ l)
  | [], _, _ => rfl
  | (i, o) :: r, l, k => by simp only [appC, forceO_eq, appC_eq r]; rfl

/-- One operation, the state behind it computed. -/
def stepF (P : Program) (G : Sig) (o : Oper) (σ : St) (k : St → Prop) : Prop :=
  match σ with
  | ⟨n, env, st⟩ => match o.op with
    | .call { callee := .value c, args, .. } => match evo (lookD .undef env) c with
      | .fn f cap => dstOK o.dst n = true ∧ callVC P (lookD [] G.own f) f (args.toList.map (evo (lookD .undef env)) ++ cap) o.dst (look st) fun v u => force3 v fun v => appC u st fun st => setC o.dst v env fun env => k ⟨n, env, st⟩
      | _ => False
    | _ => dstOK o.dst n = true ∧ opVC G.T o (lookD .undef env) (look st) fun v u => force3 v fun v => appC u st fun st => setC o.dst v env fun env => k ⟨n, env, st⟩

theorem stepF_eq (P : Program) (G : Sig) (o : Oper) (σ : St) (k : St → Prop) : stepF P G o σ k = stepVC P G o σ k := by
  obtain ⟨n, env, st⟩ := σ
  have e : ∀ (v : PV) (u : List (Nat × Obj)), (force3 v fun v => appC u st fun st => setC o.dst v env fun env => k ⟨n, env, st⟩) = k (((⟨n, env, st⟩ : St).upd u).set o.dst v) := by
    intro v u
    rw [force3_eq, appC_eq]
    cases h : o.dst <;> rfl
  unfold stepF stepVC
  simp only [e]
  rfl

def vcLF (P : Program) (G : Sig) (ops : List Oper) : List Oper → St → (St → Prop) → Prop
  | [], σ, k => k σ
  | o :: l, σ, k => match o.guard with
    | none => stepF P G o σ fun σ' => vcLF P G ops l σ' k
    | some (j, want) => match (ops[j]?).bind (·.dst) with
      | some t => match σ.get t with
        | .sc (.bool b) => match σ with
          | ⟨n, env, st⟩ => (b = want → stepF P G o ⟨n, (t, bval want) :: env, st⟩ fun σ' => vcLF P G ops l σ' k) ∧ (b = !want → dstOK o.dst n = true ∧ setC o.dst (.tup []) ((t, bval (!want)) :: env) fun env => vcLF P G ops l ⟨n, env, st⟩ k)
        | .tup [] => match σ with
          | ⟨n, env, st⟩ => dstOK o.dst n = true ∧ setC o.dst (.tup []) env fun env => vcLF P G ops l ⟨n, env, st⟩ k
        | _ => False
      | none => False
theorem setC_eq (d : Option Nat) (v : PV) (env : List (Nat × PV)) (k : List (Nat × PV) → Prop) : setC d v env k = k (match d with | some t => (t, v) :: env | none => env) := by cases d <;> rfl
theorem vcLF_eq {P : Program} {G : Sig} {ops : List Oper} : ∀ (l : List Oper) (σ : St) (k : St → Prop), vcLF P G ops l σ k = vcL P G ops l σ k := by
  intro l
  induction l with
  | nil => intro σ k; rfl
  | cons o l ih =>
    intro σ k
    simp only [vcLF, vcL, stepF_eq, ih]
    cases o.guard with
    | none => rfl
    | some jw =>
      obtain ⟨j, want⟩ := jw
      dsimp only
      cases (ops[j]?).bind (·.dst) with
      | none => rfl
      | some t =>
        dsimp only
        cases σ.get t with
        | sc v =>
          cases v with
          | bool b =>
            dsimp only
            congr 1
            rw [setC_eq]
            cases o.dst <;> rfl
          | _ => rfl
        | tup ps =>
          cases ps with
          | nil =>
            dsimp only
            congr 1
            rw [setC_eq]
            cases o.dst <;> rfl
          | cons => rfl
        | _ => rfl

def vcF (P : Program) (G : Sig) (D : Array Oper → Bool) : Code → St → (Exit → St → Prop) → Prop
  | .skip, σ, k => k .normal σ
  | .region _ ops false, σ, k => vcLF P G ops.toList ops.toList σ (k .normal)
  | .region _ ops true, σ, k => D ops = true ∧ vcLF P G ops.toList ops.toList σ (k .normal)
  | .seq x y, σ, k => vcF P G D x σ fun e σ' => match e with
    | .normal => vcF P G D y σ' k
    | e => k e σ'
  | .cond c x y, σ, k => match evo σ.get c with
    | .sc (.bool b) => match c, σ with
      | .tmp t, ⟨n, env, st⟩ => (b = true → vcF P G D x ⟨n, (t, bval true) :: env, st⟩ k) ∧ (b = false → vcF P G D y ⟨n, (t, bval false) :: env, st⟩ k)
      | _, σ => (b = true → vcF P G D x σ k) ∧ (b = false → vcF P G D y σ k)
    | _ => False
  | .block id c, σ, k => vcF P G D c σ fun e σ' => match e with
    | .exit i => match Nat.beq i id with
      | true => k .normal σ'
      | false => k (.exit i) σ'
    | e => k e σ'
  | .loop c, σ, k => MW P (.loop c) σ k
  | .exit id, σ, k => k (.exit id) σ
  | .ret, σ, k => k .ret σ
  | _, _, _ => False
theorem vcF_eq {P : Program} {G : Sig} {D : Array Oper → Bool} : ∀ (c : Code) (σ : St) (k : Exit → St → Prop), vcF P G D c σ k = vc P G D c σ k := by
  intro c
  induction c with
  | region id ops b => intro σ k; cases b <;> simp only [vcF, vc, vcLF_eq]
  | seq x y ihx ihy =>
    intro σ k
    simp only [vcF, vc, ihx, ihy]
    all_goals (refine congrArg (vc P G D x σ) ?_; funext e σ'; cases e <;> rfl)
  | cond c x y ihx ihy =>
    intro σ k
    simp only [vcF, vc, ihx, ihy]
    cases evo σ.get c with
    | sc v =>
      cases v with
      | bool b => cases σ; cases c <;> rfl
      | _ => rfl
    | _ => rfl
  | block id c ih =>
    intro σ k
    simp only [vcF, vc, ih]
    all_goals (refine congrArg (vc P G D c σ) ?_; funext e σ'; cases e <;> rfl)
  | _ => intro σ k; rfl

section
variable {P : Program} {G : Sig} {D : Array Oper → Bool}
theorem fn_intro (hT : TabOK P G.T) (hD : ∀ ops, D ops = true → ∀ σ k id, vcL P G ops.toList ops.toList σ (k .normal) → MW P (.region id ops true) σ k)
    {f : FuncId} {fn : Func} {c : Code} (hf : P.funcs[f]? = some fn) (hb : fn.body = some c) (hname : (fn.name == "runtime.NumGoroutine") = false) {args : List PV} {res : PV} {outs : List (Nat × Obj)}
    (hn : Nat.ble args.length fn.ntmps = true) (ho : outsOK args outs = true) (h : vcF P G D c (initSt fn.ntmps args) (exitVC G.T fn res outs)) : CallOK P f args res outs :=
  call_intro hT hf hb hname hn ho (vc_ok hT hD _ _ _ (by rw [vcF_eq] at h; exact h))
theorem loop_intro (hT : TabOK P G.T) (hD : ∀ ops, D ops = true → ∀ σ k id, vcL P G ops.toList ops.toList σ (k .normal) → MW P (.region id ops true) σ k)
    {α : Type} (I : α → St) (μ : α → Nat) {c : Code} {σ : St} {k : Exit → St → Prop} (x0 : α) (h0 : Fits (I x0) σ)
    (round : ∀ x, vcF P G D c (I x) fun e σ' => match e with | .normal => ∃ y, Fits (I y) σ' ∧ μ y < μ x | e => k e σ') : MW P (.loop c) σ k := by
  refine MW_loop I μ x0 (less_of_fits h0) fun x => ?_
  have := round x
  rw [vcF_eq] at this
  refine (vc_ok hT hD c _ _ this).mono fun e σ h => ?_
  cases e with
  | normal => obtain ⟨y, h1, h2⟩ := h; exact ⟨y, less_of_fits h1, h2⟩
  | _ => exact h
end
end Go.Vi
end
