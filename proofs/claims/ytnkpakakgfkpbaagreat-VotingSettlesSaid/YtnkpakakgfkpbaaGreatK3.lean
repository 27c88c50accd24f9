import Derived.Test.YtnkpakakgfkpbaaGreatK2
import Derived.Orders
import Derived.Sort.Grow
import Derived.Shelf.GgSortFunc.InsertionK
import Derived.Test.YtnkpakakgfkpbaaGreatProg
import Derived.KernelRfl
set_option linter.unusedVariables false
set_option linter.unusedSimpArgs false
section
namespace Go.Vi
section
variable {P : Program} {G : Sig} {T : Tab} {g g' : Nat → PV} {s s' : Objs}

theorem evo_congr {x : Operand} (h : ∀ t, x = .tmp t → g t = g' t) : evo g x = evo g' x := by
  cases x with
  | tmp t => exact h t rfl
  | _ => rfl

theorem binS_ext {op : BinOp} {x y : PV} {k : PV → Prop} (h : binS op x y k) : ∃ v, binS op x y (fun v' => v' = v) ∧ k v := by
  unfold binS at h
  split at h
  · split at h <;> first
      | (obtain ⟨h1, h2, h3⟩ := h; exact ⟨_, by unfold binS; exact ⟨h1, h2, rfl⟩, h3⟩)
      | (obtain ⟨h1, h2⟩ := h; exact ⟨_, by unfold binS; exact ⟨h1, rfl⟩, h2⟩)
  · split at h <;> first
      | exact h.elim
      | (obtain ⟨h1, h2⟩ := h; exact ⟨_, by unfold binS; exact ⟨h1, rfl⟩, h2⟩)
      | exact ⟨_, by unfold binS; rfl, h⟩
  · exact h.elim

theorem share1_ext {p : PV} {k : PV → List (Nat × Obj) → Prop} (h : share1 s p k) : ∃ q u, share1 s p (fun q' u' => q' = q ∧ u' = u) ∧ k q u := by
  cases p with
  | ls id n =>
    simp only [share1] at h ⊢
    cases hs : s id with
    | none => rw [hs] at h; exact h.elim
    | some o =>
      rw [hs] at h
      cases o with
      | row e sz es fr => exact ⟨_, _, ⟨h.1, rfl, rfl⟩, h.2⟩
      | _ => exact h.elim
  | sc v => exact ⟨_, _, ⟨rfl, rfl⟩, h⟩
  | nils => exact ⟨_, _, ⟨rfl, rfl⟩, h⟩
  | sl o sz es => exact ⟨_, _, ⟨rfl, rfl⟩, h⟩
  | fn f c => exact ⟨_, _, ⟨rfl, rfl⟩, h⟩
  | rp c => exact ⟨_, _, ⟨rfl, rfl⟩, h⟩
  | _ => exact h.elim
theorem share1_imp {p : PV} {k k' : PV → List (Nat × Obj) → Prop} (f : ∀ q u, k q u → k' q u) (h : share1 s p k) : share1 s p k' := by
  cases p with
  | ls id n =>
    simp only [share1] at h ⊢
    cases hs : s id with
    | none => rw [hs] at h; exact h.elim
    | some o =>
      rw [hs] at h
      cases o with
      | row e sz es fr => exact ⟨h.1, f _ _ h.2⟩
      | _ => exact h.elim
  | sc v => exact f _ _ h
  | nils => exact f _ _ h
  | sl o sz es => exact f _ _ h
  | fn g c => exact f _ _ h
  | rp c => exact f _ _ h
  | _ => exact h.elim
theorem shareL_ext {ps : List PV} : ∀ {k : List PV → List (Nat × Obj) → Prop}, shareL s ps k → ∃ q u, shareL s ps (fun q' u' => q' = q ∧ u' = u) ∧ k q u := by
  induction ps with
  | nil => intro k h; exact ⟨_, _, ⟨rfl, rfl⟩, h⟩
  | cons p ps ih =>
    intro k h
    obtain ⟨q, u, h1, h2⟩ := share1_ext h
    obtain ⟨qs, v, h3, h4⟩ := ih h2
    exact ⟨_, _, share1_imp (fun q' u' ⟨e1, e2⟩ => by subst e1; subst e2; exact shareL_imp (fun a b ⟨e3, e4⟩ => by subst e3; subst e4; exact ⟨rfl, rfl⟩) h3) h1, h4⟩
theorem share2_ext {p : PV} {k : PV → List (Nat × Obj) → Prop} (h : share2 s p k) : ∃ q u, share2 s p (fun q' u' => q' = q ∧ u' = u) ∧ k q u := by
  cases p with
  | agg cs =>
    obtain ⟨l, u, h1, h2⟩ := shareL_ext h
    exact ⟨.agg l, u, shareL_imp (fun a b ⟨e1, e2⟩ => by subst e1; subst e2; exact ⟨rfl, rfl⟩) h1, h2⟩
  | tup l => exact h.elim
  | _ => simp only [share2] at h ⊢; exact share1_ext h
theorem share2_imp {p : PV} {k k' : PV → List (Nat × Obj) → Prop} (f : ∀ q u, k q u → k' q u) (h : share2 s p k) : share2 s p k' := by
  cases p with
  | agg cs => exact shareL_imp (fun _ _ h => f _ _ h) h
  | tup l => exact h.elim
  | _ => simp only [share2] at h ⊢; exact share1_imp f h
theorem shareP_imp {l : List (Nat × PV)} : ∀ {k k' : List (Nat × PV) → List (Nat × Obj) → Prop}, (∀ q u, k q u → k' q u) → shareP s l k → shareP s l k' := by
  induction l with
  | nil => intro k k' f h; exact f _ _ h
  | cons x l ih => intro k k' f h; exact share2_imp (fun _ _ h => ih (fun _ _ h => f _ _ h) h) h
theorem shareP_ext {ps : List (Nat × PV)} : ∀ {k : List (Nat × PV) → List (Nat × Obj) → Prop}, shareP s ps k → ∃ q u, shareP s ps (fun q' u' => q' = q ∧ u' = u) ∧ k q u := by
  induction ps with
  | nil => intro k h; exact ⟨_, _, ⟨rfl, rfl⟩, h⟩
  | cons p ps ih =>
    obtain ⟨i, p⟩ := p
    intro k h
    obtain ⟨q, u, h1, h2⟩ := share2_ext h
    obtain ⟨qs, v, h3, h4⟩ := ih h2
    exact ⟨_, _, share2_imp (fun q' u' ⟨e1, e2⟩ => by subst e1; subst e2; exact shareP_imp (fun a b ⟨e3, e4⟩ => by subst e3; subst e4; exact ⟨rfl, rfl⟩) h3) h1, h4⟩
theorem loadV_ext {ag : Bool} {n : Nat} {cs : List PV} {k : PV → Prop} (h : loadV ag n cs k) : ∃ v, loadV ag n cs (fun v' => v' = v) ∧ k v := by
  cases ag with
  | true => exact ⟨_, ⟨h.1, rfl⟩, h.2⟩
  | false => cases cs with
    | nil => exact h.elim
    | cons c cs => exact ⟨_, ⟨h.1, rfl⟩, h.2⟩
theorem optI_ext {o : Option Operand} {d : Int} {k : Int → Prop} (h : optI g o d k) : ∃ n, optI g o d (fun m => m = n) ∧ k n := by
  cases o with
  | none => exact ⟨_, rfl, h⟩
  | some x =>
    simp only [optI] at h ⊢
    split at h
    · exact ⟨_, rfl, h⟩
    · exact h.elim
theorem optI_imp {o : Option Operand} {d : Int} {k k' : Int → Prop} (f : ∀ n, k n → k' n) (h : optI g o d k) : optI g o d k' := by
  cases o with
  | none => exact f _ h
  | some x =>
    simp only [optI] at h ⊢
    split at h
    · exact f _ h
    · exact h.elim
theorem loadV_imp {ag : Bool} {n : Nat} {cs : List PV} {k k' : PV → Prop} (f : ∀ v, k v → k' v) (h : loadV ag n cs k) : loadV ag n cs k' := by
  cases ag with
  | true => exact ⟨h.1, f _ h.2⟩
  | false => cases cs with
    | nil => exact h.elim
    | cons c cs => exact ⟨h.1, f _ h.2⟩
theorem binS_imp {op : BinOp} {x y : PV} {k k' : PV → Prop} (f : ∀ v, k v → k' v) (h : binS op x y k) : binS op x y k' := by
  unfold binS at h ⊢
  split at h
  · split at h <;> first
      | exact ⟨h.1, h.2.1, f _ h.2.2⟩
      | exact ⟨h.1, f _ h.2⟩
  · split at h <;> first
      | exact h.elim
      | exact ⟨h.1, f _ h.2⟩
      | exact f _ h
  · exact h.elim


theorem capt_imp {l : List PV} : ∀ {s : Objs} {k k' : List PV → List (Nat × Obj) → Prop}, (∀ q u, k q u → k' q u) → capt s l k → capt s l k' := by
  induction l with
  | nil => intro s k k' f h; exact f _ _ h
  | cons p l ih =>
    intro s k k' f h
    simp only [capt] at h ⊢
    split at h
    · split at h
      · exact shareL_imp (fun _ _ h => ih (fun _ _ h => f _ _ h) h) h
      · exact h.elim
    · exact share1_imp (fun _ _ h => ih (fun _ _ h => f _ _ h) h) h

theorem opVC_imp {o : Oper} {k k' : K} (f : ∀ v u, k v u → k' v u) (h : opVC T o g s k) : opVC T o g s k' := by
  obtain ⟨dst, op, ty, pos, after, guard⟩ := o
  cases op with
  | move x => exact f _ _ h
  | assign x => exact f _ _ h
  | pick c x y =>
    simp only [opVC] at h ⊢
    split at h
    · split at h <;> exact f _ _ h
    · exact h.elim
  | alloc t =>
    simp only [opVC] at h ⊢
    split at h
    · split at h
      · exact f _ _ h
      · exact ⟨h.1, f _ _ h.2⟩
    · exact h.elim
  | box t x =>
    simp only [opVC] at h ⊢
    split at h
    · exact h.elim
    · exact h.elim
    · exact ⟨h.1, h.2.1, f _ _ h.2.2⟩
    · exact h.elim
  | build t ps =>
    simp only [opVC] at h ⊢
    split at h
    · split at h
      · exact ⟨h.1, f _ _ h.2⟩
      · exact h.elim
    · split at h
      · exact ⟨h.1, f _ _ h.2⟩
      · exact h.elim
    · exact h.elim
  | load t x =>
    simp only [opVC] at h ⊢
    split at h
    · split at h
      · exact loadV_imp (fun _ e => f _ _ e) h
      · split at h
        · exact loadV_imp (fun _ e => f _ _ e) h
        · exact h.elim
      · split at h
        · obtain ⟨h0, el, h3, h4⟩ := h
          exact ⟨h0, el, h3, loadV_imp (fun _ e => f _ _ e) h4⟩
        · exact h.elim
      · exact h.elim
    · exact h.elim
  | store t x y =>
    simp only [opVC] at h ⊢
    split at h
    · split at h
      · split at h
        · exact ⟨h.1, h.2.1, h.2.2.1, h.2.2.2.1, f _ _ h.2.2.2.2⟩
        · exact h.elim
      · split at h
        · obtain ⟨h0, h1, h2⟩ := h
          exact ⟨h0, h1, share2_imp (fun q' u' ⟨el, h4, h5, h6, h7, h8⟩ => ⟨el, h4, h5, h6, h7, f _ _ h8⟩) h2⟩
        · exact h.elim
      · exact h.elim
    · exact h.elim
  | nilCheck x =>
    simp only [opVC] at h ⊢
    split at h <;> first | exact h.elim | exact f _ _ h
  | binOp op t x y z =>
    simp only [opVC] at h ⊢
    split at h
    · split at h
      · obtain ⟨h0, h1, h⟩ := h
        split at h <;> first | exact h.elim | exact ⟨h0, h1, f _ _ h⟩
      · exact h.elim
    · split at h <;> first | exact h.elim | exact f _ _ h
    · split at h <;> first | exact h.elim | exact fun b hb => f _ _ (h b hb)
    · split at h <;> first | exact h.elim | exact f _ _ h
    · exact binS_imp (fun _ e => f _ _ e) h
  | unOp op t x =>
    simp only [opVC] at h ⊢
    split at h <;> first | exact h.elim | exact f _ _ h
  | convert a b x =>
    simp only [opVC] at h ⊢
    split at h <;> first | exact h.elim | exact f _ _ h
  | makeSlice t l c =>
    simp only [opVC] at h ⊢
    split at h
    · split at h
      · exact ⟨h.1, h.2.1, h.2.2.1, h.2.2.2.1, f _ _ h.2.2.2.2⟩
      · exact h.elim
    · exact h.elim
  | buildSlice t n ps =>
    simp only [opVC] at h ⊢
    split at h
    · split at h
      · refine shareP_imp (fun q' u' h => ?_) h
        split at h
        · exact ⟨h.1, h.2.1, f _ _ h.2.2⟩
        · exact h.elim
      · exact h.elim
    · exact h.elim
  | slice t x lo hi mx =>
    cases mx with
    | some m => exact h.elim
    | none =>
      simp only [opVC] at h ⊢
      split at h
      · split at h
        · split at h
          · exact ⟨h.1, optI_imp (fun _ h => optI_imp (fun _ h => ⟨h.1, h.2.1, h.2.2.1, f _ _ h.2.2.2⟩) h) h.2⟩
          · exact optI_imp (fun _ h => optI_imp (fun _ h => ⟨h.1, h.2.1, h.2.2.1, f _ _ h.2.2.2⟩) h) h
          · rcases h with h | h
            · refine .inl (share1_imp (fun q u h => ?_) h)
              split at h
              · exact ⟨h.1, optI_imp (fun _ h => optI_imp (fun _ h => ⟨h.1, h.2.1, h.2.2.1, f _ _ h.2.2.2⟩) h) h.2⟩
              · exact h.elim
            · refine .inr ?_
              split at h
              · exact ⟨h.1, h.2.1, optI_imp (fun _ h => optI_imp (fun _ h => ⟨h.1, h.2.1, h.2.2.1, h.2.2.2.imp (fun h => ⟨h.1, f _ _ h.2⟩) (fun h => ⟨h.1, h.2.1, f _ _ h.2.2⟩)⟩) h) h.2.2⟩
              · exact h.elim
          · exact h.elim
        · exact h.elim
      · split at h
        · exact optI_imp (fun _ h => optI_imp (fun _ h => ⟨h.1, h.2.1, h.2.2.1, f _ _ h.2.2.2⟩) h) h
        · exact h.elim
      · exact h.elim
  | fieldAddr t x fl =>
    simp only [opVC] at h ⊢
    split at h <;> first | exact h.elim | exact f _ _ h
  | field t x fl =>
    simp only [opVC] at h ⊢
    split at h
    · exact loadV_imp (fun _ e => f _ _ e) h
    · exact h.elim
  | indexAddr t x i =>
    simp only [opVC] at h ⊢
    split at h
    · split at h
      · split at h
        · obtain ⟨h0, h1, el, h2, h3⟩ := h
          exact ⟨h0, h1, el, h2, f _ _ h3⟩
        · split at h
          · exact ⟨h.1, h.2.1, h.2.2.1, h.2.2.2.1, f _ _ h.2.2.2.2⟩
          · exact h.elim
        · split at h
          · exact ⟨h.1, h.2.1, h.2.2.1, h.2.2.2.1, f _ _ h.2.2.2.2⟩
          · exact h.elim
        · exact h.elim
      · exact h.elim
    · exact h.elim
  | index t x i =>
    simp only [opVC] at h ⊢
    split at h
    · obtain ⟨h0, b, h1, h2⟩ := h
      exact ⟨h0, b, h1, f _ _ h2⟩
    · exact ⟨h.1, h.2.1, loadV_imp (fun _ e => f _ _ e) h.2.2⟩
    · exact h.elim
  | extract x i =>
    simp only [opVC] at h ⊢
    split at h
    · split at h
      · exact f _ _ h
      · exact h.elim
    · exact h.elim
  | makeFunc fn first cap =>
    cases fn with
    | func fid => exact ⟨h.1, capt_imp (fun _ _ h => f _ _ h) h.2⟩
    | _ => exact h.elim
  | call c =>
    obtain ⟨cal, args, tys⟩ := c
    cases cal with
    | builtin b =>
      cases b <;> try exact h.elim
      case len =>
        simp only [opVC] at h ⊢
        split at h
        · split at h <;> first | exact h.elim | exact f _ _ h
        · exact h.elim
      case clear =>
        simp only [opVC] at h ⊢
        split at h
        · split at h
          · split at h
            · rename_i x0 t0 _ _ _ _ _ _ _ _ _ _ r0 _
              have key : ∀ id n lo, (match s id with
                  | some (.row e' sz es false) => sz = r0.n ∧ n = es.length ∧ lo ≤ n ∧ k (.tup []) [(id, .row e' sz (es.take lo ++ List.replicate (n - lo) r0.zero) false)]
                  | _ => False) → (match s id with
                  | some (.row e' sz es false) => sz = r0.n ∧ n = es.length ∧ lo ≤ n ∧ k' (.tup []) [(id, .row e' sz (es.take lo ++ List.replicate (n - lo) r0.zero) false)]
                  | _ => False) := fun id n lo h => by
                split at h
                · exact ⟨h.1, h.2.1, h.2.2.1, f _ _ h.2.2.2⟩
                · exact h.elim
              generalize evo g x0 = pe at h ⊢
              cases pe <;> first | exact h.elim | exact key _ _ _ h
            · exact h.elim
          · exact h.elim
        · exact h.elim
      case cap =>
        simp only [opVC] at h ⊢
        split at h
        · split at h <;> first | exact h.elim | exact f _ _ h
        · exact h.elim
      case min =>
        simp only [opVC] at h ⊢
        split at h <;> first | exact h.elim | exact f _ _ h
      case max =>
        simp only [opVC] at h ⊢
        split at h <;> first | exact h.elim | exact f _ _ h
      case append =>
        simp only [opVC] at h ⊢
        split at h
        · split at h
          · split at h
            · split at h
              · exact ⟨h.1, h.2.1, h.2.2.1, f _ _ h.2.2.2⟩
              · exact h.elim
            · exact h.elim
          refine ⟨h.1, ?_⟩
          have h := h.2
          split at h
          · split at h
            · refine share1_imp (fun q u h => ?_) h
              cases q <;> try exact h.elim
              all_goals dsimp only at h ⊢
              case nils =>
                split at h
                · exact ⟨h.1, h.2.1, f _ _ h.2.2⟩
                · split at h
                  · exact ⟨h.1, h.2.1, h.2.2.1, h.2.2.2.1, h.2.2.2.2.1, f _ _ h.2.2.2.2.2⟩
                  · exact h.elim
                · exact h.elim
              case sl =>
                refine ⟨h.1, ?_⟩
                have h := h.2
                split at h
                · exact ⟨h.1, h.2.1, f _ _ h.2.2⟩
                · split at h
                  · exact ⟨h.1, h.2.1, h.2.2.1, h.2.2.2.1, h.2.2.2.2.1, f _ _ h.2.2.2.2.2⟩
                  · exact h.elim
                · exact h.elim
            · exact h.elim
          · exact h.elim
        · exact h.elim
    | _ => exact h.elim
  | _ => exact h.elim

/-- Operations that only look at values and objects. -/
def quietC (o : Oper) : Bool := match o.op with
  | .move _ | .assign _ | .pick .. | .nilCheck _ | .unOp .. | .convert .. | .fieldAddr .. | .field .. | .extract .. | .index .. | .build .. | .load .. | .indexAddr .. => true
  | .binOp _ _ _ y _ => match y with
    | .const v => (match constV v with | .nils => false | _ => true)
    | _ => true
  | .call { callee := .builtin .len, .. } | .call { callee := .builtin .min, .. } | .call { callee := .builtin .max, .. } => true
  | _ => false

/-- wk: of a row its length alone counts. -/
def keepO (wk : Bool) : Option Obj → Option Obj → Prop
  | some (.row e sz es _), some (.row e' sz' es' _) => match wk with
    | true => sz = sz' ∧ es.length = es'.length
    | false => e = e' ∧ sz = sz' ∧ es = es'
  | some (.box cs _), some (.box cs' _) => match wk with
    | true => True
    | false => cs = cs'
  | _, _ => False
def refs1 : PV → List Nat
  | .loc id _ | .lel id _ _ _ | .ls id _ | .lw id _ _ => [id]
  | _ => []
/-- The objects that such an operation looks at; whether at a row's length alone. -/
def orefs (g : Nat → PV) (o : Oper) : List (Nat × Bool) := match o.op with
  | .load _ x => (refs1 (evo g x)).map fun i => (i, false)
  | .indexAddr _ x _ => (refs1 (evo g x)).map fun i => (i, true)
  | _ => []

theorem keepO.trans {wk : Bool} {a b c : Option Obj} (h : keepO wk a b) (k : keepO wk b c) : keepO wk a c := by
  cases wk <;> (
  cases a with
  | none => exact h.elim
  | some a => cases b with
    | none => cases a <;> exact h.elim
    | some b => cases c with
      | none => cases b <;> exact k.elim
      | some c => cases a <;> cases b <;> (try exact h.elim) <;> cases c <;> (try exact k.elim) <;> simp_all [keepO])

/-- What such an operation yields, wherever the objects that it looks at are the same. -/
theorem opQ_ext {o : Oper} {k : K} (hq : quietC o = true) (h : opVC T o g s k) :
    ∃ v, k v [] ∧ ∀ s' (k' : K), k' v [] → (∀ x, x ∈ orefs g o → keepO x.2 (s x.1) (s' x.1)) → opVC T o g s' k' := by
  obtain ⟨dst, op, ty, pos, after, guard⟩ := o
  cases op with
  | move x => exact ⟨_, h, fun _ _ e _ => e⟩
  | assign x => exact ⟨_, h, fun _ _ e _ => e⟩
  | pick c x y =>
    simp only [opVC] at h ⊢
    split at h
    · split at h <;> exact ⟨_, h, fun _ _ e _ => e⟩
    · exact h.elim
  | build t ps =>
    simp only [opVC] at h ⊢
    split at h
    · split at h
      · exact ⟨_, h.2, fun _ _ e _ => ⟨h.1, e⟩⟩
      · exact h.elim
    · split at h
      · exact ⟨_, h.2, fun _ _ e _ => ⟨h.1, e⟩⟩
      · exact h.elim
    · exact h.elim
  | load t x =>
    simp only [opVC] at h ⊢
    split at h
    · split at h
      · obtain ⟨v, h1, h2⟩ := loadV_ext h
        exact ⟨v, h2, fun _ _ e _ => loadV_imp (fun _ ev => by subst ev; exact e) h1⟩
      · rename_i id off hx
        split at h
        · rename_i cs fr hs
          obtain ⟨v, h1, h2⟩ := loadV_ext h
          refine ⟨v, h2, fun s' _ e hk => ?_⟩
          have := hk (id, false) (by simp [orefs, hx, refs1])
          dsimp only at this
          rw [hs] at this
          split
          · rename_i cs' fr' hs'; rw [hs'] at this; cases this; exact loadV_imp (fun _ ev => by subst ev; exact e) h1
          · rename_i hn
            rcases hc : s' id with _ | (_ | _ | _) <;> rw [hc] at this <;> first | exact this.elim | exact hn _ _ hc
        · exact h.elim
      · rename_i id n i j hx
        split at h
        · rename_i e0 sz es fr hs
          obtain ⟨h0, el, h3, h4⟩ := h
          obtain ⟨v, h1, h2⟩ := loadV_ext h4
          refine ⟨v, h2, fun s' _ e hk => ?_⟩
          have := hk (id, false) (by simp [orefs, hx, refs1])
          dsimp only at this
          rw [hs] at this
          split
          · rename_i e' sz' es' fr' hs'; rw [hs'] at this; obtain ⟨rfl, rfl, rfl⟩ := this; exact ⟨h0, el, h3, loadV_imp (fun _ ev => by subst ev; exact e) h1⟩
          · rename_i hn
            rcases hc : s' id with _ | (_ | _ | _) <;> rw [hc] at this <;> first | exact this.elim | exact hn _ _ _ _ hc
        · exact h.elim
      · exact h.elim
    · exact h.elim
  | nilCheck x =>
    simp only [opVC] at h ⊢
    split at h <;> first | exact h.elim | exact ⟨_, h, fun _ _ e _ => e⟩
  | binOp op t x y z =>
    simp only [opVC] at h ⊢
    split at h
    · split at h
      · obtain ⟨h0, h1, h⟩ := h
        split at h <;> first | exact h.elim | exact ⟨_, h, fun _ _ e _ => ⟨h0, h1, e⟩⟩
      · exact h.elim
    · split at h <;> first | exact h.elim | exact ⟨_, h, fun _ _ e _ => e⟩
    · rename_i hy
      split at h <;> first | exact h.elim | (simp only [quietC] at hq; simp only [evo] at hy; rw [hy] at hq; cases hq)
    · rename_i hy
      split at h <;> first | exact h.elim | (simp only [quietC] at hq; simp only [evo] at hy; rw [hy] at hq; cases hq)
    · obtain ⟨v, h1, h2⟩ := binS_ext h
      exact ⟨v, h2, fun _ _ e _ => binS_imp (fun _ ev => by subst ev; exact e) h1⟩
  | unOp op t x =>
    simp only [opVC] at h ⊢
    split at h <;> first | exact h.elim | exact ⟨_, h, fun _ _ e _ => e⟩
  | convert a b x =>
    simp only [opVC] at h ⊢
    split at h <;> first | exact h.elim | exact ⟨_, h, fun _ _ e _ => e⟩
  | fieldAddr t x fl =>
    simp only [opVC] at h ⊢
    split at h <;> first | exact h.elim | exact ⟨_, h, fun _ _ e _ => e⟩
  | field t x fl =>
    simp only [opVC] at h ⊢
    split at h
    · obtain ⟨v, h1, h2⟩ := loadV_ext h
      exact ⟨v, h2, fun _ _ e _ => loadV_imp (fun _ ev => by subst ev; exact e) h1⟩
    · exact h.elim
  | indexAddr t x i =>
    simp only [opVC] at h ⊢
    split at h
    · split at h
      · split at h
        · obtain ⟨h0, h1, el, h2, h3⟩ := h
          exact ⟨_, h3, fun _ _ e _ => ⟨h0, h1, el, h2, e⟩⟩
        · rename_i id m hx
          split at h
          · rename_i e0 sz es fr hs
            refine ⟨_, h.2.2.2.2, fun s' _ e hk => ?_⟩
            have := hk (id, true) (by simp [orefs, hx, refs1])
            dsimp only at this
            rw [hs] at this
            split
            · rename_i e' sz' es' fr' hs'; rw [hs'] at this; obtain ⟨q1, q2⟩ := this; exact ⟨q1 ▸ h.1, q2 ▸ h.2.1, h.2.2.1, h.2.2.2.1, e⟩
            · rename_i hn
              rcases hc : s' id with _ | (_ | _ | _) <;> rw [hc] at this <;> first | exact this.elim | exact hn _ _ _ _ hc
          · exact h.elim
        · rename_i id m lo hx
          split at h
          · rename_i e0 sz es fr hs
            refine ⟨_, h.2.2.2.2, fun s' _ e hk => ?_⟩
            have := hk (id, true) (by simp [orefs, hx, refs1])
            dsimp only at this
            rw [hs] at this
            split
            · rename_i e' sz' es' fr' hs'; rw [hs'] at this; obtain ⟨q1, q2⟩ := this; exact ⟨q1 ▸ h.1, q2 ▸ h.2.1, h.2.2.1, h.2.2.2.1, e⟩
            · rename_i hn
              rcases hc : s' id with _ | (_ | _ | _) <;> rw [hc] at this <;> first | exact this.elim | exact hn _ _ _ _ hc
          · exact h.elim
        · exact h.elim
      · exact h.elim
    · exact h.elim
  | index t x i =>
    simp only [opVC] at h ⊢
    split at h
    · obtain ⟨h0, b, h1, h2⟩ := h
      exact ⟨_, h2, fun _ _ e _ => ⟨h0, b, h1, e⟩⟩
    · obtain ⟨h0, h1, h⟩ := h
      obtain ⟨v, h3, h2⟩ := loadV_ext h
      exact ⟨v, h2, fun _ _ e _ => ⟨h0, h1, loadV_imp (fun _ ev => by subst ev; exact e) h3⟩⟩
    · exact h.elim
  | extract x i =>
    simp only [opVC] at h ⊢
    split at h
    · split at h
      · exact ⟨_, h, fun _ _ e _ => e⟩
      · exact h.elim
    · exact h.elim
  | call c =>
    obtain ⟨cal, args, tys⟩ := c
    cases cal with
    | builtin b =>
      cases b <;> try exact h.elim
      case clear => cases hq
      case cap => cases hq
      case len =>
        simp only [opVC] at h ⊢
        split at h
        · split at h <;> first | exact h.elim | exact ⟨_, h, fun _ _ e _ => e⟩
        · exact h.elim
      case min =>
        simp only [opVC] at h ⊢
        split at h <;> first | exact h.elim | exact ⟨_, h, fun _ _ e _ => e⟩
      case max =>
        simp only [opVC] at h ⊢
        split at h <;> first | exact h.elim | exact ⟨_, h, fun _ _ e _ => e⟩
      case append => cases hq
    | _ => exact h.elim
  | _ => cases hq

/-- An operation's condition looks at its operands alone. -/
theorem opVC_congr {o : Oper} {k : K} (h : ∀ x ∈ o.op.operands, evo g x = evo g' x) : opVC T o g s k = opVC T o g' s k := by
  obtain ⟨dst, op, ty, pos, after, guard⟩ := o
  have pairs : ∀ ps : Array (Nat × Operand), (∀ x ∈ (ps.toList.map (·.2)).toArray, evo g x = evo g' x) → parts g ps.toList = parts g' ps.toList := fun ps hp =>
    List.map_congr_left fun p hm => by
      obtain ⟨i, x⟩ := p
      simp only [hp x (by simp; exact ⟨i, by simpa using hm⟩)]
  cases op <;> simp only [Op.operands] at h <;> simp only [opVC]
  case build t ps => rw [pairs ps h]
  case buildSlice t n ps => rw [pairs ps h]
  case makeFunc fn first cap =>
    cases fn <;> simp only
    rw [List.map_congr_left (l := cap.toList) fun x hx => h x (by simp [Array.mem_toList_iff.1 hx])]
  case slice t x lo hi mx => cases lo <;> cases hi <;> cases mx <;> simp_all [optI]
  case call c =>
    obtain ⟨cal, args, tys⟩ := c
    have hm : args.toList.map (evo g) = args.toList.map (evo g') := List.map_congr_left fun x hx => h x (by simp [Call.operands, Array.mem_toList_iff.1 hx])
    cases cal with
    | builtin b =>
      cases b <;> simp only
      case min => rw [hm]
      case max => rw [hm]
      case len =>
        have hm' : ∀ x ∈ args.toList, evo g x = evo g' x := fun x hx => h x (by simp [Call.operands, Array.mem_toList_iff.1 hx])
        clear hm h
        generalize args.toList = l at hm'
        rcases l with _ | ⟨x, _ | ⟨y, l⟩⟩
        · rfl
        · generalize tys.toList = m
          rcases m with _ | ⟨t, _ | ⟨t', m⟩⟩
          · rfl
          · simp only [hm' x (by simp)]
          · rfl
        · rfl
      case clear =>
        have hm' : ∀ x ∈ args.toList, evo g x = evo g' x := fun x hx => h x (by simp [Call.operands, Array.mem_toList_iff.1 hx])
        clear hm h
        generalize args.toList = l at hm'
        rcases l with _ | ⟨x, _ | ⟨y, l⟩⟩
        · rfl
        · generalize tys.toList = m
          rcases m with _ | ⟨t, _ | ⟨t', m⟩⟩
          · rfl
          · simp only [hm' x (by simp)]
          · rfl
        · rfl
      case cap =>
        have hm' : ∀ x ∈ args.toList, evo g x = evo g' x := fun x hx => h x (by simp [Call.operands, Array.mem_toList_iff.1 hx])
        clear hm h
        generalize args.toList = l at hm'
        rcases l with _ | ⟨x, _ | ⟨y, l⟩⟩
        · rfl
        · generalize tys.toList = m
          rcases m with _ | ⟨t, _ | ⟨t', m⟩⟩
          · rfl
          · simp only [hm' x (by simp)]
          · rfl
        · rfl
      case append =>
        have hm' : ∀ x ∈ args.toList, evo g x = evo g' x := fun x hx => h x (by simp [Call.operands, Array.mem_toList_iff.1 hx])
        clear hm h
        generalize args.toList = l at hm'
        rcases l with _ | ⟨x, _ | ⟨y, _ | ⟨z, l⟩⟩⟩
        · rfl
        · rfl
        · generalize tys.toList = m
          rcases m with _ | ⟨t, _ | ⟨t', _ | ⟨u, m⟩⟩⟩
          · rfl
          · rfl
          · simp only [hm' x (by simp), hm' y (by simp)]
          · rfl
        · rfl
    | _ => rfl
  all_goals (first | rfl | (simp_all; done))
end
def stepK (P : Program) (G : Sig) (o : Oper) (σ : St) (k : K) : Prop :=
  match o.op with
  | .call { callee := .value c, args, .. } => match evo σ.get c with
    | .fn f cap => dstOK o.dst σ.n = true ∧ callVC P (lookD [] G.own f) f (args.toList.map (evo σ.get) ++ cap) o.dst σ.obj k
    | _ => False
  | _ => dstOK o.dst σ.n = true ∧ opVC G.T o σ.get σ.obj k

def wantedS (ops : Array Oper) (o : Oper) (g : Nat → PV) : Option Bool := match o.guard with
  | none => some true
  | some (j, want) => match (ops[j]?).bind (·.dst) with
    | some t => match g t with
      | .sc (.bool b) => some (b == want)
      | .tup [] => some false
      | _ => none
    | none => none

/-- Directly ordered behind. -/
def behind (md : Region.Mode) (o : Oper) (i : Nat) : Bool := o.after.toList.any fun e => Nat.beq e.on i && Region.binds md e

def kept1 (b : Bool) (s : Objs) (u : List (Nat × Obj)) : List (Nat × Bool) → Prop
  | [] => True
  | (id, wk) :: r => (match look u id with
    | none => True
    | some o => match b with
      | true => True
      | false => keepO wk (s id) (some o)) ∧ kept1 b s u r
def kept (md : Region.Mode) (o : Oper) (s : Objs) (u : List (Nat × Obj)) : List (Nat × List (Nat × Bool)) → Prop
  | [] => True
  | (i, ids) :: r => kept1 (behind md o i) s u ids ∧ kept md o s u r

def opE (P : Program) (G : Sig) (md : Region.Mode) (ops : Array Oper) (keep : List (Nat × List (Nat × Bool))) (i : Nat) (σ : St) (k : St → Prop) : Prop :=
  match ops[i]? with
  | none => False
  | some o => match wantedS ops o σ.get with
    | some true => stepK P G o σ fun v u => kept md o σ.obj u keep ∧ k ((σ.upd u).set o.dst v)
    | some false => dstOK o.dst σ.n = true ∧ k (σ.set o.dst (.tup []))
    | none => False

def vcE (P : Program) (G : Sig) (md : Region.Mode) (ops : Array Oper) (K : St → Prop) : Nat → List (Nat × List (Nat × Bool)) → Array Bool → St → Prop
  | 0, _, l, σ => Region.ready md ops l = [] ∧ K σ
  | f + 1, keep, l, σ => (Region.ready md ops l = [] → K σ) ∧ ∀ i ∈ Region.ready md ops l, opE P G md ops keep i σ fun σ' => vcE P G md ops K f keep (l.setIfInBounds i true) σ'

def Eqv (σ τ : St) : Prop := σ.n = τ.n ∧ σ.get = τ.get ∧ σ.obj = τ.obj

section
variable {P : Program} {G : Sig} {md : Region.Mode} {ops : Array Oper} {K : St → Prop} {σ τ : St} {o oi : Oper} {i : Nat}

theorem Eqv.refl (σ : St) : Eqv σ σ := ⟨rfl, rfl, rfl⟩
theorem Eqv.symm (h : Eqv σ τ) : Eqv τ σ := ⟨h.1.symm, h.2.1.symm, h.2.2.symm⟩
theorem Eqv.trans {ρ : St} (h : Eqv σ τ) (h' : Eqv τ ρ) : Eqv σ ρ := ⟨h.1.trans h'.1, h.2.1.trans h'.2.1, h.2.2.trans h'.2.2⟩
theorem Eqv.sim (h : Eqv σ τ) {F : Fr} {a : Act} {w : World} (hs : Sim F σ a w) : Sim F τ a w := by
  obtain ⟨h1, h2, h3⟩ := h
  obtain ⟨rd, L, hn, hdf, hrep, hwk, hgr⟩ := hs
  exact ⟨rd, L, h1 ▸ hn, hdf, h2 ▸ h3 ▸ hrep, h3 ▸ hwk, h3 ▸ hgr⟩

theorem get_set_fun (σ : St) (d : Option Nat) (v : PV) : (σ.set d v).get = fun t => if d = some t then v else σ.get t := funext fun t => St.get_set σ d v t
theorem obj_upd_fun (σ : St) (u : List (Nat × Obj)) : (σ.upd u).obj = ov u σ.obj := by
  funext id
  simp only [St.upd, St.obj, ov]
  induction u with
  | nil => rfl
  | cons x u ih =>
    obtain ⟨j, o⟩ := x
    simp only [List.cons_append, look]
    cases Nat.beq j id with
    | true => rfl
    | false => exact ih

theorem Eqv.set (h : Eqv σ τ) (d : Option Nat) (v : PV) : Eqv (σ.set d v) (τ.set d v) :=
  ⟨by rw [St.n_set, St.n_set, h.1], by rw [get_set_fun, get_set_fun, h.2.1], by funext q; rw [St.obj_set, St.obj_set, h.2.2]⟩
theorem Eqv.upd (h : Eqv σ τ) (u : List (Nat × Obj)) : Eqv (σ.upd u) (τ.upd u) :=
  ⟨h.1, h.2.1, by rw [obj_upd_fun, obj_upd_fun, h.2.2]⟩
theorem Eqv.set_comm (σ : St) {d e : Option Nat} (v u : PV) (h : ∀ t, d = some t → e ≠ some t) : Eqv ((σ.set d v).set e u) ((σ.set e u).set d v) := by
  refine ⟨by simp only [St.n_set], ?_, by funext q; simp only [St.obj_set]⟩
  simp only [get_set_fun]
  funext t
  by_cases h1 : d = some t
  · have := h t h1; simp [h1, this]
  · simp [h1]
theorem Eqv.upd_set (σ : St) (d : Option Nat) (v : PV) (u : List (Nat × Obj)) : (σ.set d v).upd u = (σ.upd u).set d v := by
  cases d <;> rfl

theorem kept1_drop {b : Bool} {s : Objs} {u : List (Nat × Obj)} {ids : List (Nat × Bool)} (h : kept1 b s u ids) (hb : b = false) : ∀ x ∈ ids, ∀ o, look u x.1 = some o → keepO x.2 (s x.1) (some o) := by
  induction ids with
  | nil => intro id hm; simp at hm
  | cons x ids ih =>
    intro id hm o ho
    rcases List.mem_cons.1 hm with rfl | hm
    · have h1 := h.1
      rw [ho, hb] at h1
      exact h1
    · exact ih h.2 id hm o ho

theorem pass1_imp {own : Bool} {s : Objs} {p : PV} {k k' : PV → List (Nat × Obj) → Option Nat → Prop} (f : ∀ q u m, k q u m → k' q u m) (h : pass1 own s p k) : pass1 own s p k' := by
  unfold pass1 at h ⊢
  split at h
  · split at h
    · exact shareL_imp (fun _ _ h => f _ _ _ h) h
    · exact h.elim
  · split at h
    · split at h
      · exact ⟨h.1, f _ _ _ h.2⟩
      · exact h.elim
    · exact share1_imp (fun _ _ h => f _ _ _ h) h
  · exact share2_imp (fun _ _ h => f _ _ _ h) h
theorem passA_imp {l : List PV} : ∀ {i : Nat} {own : List Bool} {s : Objs} {k k' : List PV → List (Nat × Obj) → List (Nat × Nat) → Prop}, (∀ q u m, k q u m → k' q u m) → passA i own s l k → passA i own s l k' := by
  induction l with
  | nil => intro i own s k k' f h; exact f _ _ _ h
  | cons p l ih =>
    intro i own s k k' f h
    refine pass1_imp (fun q u m h => ?_) h
    cases m with
    | none => exact ih (fun _ _ _ h => f _ _ _ h) h
    | some id => exact ih (fun _ _ _ h => f _ _ _ h) h

theorem stepK_imp {k k' : Go.Vi.K} (f : ∀ v u, k v u → k' v u) (h : stepK P G o σ k) : stepK P G o σ k' := by
  unfold stepK at h ⊢
  split at h
  · split at h
    · exact ⟨h.1, passA_imp (fun _ _ _ ⟨res, outs, h1, h2, h3, h4, h5⟩ => ⟨res, outs, h1, h2, h3, h4, f _ _ h5⟩) h.2⟩
    · exact h.elim
  · exact ⟨h.1, opVC_imp f h.2⟩

theorem stepK_congr {k : Go.Vi.K} (hn : σ.n = τ.n) (hg : ∀ x ∈ o.op.operands, evo σ.get x = evo τ.get x) (ho : σ.obj = τ.obj) (h : stepK P G o σ k) : stepK P G o τ k := by
  unfold stepK at h ⊢
  split at h
  · rename_i c args tys hop
    rw [hop] at hg
    have hc : evo σ.get c = evo τ.get c := hg c (by simp [Op.operands, Call.operands])
    have hm : args.toList.map (evo σ.get) = args.toList.map (evo τ.get) := List.map_congr_left fun x hx => hg x (by simp [Op.operands, Call.operands, Array.mem_toList_iff.1 hx])
    rw [hc, hm, hn, ho] at h
    exact h
  · rw [hn, ho, opVC_congr hg] at h
    exact h

theorem opE_imp {keep keep' : List (Nat × List (Nat × Bool))} {k k' : St → Prop} (fk : ∀ o s u, kept md o s u keep → kept md o s u keep') (f : ∀ σ, k σ → k' σ) (h : opE P G md ops keep i σ k) : opE P G md ops keep' i σ k' := by
  unfold opE at h ⊢
  split at h
  · exact h.elim
  · split at h
    · exact stepK_imp (fun v u h => ⟨fk _ _ _ h.1, f _ h.2⟩) h
    · exact ⟨h.1, f _ h.2⟩
    · exact h.elim

theorem opE_congr {keep : List (Nat × List (Nat × Bool))} {k : St → Prop} (he : Eqv σ τ) (f : ∀ σ τ, Eqv σ τ → k σ → k τ) (h : opE P G md ops keep i σ k) : opE P G md ops keep i τ k := by
  unfold opE at h ⊢
  split at h
  · exact h.elim
  · rw [he.2.1] at h
    split at h
    · refine stepK_congr he.1 (fun x _ => by rw [he.2.1]) he.2.2 (stepK_imp (fun v u h => ?_) h)
      exact ⟨he.2.2 ▸ h.1, f _ _ ((he.upd u).set _ v) h.2⟩
    · exact ⟨he.1 ▸ h.1, f _ _ (he.set _ _) h.2⟩
    · exact h.elim

theorem vcE_congr (hK : ∀ σ τ, Eqv σ τ → K σ → K τ) : ∀ (f : Nat) (keep : List (Nat × List (Nat × Bool))) (l : Array Bool) (σ τ : St), Eqv σ τ → vcE P G md ops K f keep l σ → vcE P G md ops K f keep l τ := by
  intro f
  induction f with
  | zero => intro keep l σ τ he h; exact ⟨h.1, hK _ _ he h.2⟩
  | succ f ih =>
    intro keep l σ τ he h
    exact ⟨fun hr => hK _ _ he (h.1 hr), fun i hi => opE_congr he (fun _ _ he h => ih _ _ _ _ he h) (h.2 i hi)⟩

theorem vcE_keep {keep keep' : List (Nat × List (Nat × Bool))} (fk : ∀ o s u, kept md o s u keep → kept md o s u keep') : ∀ (f : Nat) (l : Array Bool) (σ : St), vcE P G md ops K f keep l σ → vcE P G md ops K f keep' l σ := by
  intro f
  induction f with
  | zero => intro l σ h; exact h
  | succ f ih => intro l σ h; exact ⟨h.1, fun i hi => opE_imp fk (fun σ h => ih _ σ h) (h.2 i hi)⟩

/-- An operation that only looks, and what it yields. -/
def Qt (T : Tab) (ops : Array Oper) (o : Oper) (ids : List (Nat × Bool)) (σ : St) (v : PV) : Prop := dstOK o.dst σ.n = true ∧
  ((wantedS ops o σ.get = some true ∧ ∀ s' (k' : Go.Vi.K), k' v [] → (∀ x, x ∈ ids → keepO x.2 (σ.obj x.1) (s' x.1)) → opVC T o σ.get s' k') ∨ (wantedS ops o σ.get = some false ∧ v = .tup []))

theorem wantedS_set {d : Option Nat} {v : PV} (h : ∀ t, d = some t → t ∉ o.looksAt ops) : wantedS ops o (σ.set d v).get = wantedS ops o σ.get := by
  unfold wantedS
  cases hg : o.guard with
  | none => rfl
  | some jw =>
    obtain ⟨j, want⟩ := jw
    dsimp only
    cases ht : (ops[j]?).bind (·.dst) with
    | none => rfl
    | some t =>
      dsimp only
      have : d ≠ some t := fun e => h t e (by simp [Oper.looksAt, hg, ht])
      rw [St.get_set, if_neg this]

theorem evo_set {d : Option Nat} {v : PV} (h : ∀ t, d = some t → t ∉ o.looksAt ops) : ∀ x ∈ o.op.operands, evo (σ.set d v).get x = evo σ.get x := by
  intro x hx
  refine evo_congr fun t ht => ?_
  subst ht
  have : d ≠ some t := fun e => h t e (List.mem_append_left _ (List.mem_filterMap.2 ⟨.tmp t, by simpa using hx, rfl⟩))
  rw [St.get_set, if_neg this]

theorem stepK_quiet {k : Go.Vi.K} (hq : quietC o = true) (h : dstOK o.dst σ.n = true ∧ opVC G.T o σ.get σ.obj k) : stepK P G o σ k := by
  unfold stepK
  split
  · rename_i c args tys hop; rw [quietC, hop] at hq; cases hq
  · exact h
theorem quiet_stepK {k : Go.Vi.K} (hq : quietC o = true) (h : stepK P G o σ k) : dstOK o.dst σ.n = true ∧ opVC G.T o σ.get σ.obj k := by
  unfold stepK at h
  split at h
  · rename_i c args tys hop; rw [quietC, hop] at hq; cases hq
  · exact h

theorem kept_nil {s : Objs} : ∀ {keep : List (Nat × List (Nat × Bool))}, kept md o s [] keep := by
  intro keep
  induction keep with
  | nil => trivial
  | cons x keep ih =>
    obtain ⟨i, ids⟩ := x
    refine ⟨?_, ih⟩
    induction ids with
    | nil => trivial
    | cons y ids ih => exact ⟨trivial, ih⟩

theorem keepO_self {wk : Bool} {a b : Option Obj} (h : keepO wk a b) : keepO wk a a := by
  cases a with
  | none => exact h.elim
  | some a => cases a with
    | row => cases wk; exact ⟨rfl, rfl, rfl⟩; exact ⟨rfl, rfl⟩
    | box => cases wk; rfl; trivial
    | dead => cases b <;> exact h.elim
theorem keepO_self' {wk : Bool} {a b : Option Obj} (h : keepO wk a b) : keepO wk b b := by
  cases b with
  | none => cases a with
    | none => exact h.elim
    | some a => cases a <;> exact h.elim
  | some b => cases b with
    | row => cases wk; exact ⟨rfl, rfl, rfl⟩; exact ⟨rfl, rfl⟩
    | box => cases wk; rfl; trivial
    | dead => cases a with
      | none => exact h.elim
      | some a => cases a <;> exact h.elim

theorem Qt.opE {keep : List (Nat × List (Nat × Bool))} {ids : List (Nat × Bool)} {v : PV} {k : St → Prop} (hi : ops[i]? = some oi) (hq : quietC oi = true) (h : Qt G.T ops oi ids σ v) (hk : k (σ.set oi.dst v))
    (hids : ∀ x, x ∈ ids → keepO x.2 (σ.obj x.1) (σ.obj x.1)) : opE P G md ops keep i σ k := by
  obtain ⟨hd, h⟩ := h
  unfold Go.Vi.opE
  rw [hi]
  dsimp only
  rcases h with ⟨hw, h⟩ | ⟨hw, hv⟩
  · rw [hw]
    exact stepK_quiet hq ⟨hd, h _ _ ⟨kept_nil, hk⟩ hids⟩
  · rw [hw]
    exact ⟨hd, hv ▸ hk⟩

/-- An operation that only looks may be taken first. -/
theorem take_first (hK : ∀ σ τ, Eqv σ τ → K σ → K τ) (hi : ops[i]? = some oi) (hq : quietC oi = true) {ids : List (Nat × Bool)} :
    ∀ (f : Nat) (keep : List (Nat × List (Nat × Bool))) (l : Array Bool) (σ : St) (v : PV),
      (∀ j oj, ops[j]? = some oj → j ≠ i → l.getD j true = false → (∀ e ∈ oj.after, Region.binds md e = true → e.on ≠ i) → oi.apart ops oj = true) →
      i ∈ Region.ready md ops l → Qt G.T ops oi ids σ v → (∀ x, x ∈ ids → keepO x.2 (σ.obj x.1) (σ.obj x.1)) →
      vcE P G md ops K f ((i, ids) :: keep) (l.setIfInBounds i true) (σ.set oi.dst v) → vcE P G md ops K (f + 1) keep l σ := by
  intro f
  induction f with
  | zero =>
    intro keep l σ v _ hr hy hids H
    refine ⟨fun h => (by rw [h] at hr; cases hr), fun j hj => ?_⟩
    by_cases hji : j = i
    · subst hji; exact hy.opE hi hq (vcE_keep (keep := (j, ids) :: keep) (keep' := keep) (fun _ _ _ h => h.2) 0 _ _ H) hids
    · have := ready_mono hj hji
      rw [H.1] at this
      cases this
  | succ f ih =>
    intro keep l σ v hfree hr hy hids H
    refine ⟨fun h => (by rw [h] at hr; cases hr), fun j hj => ?_⟩
    by_cases hji : j = i
    · subst hji; exact hy.opE hi hq (vcE_keep (keep := (j, ids) :: keep) (keep' := keep) (fun _ _ _ h => h.2) _ _ _ H) hids
    · have h1 := H.2 j (ready_mono hj hji)
      obtain ⟨hjun, oj, hoj, hall⟩ := mem_ready.1 hj
      have hnot : ∀ e ∈ oj.after, Region.binds md e = true → e.on ≠ i := fun e he hb heq => by
        have h1 := hall e he hb
        have h0 := (mem_ready.1 hr).1
        rw [heq] at h1
        rcases Nat.lt_or_ge i l.size with h' | h'
        · simp [h'] at h0 h1; rw [h0] at h1; cases h1
        · simp [Array.getElem?_eq_none h'] at h1
      have hnb : behind md oj i = false := by
        cases hb : behind md oj i with
        | false => rfl
        | true =>
          obtain ⟨e, he, h2⟩ := List.any_eq_true.1 hb
          simp only [Bool.and_eq_true] at h2
          exact absurd (Nat.eq_of_beq_eq_true h2.1) (hnot e (Array.mem_toList_iff.1 he) h2.2)
      obtain ⟨ap1, ap2, ap3⟩ := Oper.apart_spec (hfree j oj hoj hji hjun hnot)
      have hfree' : ∀ k ok, ops[k]? = some ok → k ≠ i → (l.setIfInBounds j true).getD k true = false →
          (∀ e ∈ ok.after, Region.binds md e = true → e.on ≠ i) → oi.apart ops ok = true := fun k ok hk hki hun hno => by
        refine hfree k ok hk hki ?_ hno
        by_cases hjk : j = k
        · subst hjk; exact hjun
        · rw [getD_set_ne true hjk] at hun; exact hun
      have hd := hy.1
      have keepQ : ∀ (u : List (Nat × Obj)) (v' : PV), (∀ x, x ∈ ids → keepO x.2 (σ.obj x.1) (ov u σ.obj x.1)) → Qt G.T ops oi ids ((σ.upd u).set oj.dst v') v := by
        intro u v' hu
        refine ⟨by rw [St.n_set]; exact hd, ?_⟩
        have hww : wantedS ops oi ((σ.upd u).set oj.dst v').get = wantedS ops oi σ.get := wantedS_set (σ := σ.upd u) ap3
        rw [hww]
        refine hy.2.imp (fun ⟨hw, h⟩ => ⟨hw, fun s' k' hk hid => ?_⟩) id
        have e : opVC G.T oi ((σ.upd u).set oj.dst v').get s' k' = opVC G.T oi σ.get s' k' := opVC_congr (evo_set (σ := σ.upd u) ap3)
        rw [e]
        refine h s' k' hk fun id hm => (hu id hm).trans ?_
        have := hid id hm
        rw [show ((σ.upd u).set oj.dst v').obj = ov u σ.obj by funext q; rw [St.obj_set, obj_upd_fun]] at this
        exact this
      unfold opE at h1 ⊢
      rw [hoj] at h1 ⊢
      dsimp only at h1 ⊢
      rw [wantedS_set ap1] at h1
      split at h1
      · refine stepK_congr (St.n_set _ _ _) (evo_set ap1) (by funext q; rw [St.obj_set]) (stepK_imp (fun v' u h => ?_) h1)
        obtain ⟨hkp, h⟩ := h
        rw [show (σ.set oi.dst v).obj = σ.obj by funext q; rw [St.obj_set]] at hkp
        have hu : ∀ x, x ∈ ids → keepO x.2 (σ.obj x.1) (ov u σ.obj x.1) := by
          intro id hm
          unfold ov
          cases hl : look u id.1 with
          | none => exact hids id hm
          | some o => exact kept1_drop hkp.1 hnb id hm o hl
        refine ⟨hkp.2, ih keep _ _ v hfree' (ready_mono hr (Ne.symm hji)) (keepQ u v' hu) (fun id hm => ?_) ?_⟩
        · rw [show ((σ.upd u).set oj.dst v').obj = ov u σ.obj by funext q; rw [St.obj_set, obj_upd_fun]]
          exact keepO_self' (hu id hm)
        · rw [Array.setIfInBounds_comm _ _ hji]
          refine vcE_congr hK _ _ _ _ _ ?_ h
          rw [Eqv.upd_set]
          exact Eqv.set_comm _ v v' ap2
      · refine ⟨by rw [St.n_set] at h1; exact h1.1, ih keep _ _ v hfree' (ready_mono hr (Ne.symm hji)) (keepQ [] (.tup []) fun id hm => hids id hm) (fun id hm => ?_) ?_⟩
        · rw [St.obj_set]; exact hids id hm
        · rw [Array.setIfInBounds_comm _ _ hji]
          exact vcE_congr hK _ _ _ _ _ (Eqv.set_comm _ v (.tup []) ap2) h1.2
      · exact h1.elim
end
/-- take: an operation that only looks goes first; alt: one of those that may come next, and the others (which must lead to the same state). -/
inductive Plan where
  | done
  | take (i : Nat) (p : Plan)
  | alt (i : Nat) (p q : Plan)

/-- Operations one after another: 2 i takes i, 2 i + 1 is i as the only one that may come next. -/
def lins : List Nat → Plan → Plan
  | [], p => p
  | n :: r, p => bif Nat.beq (n % 2) 0 then .take (n / 2) (lins r p) else .alt (n / 2) (lins r p) .done

def Plan.isAlt : Plan → Bool
  | .take .. => false
  | _ => true
def Plan.ok (md : Region.Mode) (ops : Array Oper) : Plan → Array Bool → List Nat → Bool
  | .done, _, rs => rs.isEmpty
  | .take i p, l, rs => rs.contains i && (match ops[i]? with | some o => quietC o | none => false) && Region.free md ops l i && p.ok md ops (l.setIfInBounds i true) (Region.ready md ops (l.setIfInBounds i true))
  | .alt i p q, l, rs => match rs with
    | r :: rs' => Nat.beq r i && p.ok md ops (l.setIfInBounds i true) (Region.ready md ops (l.setIfInBounds i true)) && q.isAlt && q.ok md ops l rs'
    | [] => false
def Plan.depth : Plan → Nat
  | .done => 0
  | .take _ p => p.depth + 1
  | .alt _ p q => max (p.depth + 1) q.depth

def Plan.fits (ops : Array Oper) (p : Plan) : Bool :=
  Nat.ble p.depth ops.size && p.ok .any ops (Array.replicate ops.size false) (Region.ready .any ops (Array.replicate ops.size false)) && Region.noSelect ops

/-- What operations taken before looked at is as it was. -/
def keptU (md : Region.Mode) (o : Oper) (s : Objs) (u : List (Nat × Obj)) (keep : List (Nat × List (Nat × Bool))) : Prop := match u with
  | [] => True
  | x :: r => kept md o s (x :: r) keep
theorem keptU_eq {md : Region.Mode} {o : Oper} {s : Objs} {u : List (Nat × Obj)} {keep : List (Nat × List (Nat × Bool))} : keptU md o s u keep = kept md o s u keep := by
  cases u with
  | nil => exact propext ⟨fun _ => kept_nil, fun _ => trivial⟩
  | cons x r => rfl
theorem keptI {md : Region.Mode} {o : Oper} {s : Objs} {u : List (Nat × Obj)} {keep : List (Nat × List (Nat × Bool))} (h : kept md o s u keep) : keptU md o s u keep := by rw [keptU_eq]; exact h

/-- One operation, the state behind it computed. -/
def stepKF (P : Program) (G : Sig) (keep : List (Nat × List (Nat × Bool))) (o : Oper) (σ : St) (k : St → Prop) : Prop :=
  match σ with
  | ⟨n, env, st⟩ => match o.op with
    | .call { callee := .value c, args, .. } => match evo (lookD .undef env) c with
      | .fn f cap => dstOK o.dst n = true ∧ callVC P (lookD [] G.own f) f (args.toList.map (evo (lookD .undef env)) ++ cap) o.dst (look st) fun v u => keptU .any o (look st) u keep ∧ force3 v fun v => appC u st fun st => setC o.dst v env fun env => k ⟨n, env, st⟩
      | _ => False
    | _ => dstOK o.dst n = true ∧ opVC G.T o (lookD .undef env) (look st) fun v u => keptU .any o (look st) u keep ∧ force3 v fun v => appC u st fun st => setC o.dst v env fun env => k ⟨n, env, st⟩

def opP (P : Program) (G : Sig) (ops : Array Oper) (keep : List (Nat × List (Nat × Bool))) (i : Nat) (σ : St) (k : St → Prop) : Prop :=
  match ops[i]? with
  | none => False
  | some o => match o.guard with
    | none => stepKF P G keep o σ k
    | some (j, want) => match (ops[j]?).bind (·.dst) with
      | some t => match σ.get t with
        | .sc (.bool b) => match σ with
          | ⟨n, env, st⟩ => (b = want → stepKF P G keep o ⟨n, (t, bval want) :: env, st⟩ k) ∧ (b = !want → dstOK o.dst n = true ∧ setC o.dst (.tup []) ((t, bval (!want)) :: env) fun env => k ⟨n, env, st⟩)
        | .tup [] => match σ with
          | ⟨n, env, st⟩ => dstOK o.dst n = true ∧ setC o.dst (.tup []) env fun env => k ⟨n, env, st⟩
        | _ => False
      | none => False

def sameE (σ τ : St) : List (Nat × PV) → Prop
  | [] => True
  | (t, _) :: r => lookD .undef σ.env t = lookD .undef τ.env t ∧ sameE σ τ r
def sameO (σ τ : St) : List (Nat × Obj) → Prop
  | [] => True
  | (t, _) :: r => look σ.st t = look τ.st t ∧ sameO σ τ r
def Same (τ σ : St) : Prop := τ.n = σ.n ∧ sameE τ σ σ.env ∧ sameE τ σ τ.env ∧ sameO τ σ σ.st ∧ sameO τ σ τ.st

def vcP (P : Program) (G : Sig) (ops : Array Oper) : Plan → List (Nat × List (Nat × Bool)) → St → (St → Prop) → Prop
  | .done, _, σ, k => k σ
  | .take i p, keep, σ, k => opP P G ops keep i σ fun σ' => match ops[i]? with
    | some o => match orefs σ.get o with
      | [] => vcP P G ops p keep σ' k
      | id :: r => vcP P G ops p ((i, id :: r) :: keep) σ' k
    | none => False
  | .alt i p .done, keep, σ, k => opP P G ops keep i σ fun σ' => vcP P G ops p keep σ' k
  | .alt i p q, keep, σ, k => ∃ τ, (opP P G ops keep i σ fun σ' => vcP P G ops p keep σ' (Same τ)) ∧ vcP P G ops q keep σ (Same τ) ∧ k τ

section
variable {P : Program} {G : Sig} {ops : Array Oper} {K : St → Prop} {σ τ : St} {o oi : Oper} {i : Nat}

theorem sameE_spec : ∀ {l : List (Nat × PV)}, sameE σ τ l → ∀ t, lookD .undef σ.env t = lookD .undef τ.env t ∨ ∀ v, (t, v) ∉ l := by
  intro l
  induction l with
  | nil => intro _ t; right; intro v; simp
  | cons x l ih =>
    obtain ⟨j, v⟩ := x
    intro h t
    by_cases hj : j = t
    · subst hj; exact .inl h.1
    · rcases ih h.2 t with h | h
      · exact .inl h
      · right; intro v'; simp only [List.mem_cons, Prod.mk.injEq, not_or]; exact ⟨fun e => hj e.1.symm, h v'⟩
theorem sameO_spec : ∀ {l : List (Nat × Obj)}, sameO σ τ l → ∀ t, look σ.st t = look τ.st t ∨ ∀ v, (t, v) ∉ l := by
  intro l
  induction l with
  | nil => intro _ t; right; intro v; simp
  | cons x l ih =>
    obtain ⟨j, v⟩ := x
    intro h t
    by_cases hj : j = t
    · subst hj; exact .inl h.1
    · rcases ih h.2 t with h | h
      · exact .inl h
      · right; intro v'; simp only [List.mem_cons, Prod.mk.injEq, not_or]; exact ⟨fun e => hj e.1.symm, h v'⟩
theorem lookD_none {α : Type} {d : α} {l : List (Nat × α)} {t : Nat} (h : ∀ v, (t, v) ∉ l) : lookD d l t = d := by
  induction l with
  | nil => rfl
  | cons x l ih =>
    obtain ⟨j, v⟩ := x
    simp only [lookD]
    cases hb : Nat.beq j t with
    | true => exact absurd (by rw [Nat.eq_of_beq_eq_true hb]; exact List.mem_cons_self) (h v)
    | false => exact ih fun v' hm => h v' (List.mem_cons_of_mem _ hm)
theorem look_none {α : Type} {l : List (Nat × α)} {t : Nat} (h : ∀ v, (t, v) ∉ l) : look l t = none := by
  induction l with
  | nil => rfl
  | cons x l ih =>
    obtain ⟨j, v⟩ := x
    simp only [look]
    cases hb : Nat.beq j t with
    | true => exact absurd (by rw [Nat.eq_of_beq_eq_true hb]; exact List.mem_cons_self) (h v)
    | false => exact ih fun v' hm => h v' (List.mem_cons_of_mem _ hm)
theorem Same.eqv (h : Same τ σ) : Eqv τ σ := by
  obtain ⟨hn, h1, h2, h3, h4⟩ := h
  refine ⟨hn, ?_, ?_⟩
  · funext t
    rcases sameE_spec h1 t with h | h
    · exact h
    · rcases sameE_spec h2 t with h' | h'
      · exact h'
      · simp only [St.get]; rw [lookD_none h, lookD_none h']
  · funext t
    rcases sameO_spec h3 t with h | h
    · exact h
    · rcases sameO_spec h4 t with h' | h'
      · exact h'
      · simp only [St.obj]; rw [look_none h, look_none h']

theorem stepKF_eq (keep : List (Nat × List (Nat × Bool))) (o : Oper) (σ : St) (k : St → Prop) : stepKF P G keep o σ k = stepK P G o σ fun v u => kept .any o σ.obj u keep ∧ k ((σ.upd u).set o.dst v) := by
  obtain ⟨n, env, st⟩ := σ
  have e : ∀ (v : PV) (u : List (Nat × Obj)), (force3 v fun v => appC u st fun st => setC o.dst v env fun env => k ⟨n, env, st⟩) = k (((⟨n, env, st⟩ : St).upd u).set o.dst v) := by
    intro v u
    rw [force3_eq, appC_eq]
    cases h : o.dst <;> rfl
  unfold stepKF stepK
  simp only [e, keptU_eq]
  rfl

theorem opP_opE {keep : List (Nat × List (Nat × Bool))} {k k' : St → Prop} (f : ∀ σ, k σ → k' σ) (hk : ∀ σ τ, Eqv σ τ → k' σ → k' τ) (h : opP P G ops keep i σ k) : opE P G .any ops keep i σ k' := by
  unfold opP at h
  unfold opE
  cases ho : ops[i]? with
  | none => rw [ho] at h; exact h.elim
  | some o =>
    rw [ho] at h
    dsimp only at h ⊢
    unfold wantedS
    cases hg : o.guard with
    | none =>
      rw [hg] at h
      dsimp only at h ⊢
      rw [stepKF_eq] at h
      exact stepK_imp (fun _ _ h => ⟨h.1, f _ h.2⟩) h
    | some jw =>
      obtain ⟨j, want⟩ := jw
      rw [hg] at h
      dsimp only at h ⊢
      cases ht : (ops[j]?).bind (·.dst) with
      | none => rw [ht] at h; exact h.elim
      | some t =>
        rw [ht] at h
        dsimp only at h ⊢
        cases hp : σ.get t with
        | sc v =>
          rw [hp] at h
          cases v with
          | bool b =>
            have hset : ∀ c, b = c → Eqv (σ.set (some t) (bval c)) σ := by
              intro c hc
              refine ⟨St.n_set _ _ _, ?_, by funext q; rw [St.obj_set]⟩
              funext q
              rw [St.get_set]
              split
              · rename_i hq; cases hq; rw [hp, hc]; rfl
              · rfl
            obtain ⟨n, env, st⟩ := σ
            dsimp only at h ⊢
            by_cases hb : b = want
            · have e : (b == want) = true := by simp [hb]
              rw [e]
              dsimp only
              have h := h.1 hb
              rw [stepKF_eq] at h
              have he := hset want hb
              refine stepK_congr he.1 (fun x _ => by rw [← he.2.1]) he.2.2 (stepK_imp (fun v u h => ?_) h)
              exact ⟨h.1, hk _ _ ((he.upd u).set _ v) (f _ h.2)⟩
            · have hbn : b = !want := by cases b <;> cases want <;> simp_all
              have e : (b == want) = false := by simp [hb]
              rw [e]
              dsimp only
              have h := h.2 hbn
              refine ⟨h.1, ?_⟩
              have h2 := h.2
              rw [setC_eq] at h2
              have he := hset (!want) hbn
              refine hk _ _ (he.set o.dst (.tup [])) ?_
              have h2 := f _ h2
              cases hd : o.dst with
              | none => rw [hd] at h2; exact h2
              | some d => rw [hd] at h2; exact h2
          | _ => exact h.elim
        | tup ps =>
          rw [hp] at h
          cases ps with
          | nil =>
            obtain ⟨n, env, st⟩ := σ
            dsimp only at h ⊢
            refine ⟨h.1, ?_⟩
            have h2 := h.2
            rw [setC_eq] at h2
            have h2 := f _ h2
            cases hd : o.dst with
            | none => rw [hd] at h2; exact h2
            | some d => rw [hd] at h2; exact h2
          | cons => exact h.elim
        | _ => rw [hp] at h; exact h.elim

theorem orefs_live {T : Tab} {g : Nat → PV} {s : Objs} {k : Go.Vi.K} (h : opVC T o g s k) : ∀ x, x ∈ orefs g o → keepO x.2 (s x.1) (s x.1) := by
  obtain ⟨dst, op, ty, pos, after, guard⟩ := o
  cases op with
  | load t x =>
    intro id hm
    simp only [orefs] at hm
    simp only [opVC] at h
    split at h
    · split at h
      · rename_i hx; rw [hx] at hm; simp [refs1] at hm
      · rename_i hx; rw [hx] at hm
        simp only [refs1, List.map_cons, List.map_nil, List.mem_singleton] at hm
        subst hm
        dsimp only
        split at h
        · rename_i hs; rw [hs]; rfl
        · exact h.elim
      · rename_i hx; rw [hx] at hm
        simp only [refs1, List.map_cons, List.map_nil, List.mem_singleton] at hm
        subst hm
        dsimp only
        split at h
        · rename_i hs; rw [hs]; exact ⟨rfl, rfl, rfl⟩
        · exact h.elim
      · exact h.elim
    · exact h.elim
  | indexAddr t x i =>
    intro id hm
    simp only [orefs] at hm
    simp only [opVC] at h
    split at h
    · split at h
      · split at h
        · rename_i hx; rw [hx] at hm; simp [refs1] at hm
        · rename_i hx; rw [hx] at hm
          simp only [refs1, List.map_cons, List.map_nil, List.mem_singleton] at hm
          subst hm
          dsimp only
          split at h
          · rename_i hs; rw [hs]; exact ⟨rfl, rfl⟩
          · exact h.elim
        · rename_i hx; rw [hx] at hm
          simp only [refs1, List.map_cons, List.map_nil, List.mem_singleton] at hm
          subst hm
          dsimp only
          split at h
          · rename_i hs; rw [hs]; exact ⟨rfl, rfl⟩
          · exact h.elim
        · exact h.elim
      · exact h.elim
    · exact h.elim
  | _ => intro id hm; simp [orefs] at hm

theorem opE_quiet {keep : List (Nat × List (Nat × Bool))} {k : St → Prop} (hi : ops[i]? = some oi) (hq : quietC oi = true) (h : opE P G .any ops keep i σ k) :
    ∃ v ids, Qt G.T ops oi ids σ v ∧ k (σ.set oi.dst v) ∧ (ids = orefs σ.get oi ∨ ids = []) ∧ ∀ x, x ∈ ids → keepO x.2 (σ.obj x.1) (σ.obj x.1) := by
  unfold opE at h
  rw [hi] at h
  dsimp only at h
  cases hw : wantedS ops oi σ.get with
  | none => rw [hw] at h; exact h.elim
  | some b =>
    rw [hw] at h
    cases b with
    | false => exact ⟨.tup [], [], ⟨h.1, .inr ⟨hw, rfl⟩⟩, h.2, .inr rfl, fun id hm => by simp at hm⟩
    | true =>
      obtain ⟨hd, h⟩ := quiet_stepK hq h
      obtain ⟨v, h1, h2⟩ := opQ_ext hq h
      refine ⟨v, orefs σ.get oi, ⟨hd, .inl ⟨hw, fun s' k' hk hid => h2 s' k' hk hid⟩⟩, h1.2, .inl rfl, fun id hm => ?_⟩
      exact orefs_live h id hm


theorem opP_imp {keep : List (Nat × List (Nat × Bool))} {k k' : St → Prop} (f : ∀ σ, k σ → k' σ) (h : opP P G ops keep i σ k) : opP P G ops keep i σ k' := by
  unfold opP at h ⊢
  split at h
  · exact h.elim
  · split at h
    · rw [stepKF_eq] at h ⊢
      exact stepK_imp (fun _ _ h => ⟨h.1, f _ h.2⟩) h
    · split at h
      · split at h
        · split at h
          refine ⟨fun hb => ?_, fun hb => ?_⟩
          · have h := h.1 hb
            rw [stepKF_eq] at h ⊢
            exact stepK_imp (fun _ _ h => ⟨h.1, f _ h.2⟩) h
          · have h := h.2 hb
            rw [setC_eq] at h ⊢
            exact ⟨h.1, f _ h.2⟩
        · split at h
          rw [setC_eq] at h ⊢
          exact ⟨h.1, f _ h.2⟩
        · exact h.elim
      · exact h.elim

theorem vcP_ok : ∀ (p : Plan),
    (∀ (l : Array Bool) (f : Nat) (keep : List (Nat × List (Nat × Bool))) (σ : St) (k K : St → Prop), p.ok .any ops l (Region.ready .any ops l) = true → p.depth ≤ f → vcP P G ops p keep σ k → (∀ σ, k σ → K σ) → (∀ σ τ, Eqv σ τ → K σ → K τ) →
      vcE P G .any ops K f keep l σ) ∧
    (∀ (l : Array Bool) (rs : List Nat) (f : Nat) (keep : List (Nat × List (Nat × Bool))) (σ : St) (k K : St → Prop), p.isAlt = true → p.ok .any ops l rs = true → p.depth ≤ f + 1 → vcP P G ops p keep σ k → (∀ σ, k σ → K σ) → (∀ σ τ, Eqv σ τ → K σ → K τ) →
      ∀ i ∈ rs, opE P G .any ops keep i σ fun σ' => vcE P G .any ops K f keep (l.setIfInBounds i true) σ') := by
  intro p
  induction p with
  | done =>
    refine ⟨fun l f keep σ k K hok hd h hk hK => ?_, fun l rs f keep σ k K _ hok hd h hk hK i hi => ?_⟩
    · have hr : Region.ready .any ops l = [] := by simpa [Plan.ok] using hok
      cases f with
      | zero => exact ⟨hr, hk _ h⟩
      | succ f => exact ⟨fun _ => hk _ h, fun i hi => by rw [hr] at hi; cases hi⟩
    · have : rs = [] := by simpa [Plan.ok] using hok
      rw [this] at hi; cases hi
  | take i p ih =>
    refine ⟨fun l f keep σ k K hok hd h hk hK => ?_, fun l rs f keep σ k K ha => by cases ha⟩
    simp only [Plan.ok, Bool.and_eq_true] at hok
    obtain ⟨⟨⟨h1, h2⟩, h3⟩, h4⟩ := hok
    cases hi : ops[i]? with
    | none => rw [hi] at h2; cases h2
    | some oi =>
      rw [hi] at h2
      dsimp only at h2
      simp only [Plan.depth] at hd
      cases f with
      | zero => omega
      | succ f =>
        simp only [vcP, hi] at h
        have h := opE_quiet hi h2 (opP_opE (k' := fun σ' => ∀ ids, (ids = orefs σ.get oi ∨ ids = []) → vcE P G .any ops K f ((i, ids) :: keep) (l.setIfInBounds i true) σ') (fun σ' h ids hids => ?_) (fun _ _ he h ids hids => vcE_congr hK _ _ _ _ _ he (h ids hids)) h)
        · obtain ⟨v, ids, hq, hE, hids, hlive⟩ := h
          exact take_first hK hi h2 f keep l σ v (Region.free_spec hi h3) (by simpa using h1) hq hlive (hE ids hids)
        · cases ho : orefs σ.get oi with
          | nil =>
            rw [ho] at h hids
            have e : ids = [] := by rcases hids with h | h <;> exact h
            subst e
            exact vcE_keep (keep := keep) (keep' := (i, []) :: keep) (fun _ _ _ h => ⟨trivial, h⟩) _ _ _ (ih.1 _ f keep σ' k K h4 (by omega) h hk hK)
          | cons id r =>
            rw [ho] at h hids
            have := ih.1 _ f ((i, id :: r) :: keep) σ' k K h4 (by omega) h hk hK
            rcases hids with rfl | rfl
            · exact this
            · exact vcE_keep (keep := (i, id :: r) :: keep) (keep' := (i, []) :: keep) (fun _ _ _ h => ⟨trivial, h.2⟩) _ _ _ this
  | alt i p q ihp ihq =>
    have B : ∀ (l : Array Bool) (rs : List Nat) (f : Nat) (keep : List (Nat × List (Nat × Bool))) (σ : St) (k K : St → Prop), (Plan.alt i p q).ok .any ops l rs = true → (Plan.alt i p q).depth ≤ f + 1 → vcP P G ops (.alt i p q) keep σ k → (∀ σ, k σ → K σ) → (∀ σ τ, Eqv σ τ → K σ → K τ) →
        ∀ i' ∈ rs, opE P G .any ops keep i' σ fun σ' => vcE P G .any ops K f keep (l.setIfInBounds i' true) σ' := by
      intro l rs f keep σ k K hok hd h hk hK i' hi'
      simp only [Plan.depth] at hd
      cases rs with
      | nil => cases hi'
      | cons r rs =>
        simp only [Plan.ok, Bool.and_eq_true] at hok
        obtain ⟨⟨⟨h1, h2⟩, h3⟩, h4⟩ := hok
        have h1 := Nat.eq_of_beq_eq_true h1
        subst h1
        -- the first
        have first : ∀ k, (∀ σ, k σ → K σ) → (opP P G ops keep r σ fun σ' => vcP P G ops p keep σ' k) → opE P G .any ops keep r σ fun σ' => vcE P G .any ops K f keep (l.setIfInBounds r true) σ' := fun k hk h =>
          opP_opE (fun σ' h => ihp.1 _ f keep σ' k K h2 (by omega) h hk hK) (fun _ _ he h => vcE_congr hK _ _ _ _ _ he h) h
        by_cases hq : q = .done
        · subst hq
          have hr : rs = [] := by simpa [Plan.ok] using h4
          subst hr
          simp only [List.mem_singleton] at hi'
          subst hi'
          exact first k hk h
        · have h : ∃ τ, (opP P G ops keep r σ fun σ' => vcP P G ops p keep σ' (Same τ)) ∧ vcP P G ops q keep σ (Same τ) ∧ k τ := by
            cases q with
            | done => exact absurd rfl hq
            | _ => exact h
          obtain ⟨τ, a1, a2, a3⟩ := h
          have hs : ∀ σ', Same τ σ' → K σ' := fun σ' hs => hK _ _ hs.eqv (hk _ a3)
          rcases List.mem_cons.1 hi' with rfl | hi'
          · exact first _ hs a1
          · exact ihq.2 l rs f keep σ (Same τ) K h3 h4 (by omega) a2 hs hK i' hi'
    refine ⟨fun l f keep σ k K hok hd h hk hK => ?_, fun l rs f keep σ k K _ => B l rs f keep σ k K⟩
    cases f with
    | zero => simp only [Plan.depth] at hd; omega
    | succ f =>
      refine ⟨fun hr => ?_, B l _ f keep σ k K hok hd h hk hK⟩
      rw [hr] at hok
      simp [Plan.ok] at hok

theorem vcE_ok (hT : TabOK P G.T) {F : Fr} {md : Region.Mode} : ∀ (f : Nat) (keep : List (Nat × List (Nat × Bool))) (l : Array Bool) (σ : St) (a : Act) (w : World), Sim F σ a w → vcE P G md ops K f keep l σ →
    wpAny P md ops (fun e a w => e = .normal ∧ ∃ σ', K σ' ∧ Sim F σ' a w) f l a w := by
  intro f
  induction f with
  | zero => intro keep l σ a w hs h; exact ⟨h.1, rfl, σ, h.2, hs⟩
  | succ f ih =>
    intro keep l σ a w hs h
    refine ⟨fun hr => ⟨rfl, σ, h.1 hr, hs⟩, fun i hi => ?_⟩
    have h1 := h.2 i hi
    unfold opE at h1
    unfold wpOp
    cases ho : ops[i]? with
    | none => rw [ho] at h1; exact h1.elim
    | some o =>
      rw [ho] at h1
      dsimp only at h1 ⊢
      have hwant : ∀ b, wantedS ops o σ.get = some b → Region.wanted o (yielded ops a.tmps) = b := by
        intro c hc
        unfold wantedS at hc
        cases hg : o.guard with
        | none => rw [hg] at hc; cases hc; simp [Region.wanted, hg]
        | some jw =>
          obtain ⟨j, want⟩ := jw
          rw [hg] at hc
          dsimp only at hc
          cases ht : (ops[j]?).bind (·.dst) with
          | none => rw [ht] at hc; cases hc
          | some t =>
            rw [ht] at hc
            dsimp only at hc
            cases hp : σ.get t with
            | sc v =>
              rw [hp] at hc
              cases v with
              | bool b =>
                cases hc
                obtain ⟨rd, L, hn, hdf, hrep, hwk, hgr⟩ := hs
                have hb := hrep t
                rw [hp] at hb
                have hb := rep3_bool hb
                have hy : yielded ops a.tmps j = some b := by
                  simp only [yielded, ht, Option.bind_some]
                  rw [Array.getD_eq_getD_getElem?] at hb
                  cases hq : a.tmps[t]? with
                  | none => rw [hq] at hb; cases hb
                  | some x => rw [hq] at hb; simp only [Option.getD_some] at hb; rw [hb]
                simp [Region.wanted, hg, hy]
              | _ => cases hc
            | tup ps =>
              rw [hp] at hc
              cases ps with
              | nil =>
                cases hc
                obtain ⟨rd, L, hn, hdf, hrep, hwk, hgr⟩ := hs
                have hb := hrep t
                rw [hp] at hb
                simp [Region.wanted, hg, unb ht hb]
              | cons => cases hc
            | _ => rw [hp] at hc; cases hc
      cases hw : wantedS ops o σ.get with
      | none => rw [hw] at h1; exact h1.elim
      | some b =>
        rw [hw] at h1
        rw [hwant b hw]
        cases b with
        | true =>
          dsimp only at h1
          rw [if_pos rfl]
          refine .inl ?_
          have h3 : stepVC P G o σ (fun σ' => vcE P G md ops K f keep (l.setIfInBounds i true) σ') := by
            have := stepK_imp (fun v u h => h.2) h1
            unfold stepK at this
            unfold stepVC
            exact this
          have h2 := step_ok hT hs h3 (fun e a w => e = .normal ∧ ∃ σ', K σ' ∧ Sim F σ' a w)
          exact Oper.wp_mono (fun a w ⟨σ', h1, h2⟩ => ih _ _ σ' a w h2 h1) h2
        | false =>
          dsimp only at h1
          rw [if_neg (by simp)]
          obtain ⟨rd, L, hn, hdf, hrep, hwk, hgr⟩ := hs
          exact ih _ _ _ _ _ (sim_put (σ := σ) (u := []) hn hdf hrep (Stp.refl hwk hgr) (d := o.dst) h1.1 (pv := .tup []) (v := undef) ⟨[], rfl, .nil⟩) h1.2

theorem MW_drawn (hT : TabOK P G.T) (hm : P.follows .mixedOrders = true) {id : Nat} {p : Plan} {k : Exit → St → Prop} (hp : p.fits ops = true) (h : vcP P G ops p [] σ (k .normal)) : MW P (.region id ops true) σ k := by
  intro F a w hs
  simp only [Plan.fits, Bool.and_eq_true] at hp
  have hs' : Sim F σ a { w with drawn := w.drawn + 1 } := by
    obtain ⟨rd, L, hn, hdf, hrep, hwk, hgr⟩ := hs
    exact ⟨rd, L, hn, hdf, hrep, ⟨hwk.hrd, hwk.box, hwk.row, hwk.inj⟩, ⟨hgr.os, hgr.tape, ⟨hgr.output.out, Nat.le_succ_of_le hgr.output.drawn⟩, hgr.size, hgr.block, hgr.le, hgr.new, hgr.own, hgr.pins, hgr.pb⟩⟩
  have hE := (vcP_ok (P := P) (G := G) (ops := ops) p).1 _ ops.size [] σ (k .normal) (fun σ' => ∃ τ, Eqv τ σ' ∧ k .normal τ) hp.1.2 (Nat.le_of_ble_eq_true hp.1.1) h (fun σ h => ⟨σ, Eqv.refl σ, h⟩)
    (fun _ _ he ⟨ρ, h1, h2⟩ => ⟨ρ, h1.trans he, h2⟩)
  have hA := vcE_ok hT ops.size [] _ σ a _ hs' hE
  exact Code.wp_mono (fun e a w ⟨he, σ', ⟨τ, h1, h2⟩, h3⟩ => by subst he; exact ⟨τ, h2, h1.symm.sim h3⟩) (wp_region_any hm hA)

/-- The plans fit the code. -/
def plansOK (D : Nat → Plan) : Code → Bool
  | .region id ops true => (D id).fits ops
  | .seq x y => plansOK D x && plansOK D y
  | .cond _ x y => plansOK D x && plansOK D y
  | .block _ c => plansOK D c
  | _ => true

def vcG (P : Program) (G : Sig) (D : Nat → Plan) : Code → St → (Exit → St → Prop) → Prop
  | .skip, σ, k => k .normal σ
  | .region _ ops false, σ, k => vcLF P G ops.toList ops.toList σ (k .normal)
  | .region id ops true, σ, k => vcP P G ops (D id) [] σ (k .normal)
  | .seq x y, σ, k => vcG P G D x σ fun e σ' => match e with
    | .normal => vcG P G D y σ' k
    | e => k e σ'
  | .cond c x y, σ, k => match evo σ.get c with
    | .sc (.bool b) => match c, σ with
      | .tmp t, ⟨n, env, st⟩ => (b = true → vcG P G D x ⟨n, (t, bval true) :: env, st⟩ k) ∧ (b = false → vcG P G D y ⟨n, (t, bval false) :: env, st⟩ k)
      | _, σ => (b = true → vcG P G D x σ k) ∧ (b = false → vcG P G D y σ k)
    | _ => False
  | .block id c, σ, k => vcG P G D c σ fun e σ' => match e with
    | .exit i => match Nat.beq i id with
      | true => k .normal σ'
      | false => k (.exit i) σ'
    | e => k e σ'
  | .loop c, σ, k => MW P (.loop c) σ k
  | .exit id, σ, k => k (.exit id) σ
  | .ret, σ, k => k .ret σ
  | _, _, _ => False

theorem vcG_ok (hT : TabOK P G.T) (hm : P.follows .mixedOrders = true) {D : Nat → Plan} : ∀ (c : Code) (σ : St) (k : Exit → St → Prop), plansOK D c = true → vcG P G D c σ k → MW P c σ k := by
  intro c
  induction c with
  | skip => intro σ k _ h F a w hs; exact wp_skip ⟨σ, h, hs⟩
  | region id ops b =>
    intro σ k hp h
    cases b with
    | false => simp only [vcG, vcLF_eq] at h; exact MW_region hT h
    | true => exact MW_drawn hT hm hp h
  | seq x y ihx ihy =>
    intro σ k hp h F a w hs
    simp only [plansOK, Bool.and_eq_true] at hp
    refine wp_seq (Code.wp_mono (fun e a' w' ⟨σ', h1, h2⟩ => ?_) (ihx σ _ hp.1 h F a w hs))
    cases e with
    | normal => exact ihy σ' k hp.2 h1 F a' w' h2
    | _ => exact ⟨σ', h1, h2⟩
  | cond c x y ihx ihy =>
    intro σ k hp h F a w hs
    simp only [plansOK, Bool.and_eq_true] at hp
    simp only [vcG] at h
    split at h
    · rename_i b hc
      have h : (b = true → vcG P G D x (σ.know c true) k) ∧ (b = false → vcG P G D y (σ.know c false) k) := by
        cases σ; cases c <;> exact h
      cases b with
      | true => obtain ⟨h1, h2⟩ := sim_know hs hc; exact wp_cond_true h2 (ihx _ k hp.1 (h.1 rfl) F a w h1)
      | false => obtain ⟨h1, h2⟩ := sim_know hs hc; exact wp_cond_false h2 (ihy _ k hp.2 (h.2 rfl) F a w h1)
    · exact h.elim
  | block id c ih =>
    intro σ k hp h F a w hs
    refine wp_block (Code.wp_mono (fun e a' w' ⟨σ', h1, h2⟩ => ?_) (ih σ _ hp h F a w hs))
    cases e with
    | exit i =>
      simp only [Exit.inBlock]
      dsimp only at h1
      cases hb : Nat.beq i id with
      | true => rw [hb] at h1; rw [if_pos (Nat.eq_of_beq_eq_true hb)]; exact ⟨σ', h1, h2⟩
      | false => rw [hb] at h1; rw [if_neg (fun he => by rw [he, Nat.beq_refl] at hb; cases hb)]; exact ⟨σ', h1, h2⟩
    | _ => exact ⟨σ', h1, h2⟩
  | loop c ih => intro σ k _ h; exact h
  | exit id => intro σ k _ h F a w hs; exact wp_exit ⟨σ, h, hs⟩
  | ret => intro σ k _ h F a w hs; exact wp_ret ⟨σ, h, hs⟩
  | _ => intro σ k _ h; exact h.elim

/-- A function meets its contract. -/
theorem fn_ok (hT : TabOK P G.T) (hm : P.follows .mixedOrders = true) (D : Nat → Plan)
    {f : FuncId} {fn : Func} {c : Code} (hf : P.funcs[f]? = some fn) (hb : fn.body = some c) (hname : (fn.name == "runtime.NumGoroutine") = false) (hD : plansOK D c = true) {args : List PV} {res : PV} {outs : List (Nat × Obj)}
    (hn : Nat.ble args.length fn.ntmps = true) (ho : outsOK args outs = true) (h : vcG P G D c (initSt fn.ntmps args) (exitVC G.T fn res outs)) : CallOK P f args res outs :=
  call_intro hT hf hb hname hn ho (vcG_ok hT hm c _ _ hD h)
theorem loop_ok (hT : TabOK P G.T) (hm : P.follows .mixedOrders = true) (D : Nat → Plan)
    {α : Type} (I : α → St) (μ : α → Nat) {c : Code} {σ : St} {k : Exit → St → Prop} (hD : plansOK D c = true) (x0 : α) (h0 : Fits (I x0) σ)
    (round : ∀ x, vcG P G D c (I x) fun e σ' => match e with | .normal => ∃ y, Fits (I y) σ' ∧ μ y < μ x | e => k e σ') : MW P (.loop c) σ k := by
  refine MW_loop I μ x0 (less_of_fits h0) fun x => ?_
  refine (vcG_ok hT hm c _ _ hD (round x)).mono fun e σ h => ?_
  cases e with
  | normal => obtain ⟨y, h1, h2⟩ := h; exact ⟨y, less_of_fits h1, h2⟩
  | _ => exact h
end
def Real (p : PV) : Prop := ∃ rd v, RepP rd p v
theorem Real.len {o : Option TypeId} {sz : Nat} {es : List (List PV)} (h : Real (.sl o sz es)) : (es.length : Int) ≤ 9223372036854775807 := by
  obtain ⟨rd, v, h⟩ := h
  cases h with
  | sl hcap hmax => have := Nat.le_trans hcap hmax; simp only [maxLen] at this; omega
theorem Real.el {o : Option TypeId} {sz : Nat} {es : List (List PV)} (h : Real (.sl o sz es)) : ∀ e ∈ es, ∀ c ∈ e, Real c := by
  obtain ⟨rd, v, h⟩ := h
  cases h with
  | sl hcap hmax _ _ _ _ hrep =>
    intro e he c hc
    obtain ⟨i, hi⟩ := List.mem_iff_getElem?.1 he
    obtain ⟨j, hj⟩ := List.mem_iff_getElem?.1 hc
    exact ⟨rd, _, hrep i e j c hi hj⟩
theorem Real.rp {cs : List PV} (h : Real (.rp cs)) : ∀ c ∈ cs, Real c := by
  obtain ⟨rd, v, h⟩ := h
  cases h with
  | rp _ hrep =>
    intro c hc
    obtain ⟨j, hj⟩ := List.mem_iff_getElem?.1 hc
    exact ⟨rd, _, hrep j c hj⟩

def acells : PV → List PV
  | .agg cs => cs
  | .mp cs => cs
  | p => [p]
def plain : PV → Bool
  | .sc _ | .nils | .sl none _ _ | .fn .. | .rp _ => true
  | _ => false
def RealA (args : List PV) : Prop := ∀ p ∈ args, ∀ c ∈ acells p, plain c = true → Real c

theorem real_of_rep1 {rd : Rd} {L : Lay} {s : Objs} {c : PV} {v : Value} (hp : plain c = true) (h : rep1 rd L s c v) : Real c := by
  cases c with
  | sc | nils | fn | rp => exact ⟨rd, v, h⟩
  | sl o sz es => exact ⟨rd, v, h⟩
  | _ => cases hp

theorem adoptA_mem {args : List PV} : ∀ {i : Nat} {p : PV}, p ∈ args → ∃ j, j < args.length ∧ (adoptA i args).1[j]? = some (adopt1 (pid (i + j)) p).1 ∧ (∀ x ∈ (adopt1 (pid (i + j)) p).2, x ∈ (adoptA i args).2) := by
  induction args with
  | nil => intro i p h; simp at h
  | cons a args ih =>
    intro i p h
    rcases List.mem_cons.1 h with rfl | h
    · exact ⟨0, by simp, by simp [adoptA], fun x hx => by simp only [adoptA, Nat.add_zero] at hx ⊢; exact List.mem_append_left _ hx⟩
    · obtain ⟨j, h1, h2, h3⟩ := ih (i := i + 1) h
      refine ⟨j + 1, by simpa using h1, by simp only [adoptA, List.getElem?_cons_succ]; rw [h2]; congr 4; omega, fun x hx => ?_⟩
      simp only [adoptA]
      exact List.mem_append_right _ (h3 x (by rw [show i + 1 + j = i + (j + 1) by omega]; exact hx))

section
variable {P : Program} {G : Sig} {f : FuncId} {args args' : List PV} {res : PV} {outs : List (Nat × Obj)}

theorem look_of_mem_adoptA : ∀ {args : List PV} {i j : Nat} {o : Obj}, (pid j, o) ∈ (adoptA i args).2 → look (adoptA i args).2 (pid j) = some o := by
  intro args
  induction args with
  | nil => intro i j o h; simp [adoptA] at h
  | cons a args ih =>
    intro i j o h
    have hge : ∀ {args : List PV} {i : Nat} {x : Nat × Obj}, x ∈ (adoptA i args).2 → ∃ k, i ≤ k ∧ x.1 = pid k := by
      intro args
      induction args with
      | nil => intro i x h; simp [adoptA] at h
      | cons a args ih =>
        intro i x h
        simp only [adoptA, List.mem_append] at h
        rcases h with h | h
        · refine ⟨i, Nat.le_refl _, ?_⟩
          cases a with
          | sl o sz es => cases o with
            | none => simp [adopt1] at h
            | some e => simp [adopt1] at h; rw [h]
          | mp cs => simp [adopt1] at h; rw [h]
          | _ => simp [adopt1] at h
        · obtain ⟨k, h1, h2⟩ := ih h
          exact ⟨k, by omega, h2⟩
    simp only [adoptA, List.mem_append] at h ⊢
    have hsingle : (adopt1 (pid i) a).2 = [] ∨ ∃ o, (adopt1 (pid i) a).2 = [(pid i, o)] := by
      cases a with
      | sl o sz es => cases o with
        | none => exact .inl rfl
        | some e => exact .inr ⟨_, rfl⟩
      | mp cs => exact .inr ⟨_, rfl⟩
      | _ => exact .inl rfl
    rcases hsingle with h0 | ⟨o', h0⟩
    · rw [h0] at h ⊢
      simp only [List.not_mem_nil, false_or] at h
      exact ih h
    · rw [h0] at h ⊢
      simp only [List.mem_singleton, Prod.mk.injEq] at h
      simp only [List.cons_append, List.nil_append, look]
      rcases h with ⟨h1, rfl⟩ | h
      · rw [h1, Nat.beq_refl]; rfl
      · obtain ⟨k, h1, h2⟩ := hge h
        have hne : Nat.beq (pid i) (pid j) = false := by
          cases hb : Nat.beq (pid i) (pid j) with
          | false => rfl
          | true => have := Nat.eq_of_beq_eq_true hb; simp only [pid] at this h2; omega
        rw [hne]
        exact ih h

/-- What arguments stand for bounds them. -/
theorem CallOK.real (hen : ∀ args w, (callFunc f args).run P w = .ok (.enter f args) w) (h : RealA args → CallOK P f args res outs) : CallOK P f args res outs := by
  refine ⟨hen, fun rd L w vs hw hvs => (h ?_).2 rd L w vs hw hvs⟩
  intro p hp c hc hpl
  obtain ⟨j, _, h2, h3⟩ := adoptA_mem (i := 0) hp
  obtain ⟨v, _, hv⟩ := hvs.get h2
  cases p with
  | agg cs =>
    obtain ⟨us, _, hall, _⟩ := hv
    obtain ⟨i, hi⟩ := List.mem_iff_getElem?.1 hc
    obtain ⟨u, _, hu⟩ := hall.get hi
    exact real_of_rep1 hpl hu
  | mp cs =>
    have := look_of_mem_adoptA (h3 (pid (0 + j), .box cs false) (by simp [adopt1]))
    obtain ⟨us, e, _, hall, _⟩ := hw.box _ _ _ this
    obtain ⟨i, hi⟩ := List.mem_iff_getElem?.1 hc
    obtain ⟨u, _, hu⟩ := hall.get hi
    exact real_of_rep1 hpl hu
  | sl o sz es =>
    simp only [acells, List.mem_singleton] at hc
    subst hc
    cases o with
    | none => exact real_of_rep1 (L := L) (s := look (adoptA 0 args).2) hpl hv
    | some e => cases hpl
  | sc => simp only [acells, List.mem_singleton] at hc; subst hc; exact real_of_rep1 (L := L) (s := look (adoptA 0 args).2) hpl hv
  | nils => simp only [acells, List.mem_singleton] at hc; subst hc; exact real_of_rep1 (L := L) (s := look (adoptA 0 args).2) hpl hv
  | fn => simp only [acells, List.mem_singleton] at hc; subst hc; exact real_of_rep1 (L := L) (s := look (adoptA 0 args).2) hpl hv
  | rp => simp only [acells, List.mem_singleton] at hc; subst hc; exact real_of_rep1 (L := L) (s := look (adoptA 0 args).2) hpl hv
  | _ => simp only [acells, List.mem_singleton] at hc; subst hc; cases hpl

theorem callFunc_enter {fn : Func} {c : Code} (hf : P.funcs[f]? = some fn) (hb : fn.body = some c) (hname : (fn.name == "runtime.NumGoroutine") = false) : ∀ args w, (callFunc f args).run P w = .ok (.enter f args) w := by
  intro a w
  have h1 : fn.name ≠ "runtime.NumGoroutine" := by simpa using hname
  simp [callFunc, hf, h1, hb, mark]

/-- A function meets its contract. -/
theorem fn_real (hT : TabOK P G.T) (hm : P.follows .mixedOrders = true) (D : Nat → Plan)
    {fn : Func} {c : Code} (hf : P.funcs[f]? = some fn) (hb : fn.body = some c) (hname : (fn.name == "runtime.NumGoroutine") = false) (hD : plansOK D c = true)
    (hn : Nat.ble args.length fn.ntmps = true) (ho : outsOK args outs = true) (h : RealA args → vcG P G D c (initSt fn.ntmps args) (exitVC G.T fn res outs)) : CallOK P f args res outs :=
  CallOK.real (callFunc_enter hf hb hname) fun hr => fn_ok hT hm D hf hb hname hD hn ho (h hr)

/-- The first says more. -/
def weakL : List PV → List PV → Prop
  | [], [] => True
  | p :: ps, q :: qs => Sub p q ∧ weakL ps qs
  | _, _ => False
def weak2 (p q : PV) : Prop := match q with
  | .agg qs => match p with
    | .agg ps => weakL ps qs
    | _ => False
  | q => Sub p q
def weakA : List PV → List PV → Prop
  | [], [] => True
  | p :: ps, q :: qs => weak2 p q ∧ weakA ps qs
  | _, _ => False

theorem Sub.rep1 {rd : Rd} {L : Lay} {s : Objs} {p q : PV} {v : Value} (h : Sub p q) (hv : rep1 rd L s p v) : rep1 rd L s q v := by
  rcases h with rfl | ⟨rfl, sz, rfl⟩
  · exact hv
  · have hv : RepP rd .nils v := hv
    cases hv
    exact RepP.sl (es := []) (b := 0) (o := 0) (u := fun _ _ => undef) (Nat.le_refl _) (by simp) (fun _ => rfl) (fun h => absurd rfl h) (by simp) (fun i e j c h => by simp at h) (fun i e j c h => by simp at h)
theorem Sub.adopt {p q : PV} (h : Sub p q) (i : Nat) : (adopt1 i p).2 = (adopt1 i q).2 := by
  rcases h with rfl | ⟨rfl, sz, rfl⟩ <;> rfl
theorem weakL_rep {rd : Rd} {L : Lay} {s : Objs} {ps : List PV} : ∀ {qs : List PV} {vs : List Value}, weakL ps qs → All2 (rep1 rd L s) ps vs → All2 (rep1 rd L s) qs vs := by
  induction ps with
  | nil => intro qs vs h hv; cases qs with
    | nil => exact hv
    | cons => exact h.elim
  | cons p ps ih => intro qs vs h hv; cases qs with
    | nil => exact h.elim
    | cons q qs => cases hv with
      | cons a b => exact .cons (h.1.rep1 a) (ih h.2 b)
theorem weak2_adopt {p q : PV} (h : weak2 p q) (i : Nat) : (adopt1 i p).2 = (adopt1 i q).2 := by
  cases q with
  | agg qs => cases p with
    | agg => rfl
    | _ => exact h.elim
  | _ => exact Sub.adopt h i
theorem weak2_rep {rd : Rd} {L : Lay} {s : Objs} {p q : PV} {i : Nat} {v : Value} (h : weak2 p q) (hv : rep2 rd L s (adopt1 i p).1 v) : rep2 rd L s (adopt1 i q).1 v := by
  have other : Sub p q → rep2 rd L s (adopt1 i q).1 v := by
    intro h
    rcases h with rfl | ⟨rfl, sz, rfl⟩
    · exact hv
    · exact Sub.rep1 (L := L) (s := s) (.inr ⟨rfl, sz, rfl⟩) hv
  cases q with
  | agg qs => cases p with
    | agg ps =>
      obtain ⟨vs, h1, h2, h3⟩ := hv
      exact ⟨vs, h1, weakL_rep h h2, h3⟩
    | _ => exact h.elim
  | _ => exact other h
theorem weakA_adopt {ps : List PV} : ∀ {qs : List PV} {i : Nat}, weakA ps qs → (adoptA i ps).2 = (adoptA i qs).2 := by
  induction ps with
  | nil => intro qs i h; cases qs with
    | nil => rfl
    | cons => exact h.elim
  | cons p ps ih => intro qs i h; cases qs with
    | nil => exact h.elim
    | cons q qs => simp only [adoptA]; rw [weak2_adopt h.1, ih h.2]
theorem weakA_rep {rd : Rd} {L : Lay} {s : Objs} {ps : List PV} : ∀ {qs : List PV} {i : Nat} {vs : List Value}, weakA ps qs → All2 (rep2 rd L s) (adoptA i ps).1 vs → All2 (rep2 rd L s) (adoptA i qs).1 vs := by
  induction ps with
  | nil => intro qs i vs h hv; cases qs with
    | nil => exact hv
    | cons => exact h.elim
  | cons p ps ih => intro qs i vs h hv; cases qs with
    | nil => exact h.elim
    | cons q qs =>
      simp only [adoptA] at hv ⊢
      cases hv with
      | cons a b => exact .cons (weak2_rep h.1 a) (ih h.2 b)

theorem CallOK.weak (h : CallOK P f args res outs) (hw : weakA args' args) : CallOK P f args' res outs := by
  refine ⟨h.1, fun rd L w vs h1 h2 => ?_⟩
  have e := weakA_adopt (i := 0) hw
  rw [e] at h1 h2
  have := h.2 rd L w vs h1 (weakA_rep hw h2)
  have e2 : callFr args' outs rd L w = callFr args outs rd L w := by simp only [callFr, e]
  rw [e2]
  exact this
end
def intF (P : Program) : Nat → List Field → Bool
  | _, [] => true
  | i, f :: r => !(f.name == "_") && Nat.beq f.offset i && (match P.underlying f.type with | some (.int _) => true | _ => false) && intF P (i + 1) r
def chkEq (P : Program) (t n : Nat) : Bool := (match P.underlying t with
  | some (.struct fs) => intF P 0 fs.toList && Nat.beq fs.size n
  | _ => false) && !(P.stoodInHeld t) && !(P.eqGuardType P.depth t)

section
variable {P : Program}
theorem eqFields_ints {d : Nat} {X Y : Array Value} : ∀ (fs : List Field) (i : Nat) (xs ys : List Value) (b : Bool) (w : World), X.toList.drop i = xs → Y.toList.drop i = ys → eqV xs ys = some b → xs.length = fs.length → intF P i fs = true →
    (Op.eqFields (d + 1) X Y fs).run P w = .ok b w := by
  intro fs
  induction fs with
  | nil =>
    intro i xs ys b w _ _ h hl _
    cases xs with
    | nil => cases ys with
      | nil => cases h; simp [Op.eqFields]
      | cons => cases h
    | cons => simp at hl
  | cons f fs ih =>
    intro i xs ys b w hx hy h hl hf
    simp only [intF, Bool.and_eq_true] at hf
    obtain ⟨⟨⟨h1, h2⟩, h3⟩, h4⟩ := hf
    have h2 := Nat.eq_of_beq_eq_true h2
    cases xs with
    | nil => simp at hl
    | cons x xs => cases ys with
      | nil => cases x <;> cases h
      | cons y ys =>
        have gx : X[i]? = some x := by
          have := congrArg (·[0]?) hx
          simpa [List.getElem?_drop] using this
        have gy : Y[i]? = some y := by
          have := congrArg (·[0]?) hy
          simpa [List.getElem?_drop] using this
        have hx' : X.toList.drop (i + 1) = xs := by
          have := congrArg (List.drop 1) hx
          simpa [List.drop_drop, Nat.add_comm] using this
        have hy' : Y.toList.drop (i + 1) = ys := by
          have := congrArg (List.drop 1) hy
          simpa [List.drop_drop, Nat.add_comm] using this
        cases x with
        | int k a => cases y with
          | int k' a' =>
            simp only [eqV] at h
            by_cases hk : k = k'
            · subst hk
              simp only [decide_true, cond_true, Option.map_eq_some_iff] at h
              obtain ⟨c, hc, rfl⟩ := h
              cases hu : P.underlying f.type with
              | none => rw [hu] at h3; cases h3
              | some u =>
                rw [hu] at h3
                cases u with
                | int k' =>
                  have px : ∀ {Z : Array Value} {z : Value} (w : World), Z[i]? = some z → (part f.type Z f.offset).run P w = .ok z w := by
                    intro Z z w hz
                    rw [h2]
                    simp [part, isAgg, run_underlying hu, hz]
                  have hn : f.name ≠ "_" := by simpa using h1
                  rw [Op.eqFields]
                  simp only [if_pos hn, Sem.run_bind, px w gx, px w gy, run_equalIn_int w d f.type k k' a a' hu, Result.andThen_ok]
                  cases hab : (a == a') with
                  | false => simp
                  | true => simpa using ih (i + 1) xs ys c w hx' hy' hc (by simpa using hl) h4
                | _ => cases h3
            · simp [hk] at h
          | _ => cases h
        | _ => cases y <;> cases h

theorem eqOK_ints {t n : Nat} (h : chkEq P t n = true) : EqOK P t n := by
  intro xs ys b hb hx hy X Y w
  unfold chkEq at h
  simp only [Bool.and_eq_true] at h
  obtain ⟨⟨h1, h2⟩, h3⟩ := h
  cases hu : P.underlying t with
  | none => rw [hu] at h1; cases h1
  | some u =>
    rw [hu] at h1
    cases u with
    | struct fs =>
      simp only [Bool.and_eq_true] at h1
      have hf : P.fieldsOf t = fs := by simp [Program.fieldsOf, hu]
      have e : ∀ w, (Op.equalIn 10000 t (.agg xs.toArray) (.agg ys.toArray)).run P w = .ok b w := fun w => by
        have := run_equalIn_struct (P := P) w 9999 t xs.toArray ys.toArray (by rw [hf]; exact hu) (by simpa using h2)
        rw [this, hf]
        exact eqFields_ints fs.toList 0 xs ys b w (by simp) (by simp) hb (by rw [hx, ← Nat.eq_of_beq_eq_true h1.2]; simp) h1.1
      have hm : P.eqGuardType P.depth t = false := by simpa using h3
      refine ⟨?_, ?_⟩
      · rw [Sem.run_bind, run_eqGuard_agg (w := w) (hm := hm), Result.andThen_ok, run_eql_struct, e]; rfl
      · rw [Sem.run_bind, run_eqGuard_agg (w := w) (hm := hm), Result.andThen_ok, run_neq_struct, e]; rfl
    | _ => cases h1
end
section
variable {P : Program} {f : FuncId}

def scR : PV → Bool
  | .sc _ => true
  | .tup l => l.all fun p => match p with | .sc _ => true | _ => false
  | _ => false
theorem scR_adopt {res : PV} (h : scR res = true) : (adopt3 0 res).2 = [] ∧ (adopt3 0 res).1 = res := by
  cases res with
  | sc v => exact ⟨rfl, rfl⟩
  | tup l =>
    have : ∀ i, (adoptT i l).2 = [] ∧ (adoptT i l).1 = l := by
      simp only [scR] at h
      induction l with
      | nil => intro i; exact ⟨rfl, rfl⟩
      | cons p l ih =>
        intro i
        simp only [List.all_cons, Bool.and_eq_true] at h
        obtain ⟨h1, h2⟩ := ih h.2 (i + 101)
        cases p with
        | sc v => simp [adoptT, adopt2, adopt1, h1, h2]
        | _ => cases h.1
    simp only [adopt3, (this _).1, (this _).2, and_self]
  | _ => cases h
theorem scR_rep {res : PV} (h : scR res = true) {rd rd' : Rd} {L L' : Lay} {s s' : Objs} {v : Value} (hr : rep3 rd L s res v) : rep3 rd' L' s' res v := by
  cases res with
  | sc u =>
    have hr : RepP rd (.sc u) v := hr
    cases hr with
    | sc h => exact .sc h
  | tup l =>
    obtain ⟨vs, rfl, h1⟩ := hr
    refine ⟨vs, rfl, ?_⟩
    simp only [scR] at h
    induction l generalizing vs with
    | nil => cases h1; exact .nil
    | cons p l ih =>
      cases h1 with
      | cons h0 h2 =>
        rename_i u vs
        simp only [List.all_cons, Bool.and_eq_true] at h
        refine .cons ?_ (ih h.2 vs h2)
        cases p with
        | sc q =>
          have h0 : RepP rd (.sc q) u := h0
          cases h0 with
          | sc h => exact .sc h
        | _ => cases h.1
  | _ => cases h

theorem plain_adopt {rest : List PV} (h : ∀ p ∈ rest, plain p = true) : ∀ i, adoptA i rest = (rest, []) := by
  induction rest with
  | nil => intro i; rfl
  | cons p rest ih =>
    intro i
    have hp := h p (by simp)
    simp only [adoptA, ih (fun q hq => h q (by simp [hq])) (i + 1)]
    cases p with
    | sl o sz es => cases o with
      | none => rfl
      | some e => cases hp
    | sc v => rfl
    | nils => rfl
    | fn g c => rfl
    | rp c => rfl
    | _ => cases hp
theorem plain_rep {p : PV} (h : plain p = true) {rd : Rd} {L : Lay} {s : Objs} {v : Value} (hr : rep2 rd L s p v) : RepP rd p v := by
  cases p with
  | sl o sz es => cases o with
    | none => exact hr
    | some e => cases h
  | sc v => exact hr
  | nils => exact hr
  | fn g c => exact hr
  | rp c => exact hr
  | _ => cases h
theorem look_one {i j : Nat} {o : Obj} : look [(i, o)] j = if i = j then some o else none := by
  have := ov_one i o (fun _ => none)
  have := congrFun this j
  simp only [ov] at this
  rw [← this]
  cases look [(i, o)] j <;> rfl

/-- The world's facts at a call's begin. -/
theorem Grows.start {rd : Rd} {L : Lay} {s : Objs} {w : World} : Grows ⟨w, fun b => ∃ id, blkOf L s id = some b, rd, L, fun _ => False, fun _ h => h.elim⟩ rd L s w :=
  ⟨rfl, rfl, OutLe.refl _, Nat.le_refl _, fun _ _ _ => rfl, fun _ _ h => h, fun _ _ h => .inl h, fun id _ h => .inl ⟨id, h⟩, fun _ h => h.elim, fun _ h => h.elim⟩

/-- A function that only reads a slice may be handed an own one. -/
theorem CallOK.borrow {e sz : Nat} {es : List (List PV)} {rest : List PV} {res : PV} (h : CallOK P f (.sl none sz es :: rest) res []) (hrest : ∀ p ∈ rest, plain p = true) (hres : scR res = true) :
    CallOK P f (.sl (some e) sz es :: rest) res [(0, .row e sz es false)] := by
  refine ⟨h.1, fun rd L w vs hw hv => ?_⟩
  have hA : adoptA 0 (.sl (some e) sz es :: rest) = (.ls 1500 es.length :: rest, [(1500, .row e sz es false)]) := by simp [adoptA, adopt1, plain_adopt hrest]
  have hB : adoptA 0 (.sl none sz es :: rest) = (.sl none sz es :: rest, []) := by simp [adoptA, adopt1, plain_adopt hrest]
  have hO : outO [(0, Obj.row e sz es false)] = [(1500, .row e sz es false)] := rfl
  rw [hA] at hw hv
  dsimp only at hw hv
  have hs : look [(1500, Obj.row e sz es false)] 1500 = some (.row e sz es false) := by rw [look_one, if_pos rfl]
  obtain ⟨rd1, hst, hr⟩ := freeze_ok hw Grows.start hs
  have hx := h.2 rd1 L w vs
  rw [hB] at hx
  dsimp only at hx
  have hnone : ∀ id, look ([] : List (Nat × Obj)) id = none := fun _ => rfl
  have hw1 : WOk rd1 L (look []) w := ⟨hst.ok.hrd, (fun id _ _ h => by cases h), (fun id _ _ _ _ h => by cases h), fun i j b h => by simp [blkOf, hnone] at h⟩
  have hv1 : All2 (rep2 rd1 L (look [])) (.sl none sz es :: rest) vs := by
    cases hv with
    | cons h0 h1 =>
      have h0 := h0.1 _ _ _ _ hs rfl
      subst h0
      refine .cons (rep2_of_rep1 (rep1_of_P hr)) ?_
      refine All2.of_get h1.len fun i p v hp hv => ?_
      obtain ⟨v', h3, h4⟩ := h1.get hp
      rw [hv] at h3
      cases h3
      exact rep2_of_rep1 (rep1_of_P ((plain_rep (hrest p (List.mem_of_getElem? hp)) h4).mono hst.le))
  refine (hx hw1 hv1).mono fun e' w' hpost => ?_
  obtain ⟨v, rd', L', he, hwk, hrv, hg, _⟩ := hpost
  obtain ⟨ha1, ha2⟩ := scR_adopt hres
  rw [ha1] at hwk hg
  rw [ha1, ha2] at hrv
  have hM : ∀ b, ¬ (callFr (.sl none sz es :: rest) [] rd1 L w).M b := by
    rintro b ⟨id, h⟩
    rw [hB] at h
    simp [blkOf, hnone] at h
  have hblk : ∀ b, b < w.heap.size → w'.heap[b]? = w.heap[b]? := fun b hb => hg.block b hb (hM b)
  refine ⟨v, rd, L, he, ?_, ?_, ?_, ?_⟩
  · rw [ha1, hO, List.nil_append]
    refine ⟨fun p u hp => hwk.hrd p u (hg.le p u (hst.le p u hp)), fun id cs fr h => ?_, fun id e1 sz1 es1 fr1 h => ?_, hw.inj⟩
    · rw [look_one] at h; split at h <;> cases h
    · obtain ⟨xs, k1, k2, k3, k4⟩ := hw.row _ _ _ _ _ h
      exact ⟨xs, ownsRow_heap k1 fun b hb => hblk b (k1.lt b hb).2, k2, k3, k4⟩
  · rw [ha1, ha2]; exact scR_rep hres hrv
  · rw [ha1, hO, List.nil_append]
    refine ⟨hg.os, hg.tape, hg.output, hg.size, fun k hk _ => hblk k hk, fun _ _ h => h, fun _ _ h => .inl h, fun id b h => .inl ⟨id, by rw [hA]; exact h⟩, fun _ _ => ⟨rfl, rfl⟩, fun id hp _ _ _ _ h => ?_⟩
    obtain ⟨cs, fr, hp⟩ := hp
    rw [hO, look_one] at hp
    split at hp <;> cases hp
  · intro _ _ _ _ _ _; rfl
end
section
variable {P : Program} {f : FuncId}
open Go.Sort (grow putRow Holds mapBlock onCells putCells)

theorem world_grown {w w' : World} (h1 : w'.os = w.os) (h2 : w'.tape = w.tape) (h3 : OutLe w w') (h4 : w.heap.size ≤ w'.heap.size) (h5 : ∀ k, k < w.heap.size → w'.heap[k]? = w.heap[k]?) : ∃ q os, w' = grow (w.drewN q) os := by
  refine ⟨w'.drawn - w.drawn, w'.heap.extract w.heap.size, ?_⟩
  obtain ⟨heap, tape, drawn, os, output⟩ := w
  obtain ⟨heap', tape', drawn', os', output'⟩ := w'
  obtain ⟨h3, h6⟩ := h3
  simp only at h1 h2 h3 h4 h5 h6
  subst h1 h2 h3
  simp only [grow, World.drewN]
  congr 1
  · apply Array.ext_getElem?
    intro k
    rw [Array.getElem?_append]
    split
    · rename_i hk; exact h5 k hk
    · rename_i hk
      rw [Array.getElem?_extract]
      split
      · congr 1; omega
      · rename_i hk2
        rw [Array.getElem?_eq_none]
        omega
  · omega

def plain2 : PV → Bool
  | .agg cs => cs.all plain
  | p => plain p
theorem plain2_adopt {args : List PV} (h : ∀ p ∈ args, plain2 p = true) : ∀ i, adoptA i args = (args, []) := by
  induction args with
  | nil => intro i; rfl
  | cons p rest ih =>
    intro i
    have hp := h p (by simp)
    simp only [adoptA, ih (fun q hq => h q (by simp [hq])) (i + 1)]
    cases p with
    | sl o sz es => cases o with
      | none => rfl
      | some e => cases hp
    | sc v => rfl
    | nils => rfl
    | fn g c => rfl
    | rp c => rfl
    | agg cs => rfl
    | _ => cases hp

/-- A function that is handed nothing to write, and returns a plain value: the world is as it was but for draws and new blocks. -/
theorem CallOK.lays {args : List PV} {u : Value} (h : CallOK P f args (.sc u) []) (hp : ∀ p ∈ args, plain2 p = true) {rd : Rd} {L : Lay} {w : World} {vs : List Value} (hw : WOk rd L (look []) w)
    (hv : All2 (rep2 rd L (look [])) args vs) : Calls P f vs.toArray w fun e w' => e = .returned u ∧ ∃ q os, w' = grow (w.drewN q) os := by
  have hB := plain2_adopt hp 0
  have hx := h.2 rd L w vs
  rw [hB] at hx
  refine (hx hw hv).mono fun e' w' hpost => ?_
  obtain ⟨v, rd', L', he, hwk, hrv, hg, _⟩ := hpost
  have hnone : ∀ id, look ([] : List (Nat × Obj)) id = none := fun _ => rfl
  have hM : ∀ b, ¬ (callFr args [] rd L w).M b := by
    rintro b ⟨id, h⟩
    rw [hB] at h
    simp [blkOf, hnone] at h
  have hrv : rep3 rd' L' _ (.sc u) v := hrv
  have : v = u := scal_rep hrv
  subst this
  exact ⟨he, world_grown hg.os hg.tape hg.output hg.size fun k hk => hg.block k hk (hM k)⟩

/-- A function that writes an own slice in place. -/
theorem inplace_ok {e sz : Nat} {es es' : List (List PV)} {rest : List PV} {u : Value} {res : PV} (hen : ∀ args w, (callFunc f args).run P w = .ok (.enter f args) w) (hrest : ∀ p ∈ rest, plain p = true)
    (hlen : es'.length = es.length) (hsz : ∀ x ∈ es', x.length = sz) (hres : scR res = true) (hu : ∀ rd L s, rep3 rd L s res u)
    (h : ∀ (rd : Rd) (v0 : Value) (vs : List Value) (w : World) (xs : List Value), w.ownsRow 0 e sz v0 es.length xs → All2 (RepP rd) es.flatten xs → (∀ x ∈ es, x.length = sz) → All2 (RepP rd) rest vs →
      (∀ p v, rd p = some v → w.cell? p = some v ∧ v.oneCell' = true ∧ p.spot = none) → (∀ b, v0.ownBlock = some b → ∀ p v, rd p = some v → p.block ≠ b) →
      Calls P f (v0 :: vs).toArray w fun e' w' => e' = .returned u ∧ ∃ xs', w'.ownsRow 0 e sz v0 es'.length xs' ∧ All2 (RepP rd) es'.flatten xs' ∧ w.grownBy w' v0.ownBlock ∧ w.drawn ≤ w'.drawn) :
    CallOK P f (.sl (some e) sz es :: rest) res [(0, .row e sz es' false)] := by
  refine ⟨hen, fun rd L w vs hw hv => ?_⟩
  have hA : adoptA 0 (.sl (some e) sz es :: rest) = (.ls 1500 es.length :: rest, [(1500, .row e sz es false)]) := by simp [adoptA, adopt1, plain_adopt hrest]
  have hO : outO [(0, Obj.row e sz es' false)] = [(1500, .row e sz es' false)] := rfl
  rw [hA] at hw hv
  dsimp only at hw hv
  have hs : look [(1500, Obj.row e sz es false)] 1500 = some (.row e sz es false) := by rw [look_one, if_pos rfl]
  obtain ⟨xs, k1, k2, k3, k4⟩ := hw.row _ _ _ _ _ hs
  cases hv with
  | cons h0 h1 =>
    rename_i v0 vs
    have h0 := h0.1 _ _ _ _ hs rfl
    subst h0
    have hvr : All2 (RepP rd) rest vs := by
      refine All2.of_get h1.len fun i p v hp hv => ?_
      obtain ⟨v', h3, h4⟩ := h1.get hp
      rw [hv] at h3
      cases h3
      exact plain_rep (hrest p (List.mem_of_getElem? hp)) h4
    have hno : ∀ b, (L.sv 1500).ownBlock = some b → ∀ p v, rd p = some v → p.block ≠ b := fun b hb p v hp hpb => by cases (k4 b hb p v hp hpb).1
    refine (h rd (L.sv 1500) vs w xs k1 k2 k3 hvr hw.hrd hno).mono fun e' w' hpost => ?_
    obtain ⟨he, xs', q1, q2, q3, q4⟩ := hpost
    obtain ⟨ha1, ha2⟩ := scR_adopt hres
    have hs' : look [(1500, Obj.row e sz es' false)] 1500 = some (.row e sz es' false) := by rw [look_one, if_pos rfl]
    have hblkE : ∀ i b, blkOf L (look [(1500, Obj.row e sz es' false)]) i = some b → i = 1500 ∧ (L.sv 1500).ownBlock = some b := by
      intro i b hb
      simp only [blkOf, look_one] at hb
      by_cases hi : 1500 = i
      · subst hi; rw [if_pos rfl] at hb; exact ⟨rfl, hb⟩
      · rw [if_neg hi] at hb; cases hb
    refine ⟨u, rd, L, he, ?_, ?_, ?_, ?_⟩
    · rw [ha1, hO, List.nil_append]
      refine ⟨fun p v hp => ?_, fun id cs fr h => ?_, fun id e1 sz1 es1 fr1 h => ?_, fun i j b hi hj => ?_⟩
      · obtain ⟨c1, c2, c3⟩ := hw.hrd p v hp
        refine ⟨?_, c2, c3⟩
        rw [World.cell?_of_block (q3.block p.block (block_lt_of_cell c1) (fun hb => hno _ hb.symm p v hp rfl))]
        exact c1
      · rw [look_one] at h; split at h <;> cases h
      · rw [look_one] at h
        split at h
        · rename_i hi; subst hi; cases h
          exact ⟨xs', q1, q2, hsz, fun b hb p v hp hpb => (hno b hb p v hp hpb).elim⟩
        · cases h
      · rw [(hblkE i b hi).1, (hblkE j b hj).1]
    · rw [ha1, ha2]; exact hu _ _ _
    · rw [ha1, hO, List.nil_append]
      have hMb : ∀ b, (L.sv 1500).ownBlock = some b → (callFr (.sl (some e) sz es :: rest) [(0, .row e sz es' false)] rd L w).M b := fun b hb => ⟨1500, by rw [hA]; simp only [blkOf, look_one, if_pos]; exact hb⟩
      refine ⟨q3.os, q3.tape, ⟨q3.output, q4⟩, q3.size, fun k hk hM => q3.block k hk fun hb => hM (hMb k hb.symm), fun _ _ h => h, fun _ _ h => .inl h, fun id b h => .inl (hMb b (hblkE id b h).2), fun _ _ => ⟨rfl, rfl⟩, fun id hp _ _ _ _ h => ?_⟩
      obtain ⟨cs, fr, hp⟩ := hp
      rw [hO, look_one] at hp
      split at hp <;> cases hp
    · intro _ _ _ _ _ _; rfl

/-! ### a row in the words of the library's sort -/
theorem put_cells_take (d cur : Array Value) (h : d.size ≤ cur.size) : (putCells id 0 d cur).toList.take d.size = d.toList := by
  apply List.ext_getElem?
  intro j
  rw [List.getElem?_take]
  by_cases hj : j < d.size
  · rw [if_pos hj]
    have h1 : j < (putCells id 0 d cur).size := by simp [putCells]; omega
    rw [Array.getElem?_toList, Array.getElem?_toList, Array.getElem?_eq_getElem h1, Array.getElem?_eq_getElem hj]
    simp [putCells, hj]
  · rw [if_neg hj, Array.getElem?_toList, Array.getElem?_eq_none (by omega)]
theorem row_holds {w : World} {e sz g n cap : Nat} {xs : List Value} (ho : w.ownsRow 0 e sz (.slice (some ⟨g, 0, none⟩) n cap) n xs) : Holds id w g 0 xs.toArray := by
  intro j hj
  have hj : j < xs.length := by simpa using hj
  have h1 := ho.cells (g := g) rfl j xs[j] (List.getElem?_eq_getElem hj)
  rw [Addr.add_lit, Nat.zero_add] at h1
  have h2 := ho.frozenAt j
  rw [Nat.zero_add]
  exact ⟨by rw [h1]; simp [hj], h2⟩
theorem row_put {w : World} {e sz g n cap m : Nat} {xs : List Value} (ho : w.ownsRow 0 e sz (.slice (some ⟨g, 0, none⟩) n cap) n xs) (F : Array Value) (hF : F.size = n * sz) (os : Array Go.Obj) :
    (grow (putRow id (Go.Sort.ahead w m) g 0 F) os).ownsRow 0 e sz (.slice (some ⟨g, 0, none⟩) n cap) n F.toList ∧ w.grownBy (grow (putRow id (Go.Sort.ahead w m) g 0 F) os) (some g) ∧ w.drawn ≤ (grow (putRow id (Go.Sort.ahead w m) g 0 F) os).drawn := by
  rcases ho.2 with ⟨h, _⟩ | ⟨g', cap', cur, hv, hg, hb, hn, hc, hcs, htk⟩
  · cases h
  · simp only [Value.slice.injEq, Option.some.injEq, Addr.mk.injEq, and_true, true_and] at hv
    obtain ⟨rfl, rfl⟩ := hv
    have hlt : g < w.heap.size := (Array.getElem?_eq_some_iff.1 hb).1
    have hsz : ((Go.Sort.ahead w m).heap.modify g (onCells (putCells id 0 F))).size = w.heap.size := by simp
    have hcap : n * sz ≤ cap * sz := Nat.mul_le_mul_right _ hn
    have hat : (grow (putRow id (Go.Sort.ahead w m) g 0 F) os).heap[g]? = some (.cells (putCells id 0 F cur) e (0, 0)) := by
      show ((Go.Sort.ahead w m).heap.modify g (onCells (putCells id 0 F)) ++ os)[g]? = _
      rw [Array.getElem?_append_left (by rw [hsz]; exact hlt), Array.getElem?_modify]
      simp [hb, onCells]
    refine ⟨⟨by simpa using hF, .inr ⟨g, cap, _, rfl, Nat.zero_le _, hat, hn, hc, by simpa [putCells] using hcs, ?_⟩⟩, ⟨rfl, rfl, rfl, ?_, fun k hk hne => ?_⟩, ?_⟩
    · rw [← hF]; exact put_cells_take F cur (by omega)
    · show w.heap.size ≤ ((Go.Sort.ahead w m).heap.modify g (onCells (putCells id 0 F)) ++ os).size
      simp
    · show ((Go.Sort.ahead w m).heap.modify g (onCells (putCells id 0 F)) ++ os)[k]? = _
      rw [Array.getElem?_append_left (by rw [hsz]; exact hk), Array.getElem?_modify]
      have : g ≠ k := fun h => hne (by rw [h])
      simp [this]
    · show w.drawn ≤ w.drawn + m
      omega
end
end Go.Vi
end
section
namespace Go.Proofs.YtnkpakakgfkpbaaGreat.V
open Go.Vi
def T0 : Tab := [(2, ⟨.int .i64, 1, false, [.sc (.int .i64 0)], false⟩),
  (3, ⟨.int .i64, 1, false, [.sc (.int .i64 0)], false⟩),
  (4, ⟨.bool, 1, false, [.sc (.bool false)], false⟩),
  (5, ⟨.int .u8, 1, false, [.sc (.int .u8 0)], false⟩),
  (9, ⟨.string, 1, false, [.sc (.string ByteArray.empty)], false⟩),
  (12, ⟨.int .u64, 1, false, [.sc (.int .u64 0)], false⟩),
  (17, ⟨.other, 1, false, [.sc (.pointer none)], false⟩),
  (21, ⟨.int .i32, 1, false, [.sc (.int .i32 0)], false⟩),
  (22, ⟨.slice 3, 1, false, [.nils], false⟩),
  (23, ⟨.other, 1, false, [.sc (.pointer none)], false⟩),
  (25, ⟨.slice 27, 1, false, [.nils], false⟩),
  (26, ⟨.struct [(0, 1, false), (1, 1, false), (2, 1, false)], 3, true, [.sc (.int .i64 0), .nils, .nils], false⟩),
  (27, ⟨.struct [(0, 1, false), (1, 1, false), (2, 1, false)], 3, true, [.sc (.int .i64 0), .nils, .nils], false⟩),
  (28, ⟨.slice 38, 1, false, [.nils], false⟩),
  (29, ⟨.slice 40, 1, false, [.nils], false⟩),
  (30, ⟨.struct [(0, 1, false), (1, 1, false), (2, 3, true), (5, 1, false), (6, 1, false), (7, 1, false), (8, 1, false)], 9, true, [.sc (.int .i64 0), .sc (.int .i64 0), .sc (.int .i64 0), .nils, .nils, .nils, .nils, .nils, .nils], false⟩),
  (31, ⟨.struct [(0, 1, false), (1, 1, false), (2, 3, true), (5, 1, false), (6, 1, false), (7, 1, false), (8, 1, false)], 9, true, [.sc (.int .i64 0), .sc (.int .i64 0), .sc (.int .i64 0), .nils, .nils, .nils, .nils, .nils, .nils], false⟩),
  (32, ⟨.int .i64, 1, false, [.sc (.int .i64 0)], false⟩),
  (37, ⟨.struct [(0, 1, false), (1, 1, false)], 2, true, [.sc (.int .i64 0), .sc (.int .i64 0)], false⟩),
  (39, ⟨.struct [(0, 1, false), (1, 1, false), (2, 3, true), (5, 1, false), (6, 1, false)], 7, true, [.sc (.int .i64 0), .sc (.int .i64 0), .sc (.int .i64 0), .nils, .nils, .nils, .nils], false⟩),
  (40, ⟨.struct [(0, 1, false), (1, 1, false), (2, 3, true), (5, 1, false), (6, 1, false)], 7, true, [.sc (.int .i64 0), .sc (.int .i64 0), .sc (.int .i64 0), .nils, .nils, .nils, .nils], false⟩),
  (54, ⟨.slice 89, 1, false, [.nils], false⟩),
  (55, ⟨.struct [(0, 1, false)], 1, true, [.nils], false⟩),
  (56, ⟨.struct [(0, 1, false)], 1, true, [.nils], false⟩),
  (68, ⟨.slice 31, 1, false, [.nils], false⟩),
  (76, ⟨.slice 80, 1, false, [.nils], false⟩),
  (77, ⟨.slice 9, 1, false, [.nils], false⟩),
  (78, ⟨.slice 93, 1, false, [.nils], false⟩),
  (79, ⟨.struct [(0, 1, false), (1, 1, false), (2, 1, false), (3, 1, false), (4, 3, true), (7, 1, false), (8, 1, false), (9, 1, false), (10, 1, false), (11, 1, false)], 12, true, [.sc (.int .i64 0), .sc (.int .i64 0), .sc (.int .i64 0), .sc (.int .i64 0), .sc (.int .i64 0), .nils, .nils, .sc (.string ByteArray.empty), .nils, .nils, .nils, .nils], false⟩),
  (80, ⟨.struct [(0, 1, false), (1, 1, false), (2, 1, false), (3, 1, false), (4, 3, true), (7, 1, false), (8, 1, false), (9, 1, false), (10, 1, false), (11, 1, false)], 12, true, [.sc (.int .i64 0), .sc (.int .i64 0), .sc (.int .i64 0), .sc (.int .i64 0), .sc (.int .i64 0), .nils, .nils, .sc (.string ByteArray.empty), .nils, .nils, .nils, .nils], false⟩),
  (88, ⟨.struct [(0, 1, false), (1, 3, true)], 4, true, [.sc (.bool false), .sc (.int .i64 0), .nils, .nils], false⟩),
  (89, ⟨.struct [(0, 1, false), (1, 3, true)], 4, true, [.sc (.bool false), .sc (.int .i64 0), .nils, .nils], false⟩),
  (92, ⟨.struct [(0, 1, false), (1, 1, false), (2, 3, true), (5, 1, false), (6, 1, false)], 7, true, [.sc (.int .i64 0), .sc (.int .i64 0), .sc (.int .i64 0), .nils, .nils, .nils, .nils], false⟩),
  (93, ⟨.struct [(0, 1, false), (1, 1, false), (2, 3, true), (5, 1, false), (6, 1, false)], 7, true, [.sc (.int .i64 0), .sc (.int .i64 0), .sc (.int .i64 0), .nils, .nils, .nils, .nils], false⟩),
  (110, ⟨.array 2 1 false, 2, true, [.sc (.int .i64 0), .sc (.int .i64 0)], false⟩),
  (111, ⟨.slice 110, 1, false, [.nils], false⟩),
  (114, ⟨.struct [(0, 1, false), (1, 1, false)], 2, true, [.nils, .sc (.int .i64 0)], false⟩),
  (115, ⟨.struct [(0, 1, false), (1, 1, false)], 2, true, [.nils, .sc (.int .i64 0)], false⟩),
  (143, ⟨.int .u32, 1, false, [.sc (.int .u32 0)], false⟩),
  (160, ⟨.slice 5, 1, false, [.nils], false⟩),
  (165, ⟨.int .u64, 1, false, [.sc (.int .u64 0)], false⟩),
  (173, ⟨.struct [(0, 1, false), (1, 1, false)], 2, true, [.sc (.int .i64 0), .sc (.int .i64 0)], false⟩),
  (177, ⟨.int .u64, 1, false, [.sc (.int .u64 0)], false⟩),
  (216, ⟨.slice 28, 1, false, [.nils], false⟩),
  (237, ⟨.int .i64, 1, false, [.sc (.int .i64 0)], false⟩),
  (251, ⟨.int .u64, 1, false, [.sc (.int .u64 0)], false⟩),
  (255, ⟨.other, 1, false, [.sc (.pointer none)], false⟩),
  (260, ⟨.other, 1, false, [.sc (.pointer none)], false⟩),
  (274, ⟨.other, 1, false, [.sc (.pointer none)], false⟩),
  (277, ⟨.struct [(0, 1, false), (1, 1, false), (2, 1, false), (3, 1, false), (4, 1, false), (5, 1, false), (6, 1, false), (7, 1, false), (8, 1, false), (9, 1, false), (10, 1, false)], 11, true, [.sc (.int .u64 0), .sc (.int .u64 0), .sc (.int .u32 0), .sc (.int .u8 0), .sc (.int .u8 0), .sc (.int .u8 0), .sc (.int .u8 0), .sc .nilFunc, .sc (.pointer none), .sc (.int .i32 0), .sc (.int .i32 0)], false⟩)]
def T1 : Tab := [(38, ⟨.struct [(0, 1, false), (1, 1, false)], 2, true, [.sc (.int .i64 0), .sc (.int .i64 0)], true⟩),
  (174, ⟨.struct [(0, 1, false), (1, 1, false)], 2, true, [.sc (.int .i64 0), .sc (.int .i64 0)], true⟩)]
def T : Tab := [(38, ⟨.struct [(0, 1, false), (1, 1, false)], 2, true, [.sc (.int .i64 0), .sc (.int .i64 0)], true⟩),
  (174, ⟨.struct [(0, 1, false), (1, 1, false)], 2, true, [.sc (.int .i64 0), .sc (.int .i64 0)], true⟩),
  (2, ⟨.int .i64, 1, false, [.sc (.int .i64 0)], false⟩),
  (3, ⟨.int .i64, 1, false, [.sc (.int .i64 0)], false⟩),
  (4, ⟨.bool, 1, false, [.sc (.bool false)], false⟩),
  (5, ⟨.int .u8, 1, false, [.sc (.int .u8 0)], false⟩),
  (9, ⟨.string, 1, false, [.sc (.string ByteArray.empty)], false⟩),
  (12, ⟨.int .u64, 1, false, [.sc (.int .u64 0)], false⟩),
  (17, ⟨.other, 1, false, [.sc (.pointer none)], false⟩),
  (21, ⟨.int .i32, 1, false, [.sc (.int .i32 0)], false⟩),
  (22, ⟨.slice 3, 1, false, [.nils], false⟩),
  (23, ⟨.other, 1, false, [.sc (.pointer none)], false⟩),
  (25, ⟨.slice 27, 1, false, [.nils], false⟩),
  (26, ⟨.struct [(0, 1, false), (1, 1, false), (2, 1, false)], 3, true, [.sc (.int .i64 0), .nils, .nils], false⟩),
  (27, ⟨.struct [(0, 1, false), (1, 1, false), (2, 1, false)], 3, true, [.sc (.int .i64 0), .nils, .nils], false⟩),
  (28, ⟨.slice 38, 1, false, [.nils], false⟩),
  (29, ⟨.slice 40, 1, false, [.nils], false⟩),
  (30, ⟨.struct [(0, 1, false), (1, 1, false), (2, 3, true), (5, 1, false), (6, 1, false), (7, 1, false), (8, 1, false)], 9, true, [.sc (.int .i64 0), .sc (.int .i64 0), .sc (.int .i64 0), .nils, .nils, .nils, .nils, .nils, .nils], false⟩),
  (31, ⟨.struct [(0, 1, false), (1, 1, false), (2, 3, true), (5, 1, false), (6, 1, false), (7, 1, false), (8, 1, false)], 9, true, [.sc (.int .i64 0), .sc (.int .i64 0), .sc (.int .i64 0), .nils, .nils, .nils, .nils, .nils, .nils], false⟩),
  (32, ⟨.int .i64, 1, false, [.sc (.int .i64 0)], false⟩),
  (37, ⟨.struct [(0, 1, false), (1, 1, false)], 2, true, [.sc (.int .i64 0), .sc (.int .i64 0)], false⟩),
  (39, ⟨.struct [(0, 1, false), (1, 1, false), (2, 3, true), (5, 1, false), (6, 1, false)], 7, true, [.sc (.int .i64 0), .sc (.int .i64 0), .sc (.int .i64 0), .nils, .nils, .nils, .nils], false⟩),
  (40, ⟨.struct [(0, 1, false), (1, 1, false), (2, 3, true), (5, 1, false), (6, 1, false)], 7, true, [.sc (.int .i64 0), .sc (.int .i64 0), .sc (.int .i64 0), .nils, .nils, .nils, .nils], false⟩),
  (54, ⟨.slice 89, 1, false, [.nils], false⟩),
  (55, ⟨.struct [(0, 1, false)], 1, true, [.nils], false⟩),
  (56, ⟨.struct [(0, 1, false)], 1, true, [.nils], false⟩),
  (68, ⟨.slice 31, 1, false, [.nils], false⟩),
  (76, ⟨.slice 80, 1, false, [.nils], false⟩),
  (77, ⟨.slice 9, 1, false, [.nils], false⟩),
  (78, ⟨.slice 93, 1, false, [.nils], false⟩),
  (79, ⟨.struct [(0, 1, false), (1, 1, false), (2, 1, false), (3, 1, false), (4, 3, true), (7, 1, false), (8, 1, false), (9, 1, false), (10, 1, false), (11, 1, false)], 12, true, [.sc (.int .i64 0), .sc (.int .i64 0), .sc (.int .i64 0), .sc (.int .i64 0), .sc (.int .i64 0), .nils, .nils, .sc (.string ByteArray.empty), .nils, .nils, .nils, .nils], false⟩),
  (80, ⟨.struct [(0, 1, false), (1, 1, false), (2, 1, false), (3, 1, false), (4, 3, true), (7, 1, false), (8, 1, false), (9, 1, false), (10, 1, false), (11, 1, false)], 12, true, [.sc (.int .i64 0), .sc (.int .i64 0), .sc (.int .i64 0), .sc (.int .i64 0), .sc (.int .i64 0), .nils, .nils, .sc (.string ByteArray.empty), .nils, .nils, .nils, .nils], false⟩),
  (88, ⟨.struct [(0, 1, false), (1, 3, true)], 4, true, [.sc (.bool false), .sc (.int .i64 0), .nils, .nils], false⟩),
  (89, ⟨.struct [(0, 1, false), (1, 3, true)], 4, true, [.sc (.bool false), .sc (.int .i64 0), .nils, .nils], false⟩),
  (92, ⟨.struct [(0, 1, false), (1, 1, false), (2, 3, true), (5, 1, false), (6, 1, false)], 7, true, [.sc (.int .i64 0), .sc (.int .i64 0), .sc (.int .i64 0), .nils, .nils, .nils, .nils], false⟩),
  (93, ⟨.struct [(0, 1, false), (1, 1, false), (2, 3, true), (5, 1, false), (6, 1, false)], 7, true, [.sc (.int .i64 0), .sc (.int .i64 0), .sc (.int .i64 0), .nils, .nils, .nils, .nils], false⟩),
  (110, ⟨.array 2 1 false, 2, true, [.sc (.int .i64 0), .sc (.int .i64 0)], false⟩),
  (111, ⟨.slice 110, 1, false, [.nils], false⟩),
  (114, ⟨.struct [(0, 1, false), (1, 1, false)], 2, true, [.nils, .sc (.int .i64 0)], false⟩),
  (115, ⟨.struct [(0, 1, false), (1, 1, false)], 2, true, [.nils, .sc (.int .i64 0)], false⟩),
  (143, ⟨.int .u32, 1, false, [.sc (.int .u32 0)], false⟩),
  (160, ⟨.slice 5, 1, false, [.nils], false⟩),
  (165, ⟨.int .u64, 1, false, [.sc (.int .u64 0)], false⟩),
  (173, ⟨.struct [(0, 1, false), (1, 1, false)], 2, true, [.sc (.int .i64 0), .sc (.int .i64 0)], false⟩),
  (177, ⟨.int .u64, 1, false, [.sc (.int .u64 0)], false⟩),
  (216, ⟨.slice 28, 1, false, [.nils], false⟩),
  (237, ⟨.int .i64, 1, false, [.sc (.int .i64 0)], false⟩),
  (251, ⟨.int .u64, 1, false, [.sc (.int .u64 0)], false⟩),
  (255, ⟨.other, 1, false, [.sc (.pointer none)], false⟩),
  (260, ⟨.other, 1, false, [.sc (.pointer none)], false⟩),
  (274, ⟨.other, 1, false, [.sc (.pointer none)], false⟩),
  (277, ⟨.struct [(0, 1, false), (1, 1, false), (2, 1, false), (3, 1, false), (4, 1, false), (5, 1, false), (6, 1, false), (7, 1, false), (8, 1, false), (9, 1, false), (10, 1, false)], 11, true, [.sc (.int .u64 0), .sc (.int .u64 0), .sc (.int .u32 0), .sc (.int .u8 0), .sc (.int .u8 0), .sc (.int .u8 0), .sc (.int .u8 0), .sc .nilFunc, .sc (.pointer none), .sc (.int .i32 0), .sc (.int .i32 0)], false⟩)]
theorem T_chk : T.all (fun x => chkRow Tryz.prog x.1 x.2) = true := by kernel_rfl
theorem T_split : T = T1 ++ T0 := rfl
theorem T0_eq : T0.all (fun x => !x.2.eq) = true := rfl
theorem eq38 : EqOK Tryz.prog 38 2 := eqOK_ints (by kernel_rfl)
theorem eq174 : EqOK Tryz.prog 174 2 := eqOK_ints (by kernel_rfl)
theorem tabOK : TabOK Tryz.prog T := tabOK_of T_chk fun x hx he => by
  rw [T_split, List.mem_append] at hx
  rcases hx with hx | hx
  · simp only [T1, List.mem_cons, List.not_mem_nil, or_false] at hx
    rcases hx with rfl | rfl
    · exact eq38
    · exact eq174
  · have := List.all_eq_true.1 T0_eq x hx
    rw [he] at this; cases this
end Go.Proofs.YtnkpakakgfkpbaaGreat.V
end
