import Derived.Test.YtnkpakakgfkpbaaGreatK0
set_option linter.unusedVariables false
set_option linter.unusedSimpArgs false
section
namespace Go.Vi
section
variable {P : Program} {T : Tab} {F : Fr} {rd : Rd} {L : Lay} {s s1 : Objs} {w : World}

theorem op_makeSlice (hT : TabOK P T) {g : Nat → PV} {a : Act} (hrep : ∀ t, rep3 rd L s (g t) (a.tmps.getD t undef)) (hw : WOk rd L s w) (hg : Grows F rd L s w) {o : Oper} {t : TypeId} {l c : Operand} (ho : o.op = .makeSlice t l c) {k : K}
    (h : opVC T o g s k) : OpRes P F rd L s w a o k := by
  unfold opVC at h
  rw [ho] at h
  dsimp only at h
  split at h
  · rename_i e nn ag zr eq i1 n i2 m hl hp hq
    have hx := evo_rep hrep l
    have hy := evo_rep hrep c
    rw [hp] at hx
    rw [hq] at hy
    have hx := rep3_int hx
    have hy := rep3_int hy
    split at h
    · rename_i r hle
      obtain ⟨hs, h0, rfl, hb, hk⟩ := h
      have hte := (hT _ _ hl).ti
      obtain ⟨i, z, hi, hsz, hpos, hby, hz, hzz, hzs⟩ := (hT _ _ hle).info
      obtain ⟨q, rfl⟩ := Int.eq_ofNat_of_zero_le h0
      obtain ⟨w', hr, hown, hgr⟩ := run_make_full (P := P) w 0 t e i z r.n hte hi hz hsz i1 i2 q (by
        have h1 : i.bytes * q ≤ 65536 * 1048576 := Nat.mul_le_mul hby (by omega)
        omega) (by unfold maxLen; omega) (Nat.zero_le _)
      have hdr : w.drawn ≤ w'.drawn := by
        have h2 := run_make (P := P) w t e i z hte hi hz i1 i2 q q (by omega) (Int.le_refl _) (by
          have h1 : i.bytes * q ≤ 65536 * 1048576 := Nat.mul_le_mul hby (by omega)
          have h3 : ((i.bytes * q : Nat) : Int) ≤ 281474976710656 := by omega
          rwa [Int.natCast_mul] at h3) (by omega)
        rw [h2] at hr; cases hr; exact Nat.le_refl _
      have hzo := zeros_ok (n := q) hzz hzs hpos
      have hnew := newrow_ok (id := rb o.dst) hw hg (es := List.replicate q r.zero) (rb_ne _) hs (by rw [List.length_replicate]; exact hown) hgr hdr (fun b hb => by simp [Value.ownBlock] at hb; omega) (hzo.imp fun _ _ h => h rd)
        (fun x hx => by rw [(List.mem_replicate.1 hx).2, hzz.len]; simpa using hzs)
      refine ⟨_, _, rd, _, _, _, _, hk, ?_, .inl rfl, by have := hnew.2; rw [List.length_replicate] at this; exact this, hnew.1⟩
      simp only [execOp, ho, hx, hy, Sem.run_bind, hr, Result.andThen]
      rfl
    · exact h.elim
  · exact h.elim

/-- 'append' to an own row. -/
theorem append_run {t ty e : TypeId} {i : TypeInfo} {z : Value} {sz : Nat} (ht : P.underlying t = some (.slice e)) (hi : P.info? e = some i) (hz : i.zero = some z) (hs : i.size = sz) (hzs : z.cells.size = sz) (hpos : 0 < sz) (hby : i.bytes ≤ 65536)
    {v : Value} {n : Nat} {xs : List Value} (hown : w.ownsRow 0 e sz v n xs) {x : Value} {m : Nat} {news : List Value} (hl : news.length = m * sz)
    (hx : x = .slice none 0 0 ∧ m = 0 ∨ ∃ ad c, x = .slice (some ad) m c ∧ ∀ (j : Nat) u, news[j]? = some u → w.cell? (ad.add j) = some u) (h1 : ∀ u ∈ news, u.oneCell' = true) (hb : n + m ≤ 1073741824) :
    ∃ v' w' row, (Builtin.append_ #[t, t] ty #[v, x]).run P w = .ok v' w' ∧ w'.ownsRow 0 e sz v' (n + m) (xs ++ news) ∧ w.grownBy w' row ∧ (∀ b, row = some b → v.ownBlock = some b ∧ v'.ownBlock = some b) ∧
      (∀ b, v'.ownBlock = some b → row = some b ∨ w.heap.size ≤ b) ∧ (m = 0 → v' = v) ∧ w.drawn ≤ w'.drawn := by
  have hbytes : (n + m) * i.bytes ≤ 140737488355328 := by
    have : (n + m) * i.bytes ≤ 1073741824 * 65536 := Nat.mul_le_mul hb hby
    omega
  rcases hx with ⟨rfl, rfl⟩ | ⟨ad, c, rfl, hnews⟩
  · have hr := run_append_owned_none (P := P) w 0 t ty e i sz ht hi v n xs hown
    have : news = [] := List.eq_nil_of_length_eq_zero (by omega)
    subst this
    refine ⟨v, w, v.ownBlock, hr, by simpa using hown, World.grownBy.refl w _, fun b h => ⟨h, h⟩, fun b h => .inl h, fun _ => rfl, Nat.le_refl _⟩
  · rcases hown.2 with ⟨hv, hn⟩ | ⟨gb, cap, cur, hv, _, hh, hnc, hcm, hcs, htake⟩
    · obtain ⟨v', w', hr, h2, h3, h4, h5⟩ := run_append_own_at (P := P) w 0 t ty e i z sz i.bytes ht hi hz hs rfl hzs hpos v n xs hown ad m c news hl hnews h1 (by unfold maxLen; omega) hbytes (Nat.zero_le _)
      rw [hv] at h3 h5
      refine ⟨v', w', none, hr, h2, h3, (fun b h => by cases h), fun b h => ?_, fun hm => ?_, ?_⟩
      · rcases h5 with h5 | h5
        · rw [h5] at h; cases h
        · rw [h5] at h; cases h; exact .inr (Nat.le_refl _)
      · rw [hv]; exact h4.2 ⟨hv, hm⟩
      · subst hv
        by_cases hm : m = 0
        · subst hm
          have hnn : news = [] := List.eq_nil_of_length_eq_zero (by simpa using hl)
          have h6 : (Builtin.append_ #[t, t] ty #[.slice none 0 0, .slice (some ad) 0 c]).run P w = .ok (.slice none 0 0) w := by
            simp [Builtin.append_, run_underlying ht, sizeOf, typeInfo, hi, Builtin.lenOf, Builtin.firstCells, loadCells, loadCellsFrom]
          rw [h6] at hr; cases hr; exact Nat.le_refl _
        · have h6 := run_append_nil (P := P) w t ty e i z ht hi hz ad m c news (by rw [hs]; exact hl) hnews (by omega) (by omega) (by rw [hn] at hbytes; simp only [Nat.zero_add] at hbytes; omega)
          rw [h6] at hr; cases hr; exact Nat.le_succ _
    · by_cases hroom : n + m ≤ cap
      · subst hv
        obtain ⟨w', hr, h2, h3⟩ := run_append_fits (P := P) w 0 t ty e i sz ht hi hs gb n cap xs hown ad m c news hl hnews h1 hroom
        refine ⟨_, w', some gb, hr, h2, h3, (fun b h => by cases h; exact ⟨rfl, rfl⟩), fun b h => .inl h, fun hm => by rw [hm]; rfl, ?_⟩
        have hfit : n * i.size + news.length ≤ cur.size := by rw [hl, hcs, hs, ← Nat.add_mul]; exact Nat.mul_le_mul_right _ hroom
        have h6 := run_append_room (P := P) w t ty e i ht hi gb n cap cur hh ad m c news (by rw [hs]; exact hl) hnews h1 hroom hfit
        rw [h6] at hr; cases hr; exact Nat.le_refl _
      · subst hv
        obtain ⟨v', w', hr, h2, h3⟩ := run_append_arg_grows (P := P) w t ty e i z sz i.bytes ht hi hz hs rfl hzs hpos ⟨gb, 0, none⟩ n cap xs hown.1 (fun j u hu => hown.cells (g := gb) rfl j u hu) ad m c news hl hnews (by omega) (by unfold maxLen; omega) hbytes
        have hd : w.drawn ≤ w'.drawn := by
          have h6 := run_append_grow (P := P) w t ty e i z ht hi hz ⟨gb, 0, none⟩ n cap xs (by rw [hs]; exact hown.1) (fun j u hu => hown.cells (g := gb) rfl j u hu) ad m c news (by rw [hs]; exact hl) hnews (by omega) (by omega) (growslice_fits (by omega) hbytes)
          rw [h6] at hr; cases hr; exact Nat.le_succ _
        refine ⟨v', w', none, hr, ⟨h2.1, ?_⟩, h3, (fun b h => by cases h), fun b h => .inr (h2.lt b h).1, fun hm => by omega, hd⟩
        rcases h2.2 with h | ⟨g', cap', cur', q1, _, q3⟩
        · exact .inl h
        · exact .inr ⟨g', cap', cur', q1, Nat.zero_le _, q3⟩

theorem src_ok {q : PV} {x : Value} (hw : WOk rd L s w) (hq : RepP rd q x) {sz : Nat} {kk : Nat → List (List PV) → Prop}
    (h : (match q with
            | .sl _ sz' new => fun (kk : Nat → List (List PV) → Prop) => sz' = sz ∧ kk new.length new
            | .nils => fun kk => kk 0 []
            | _ => fun _ => False) kk) : ∃ m new news, kk m new ∧ m = new.length ∧ news.length = m * sz ∧ (x = .slice none 0 0 ∧ m = 0 ∨ ∃ ad c, x = .slice (some ad) m c ∧ ∀ (j : Nat) u, news[j]? = some u → w.cell? (ad.add j) = some u) ∧
      (∀ u ∈ news, u.oneCell' = true) ∧ All2 (RepP rd) new.flatten news ∧ ∀ y ∈ new, y.length = sz := by
  cases q with
  | sl own sz' new =>
    obtain ⟨rfl, hk⟩ := h
    obtain ⟨xs, a, cap, rfl, h1, h2, h3, h4, h5, h6⟩ := sl_flat hq
    refine ⟨_, new, xs, hk, rfl, by rw [← h1.len, flat_len h2], ?_, fun u hu => by obtain ⟨p, hp⟩ := h1.any u hu; exact hp.oneCell, h1, h2⟩
    cases a with
    | none =>
      have : new.length = 0 := by have := h5 rfl; omega
      exact .inl ⟨by rw [this, h5 rfl], this⟩
    | some ad =>
      refine .inr ⟨ad, cap, rfl, fun j u hu => ?_⟩
      have hne : new ≠ [] := by
        rintro rfl
        cases h1
        simp at hu
      obtain ⟨b, o, hao, h7⟩ := h6 hne
      cases hao
      rw [Addr.add_lit]
      exact (hw.hrd _ _ (h7 j u hu)).1
  | nils =>
    cases hq
    exact ⟨0, [], [], h, rfl, by simp, .inl ⟨rfl, rfl⟩, by simp, .nil, by simp⟩
  | _ => exact h.elim

theorem run_append_make_nil (t u ty e : TypeId) (i : TypeInfo) (z : Value) (ht : P.underlying t = some (.slice e)) (hu : P.underlying u = some (.int .i64)) (hi : P.info? e = some i) (hz : i.zero = some z) (kk : IntKind)
    (n : Nat) (h0 : 0 < n) (hsz : 0 < i.size) (h63 : n ≤ 1073741824) (hby : i.bytes ≤ 65536) :
    (Builtin.append_ #[t, u] ty #[.slice none 0 0, .int kk n]).run P w =
      .ok (.slice (some ⟨w.heap.size, 0, none⟩) n (grownCap w n 0 e)) (w.drew.alloc (.cells (Builtin.zeroCells z.cells n ++ Builtin.zeroCells z.cells (grownCap w n 0 e - n)) e)) := by
  have hn : n ≠ 0 := by omega
  have hmul : n * i.bytes ≤ 70368744177664 := by
    have : n * i.bytes ≤ 1073741824 * 65536 := Nat.mul_le_mul h63 hby
    omega
  have hw : IntKind.i64.wrap (n : Int) = n := by rw [IntKind.wrap_i64]; omega
  have h63' : ¬ (9223372036854775807 < (n : Int)) := by omega
  have h48' : ¬ (281474976710656 < Builtin.nextslicecap n 0 * i.bytes) := by rw [nextslicecap_zero h0]; omega
  have h48 : ¬ (281474976710656 < (n : Int) * (i.bytes : Int)) := by
    have : (n : Int) * (i.bytes : Int) = ((n * i.bytes : Nat) : Int) := by simp
    rw [this]; omega
  have hnz : ¬ (n * i.size = 0) := by
    intro h
    rcases Nat.mul_eq_zero.1 h with h | h <;> omega
  have hsz0 : i.size ≠ 0 := by omega
  simp [Builtin.append_, run_underlying ht, run_underlying hu, sizeOf, typeInfo, zeroValue, hi, hz, Builtin.lenOf, Builtin.firstCells, hn, h63', h48', h48, hw, asIntOf, asInt, hnz, Question.forced, newRow, grownCap]
  intro hneg
  omega

theorem op_append (hT : TabOK P T) {g : Nat → PV} {a : Act} (hrep : ∀ t, rep3 rd L s (g t) (a.tmps.getD t undef)) (hw : WOk rd L s w) (hg : Grows F rd L s w) {o : Oper} {args : Array Operand} {tys : Array TypeId}
    (ho : o.op = .call { callee := .builtin .append, args := args, argTypes := tys }) {k : K} (h : opVC T o g s k) : OpRes P F rd L s w a o k := by
  unfold opVC at h
  rw [ho] at h
  dsimp only at h
  split at h
  · rename_i x y t t' hargs htys
    split at h
    · rename_i hint
      have hargs : args = #[x, y] := by rw [← Array.toList_inj]; simpa using hargs
      have htys : tys = #[t, t'] := by rw [← Array.toList_inj]; simpa using htys
      subst hargs
      subst htys
      have hint' : ∃ n ag z eq, look T t' = some ⟨.int .i64, n, ag, z, eq⟩ := by
        unfold isI64 at hint
        split at hint
        · rename_i n ag z eq h; exact ⟨n, ag, z, eq, h⟩
        · cases hint
      obtain ⟨_, _, _, _, hlt⟩ := hint'
      have hu := (hT _ _ hlt).ti
      split at h
      · rename_i e nn ag zr eq kk n hl hp hq
        split at h
        · rename_i r hle
          obtain ⟨hs, h0, hb, hk⟩ := h
          have hte := (hT _ _ hl).ti
          obtain ⟨i, z, hi, hsz, hpos, hby, hz, hzz, hzs⟩ := (hT _ _ hle).info
          have hx := evo_rep hrep x
          have hy := evo_rep hrep y
          rw [hp] at hx
          rw [hq] at hy
          have hy := rep3_int hy
          have hxv : a.eval x = .slice none 0 0 := by generalize a.eval x = v at hx; cases hx; rfl
          obtain ⟨m, rfl⟩ := Int.eq_ofNat_of_zero_le (Int.le_of_lt h0)
          simp only [Int.toNat_natCast] at hk
          have hm0 : 0 < m := by omega
          have hr := run_append_make_nil (P := P) (w := w) t t' o.type e i z hte hu hi hz kk m hm0 (by omega) (by omega) hby
          have hge := grownCap_ge w m 0 e
          have hcm := grownCap_le_maxLen w m 0 e (by unfold maxLen; omega)
          have hze : Builtin.zeroCells z.cells m = (Array.range (m * r.n)).map (z.cells[· % z.cells.size]!) := by unfold Builtin.zeroCells; rw [hzs]
          have hzc := zeros_ok (n := m) hzz hzs hpos
          rw [← hze] at hzc
          have hzl : r.zero.length = r.n := by rw [hzz.len]; simpa using hzs
          have hcl : (Builtin.zeroCells z.cells m).toList.length = m * r.n := by simp [Builtin.zeroCells, hzs]
          have hown : (w.drew.alloc (.cells (Builtin.zeroCells z.cells m ++ Builtin.zeroCells z.cells (grownCap w m 0 e - m)) e)).ownsRow 0 e r.n (.slice (some ⟨w.heap.size, 0, none⟩) m (grownCap w m 0 e)) (List.replicate m r.zero).length (Builtin.zeroCells z.cells m).toList := by
            rw [List.length_replicate]
            refine ⟨hcl, .inr ⟨w.heap.size, _, _, rfl, Nat.zero_le _, heap_alloc_new w.drew _, hge, hcm, ?_, ?_⟩⟩
            · have : (m + (grownCap w m 0 e - m)) * r.n = grownCap w m 0 e * r.n := by congr 1; omega
              rw [← this, Nat.add_mul]
              simp [Builtin.zeroCells, hzs]
            · rw [Array.toList_append, ← hcl]; exact List.take_left
          have hnew := newrow_ok (id := rb o.dst) hw hg (es := List.replicate m r.zero) (rb_ne _) hs hown ⟨rfl, rfl, rfl, by simp, fun k hk _ => heap_alloc_old w.drew _ k hk⟩ (Nat.le_succ _) (fun b hb => by simp [Value.ownBlock] at hb; omega) (hzc.imp fun _ _ h => h rd)
            (fun x hx => by rw [(List.mem_replicate.1 hx).2]; exact hzl)
          refine ⟨_, _, rd, _, _, _, _, hk, ?_, .inl rfl, by have := hnew.2; rw [List.length_replicate] at this; exact this, hnew.1⟩
          simp only [execOp, ho, resolve, List.map_toArray, List.map_cons, List.map_nil, Sem.run_bind, invoke, builtin, hxv, hy]
          simp only [pure, Sem.run, Result.andThen]
          simp [hr]
        · exact h.elim
      · exact h.elim
    obtain ⟨rfl, h⟩ := h
    have hargs : args = #[x, y] := by rw [← Array.toList_inj]; simpa using hargs
    have htys : tys = #[t, t] := by rw [← Array.toList_inj]; simpa using htys
    subst hargs
    subst htys
    split at h
    · rename_i e nn ag zr eq hl
      split at h
      · rename_i r hle
        have hte := (hT _ _ hl).ti
        obtain ⟨i, z, hi, hsz, hpos, hby, hz, hzz, hzs⟩ := (hT _ _ hle).info
        have hy := evo_rep hrep y
        have hy1 : rep1 rd L s (evo g y) (a.eval y) := by
          cases hp : evo g y with
          | agg l => rw [hp] at h; exact h.elim
          | tup l => rw [hp] at h; exact h.elim
          | _ => rw [hp] at hy; exact hy
        obtain ⟨q, u, rd1, h1, hu, hst, hq⟩ := share1_ok (Fz.refl s) hw hg hy1 h
        obtain ⟨m, new, news, h2, hm, hnl, hsrc, hone, hall, hlen⟩ := src_ok hst.ok hq h1
        have hx := rep3_mono hst.le hst.obj (evo_rep hrep x)
        have hrun : ∀ v' w', (Builtin.append_ #[t, t] o.type #[a.eval x, a.eval y]).run P w = .ok v' w' → (execOp a.eval o).run P w = .ok (.value v') w' := by
          intro v' w' hr
          simp only [execOp, ho, resolve, List.map_toArray, List.map_cons, List.map_nil, Sem.run_bind, invoke, builtin]
          simp only [pure, Sem.run, Result.andThen]
          simp [hr]
        split at h2
        · rename_i hp
          obtain ⟨hs, hb, hk⟩ := h2
          rw [hp] at hx
          have hxv : a.eval x = .slice none 0 0 := by generalize a.eval x = v at hx; cases hx; rfl
          obtain ⟨v', w', row, hr, hown, hgr, hrow, hv, _, hdr⟩ := append_run (P := P) (ty := o.type) hte hi hz hsz hzs hpos hby (World.ownsRow_nil w 0 e r.n) hnl hsrc hone (by omega)
          have hrn : row = none := by
            cases hrw : row with
            | none => rfl
            | some b => have := (hrow b hrw).1; simp [Value.ownBlock] at this
          subst hrn
          have hnew := newrow_ok (id := rb o.dst) hst.ok hst.gr (es := new) (rb_ne _) (fzu_none hu hs) (by rw [← hm]; simpa using hown) hgr hdr (fun b hb => (hv b hb).resolve_left (by simp)) (by simpa using hall) hlen
          have hst2 := hst.trans hnew.1
          rw [← ov_append] at hst2 hnew
          refine ⟨_, _, rd1, _, _, _, _, hk, hrun _ _ (by rw [hxv]; exact hr), .inl rfl, by rw [hm]; exact hnew.2, hst2⟩
        · rename_i id n hp
          split at h2
          · rename_i e' sz es fr hs
            obtain ⟨rfl, rfl, rfl, hb, hnu, hk⟩ := h2
            rw [hp] at hx
            have hs1 : ov u s id = some (.row e' r.n es fr) := by simp only [ov, look_none_of_all hnu]; exact hs
            have hxv := hx.1 _ _ _ _ hs1 rfl
            obtain ⟨xs, k1, k2, k3, k4⟩ := hst.ok.row _ _ _ _ _ hs1
            obtain ⟨v', w', row, hr, hown, hgr, hrow, hv, hm0, hdr⟩ := append_run (P := P) (ty := o.type) hte hi hz hsz hzs hpos hby k1 hnl hsrc hone hb
            have hlen' : (es ++ new).length = es.length + m := by rw [List.length_append, hm]
            have hle : ObjLe L (ov u s) (L.setSv id v') (ov [(id, .row e' r.n (es ++ new) fr)] (ov u s)) := by
              intro i' o' hi'
              by_cases hii : i' = id
              · subst hii
                rw [hs1] at hi'
                cases hi'
                refine ⟨_, ov_at, .inr (.inr ⟨_, _, _, _, _, _, _, rfl, rfl, by omega, fun hq => ?_⟩)⟩
                have : m = 0 := by omega
                rw [show (L.setSv i' v').sv i' = v' from if_pos rfl, hm0 this]
              · obtain ⟨o2, q1, q2⟩ := ObjLe.refl L (ov u s) i' o' hi'
                refine ⟨o2, by rw [ov_at_ne hii]; exact q1, ?_⟩
                rcases q2 with q2 | q2 | ⟨_, _, _, _, _, _, _, q2, q3, q4, q5⟩
                · exact .inl q2
                · exact .inr (.inl q2)
                · exact .inr (.inr ⟨_, _, _, _, _, _, _, q2, q3, q4, fun q6 => (L.setSv_ne id v' i' hii).1.trans (q5 q6)⟩)
            have hrowok := row_ok hst.ok hst.gr (id := id) (es := es ++ new) (fr := fr) (by rw [hlen']; exact hown) hgr hdr (fun b hb => by simp only [blkOf, hs1]; exact (hrow b hb).1) hv
              (by rw [List.flatten_append]; exact k2.append hall) (fun y hy => by rcases List.mem_append.1 hy with h | h; exact k3 y h; exact hlen y h)
              (fun b hb p v hp hpb => by
                obtain ⟨_, hlt⟩ := k4 b (hrow b hb).1 p v hp hpb
                have hc := (hst.ok.hrd p v hp).1
                have hsp := (hst.ok.hrd p v hp).2.2
                obtain ⟨pb, po, ps⟩ := p
                simp only at hpb hsp hlt
                subst hpb
                subst hsp
                have e1 : xs[po]? = some v := by
                  obtain ⟨v2, hv2⟩ : ∃ v2, xs[po]? = some v2 := ⟨_, List.getElem?_eq_getElem (by rw [k1.1]; exact hlt)⟩
                  have := k1.cells (hrow pb hb).1 _ _ hv2
                  rw [Addr.add_lit, Nat.zero_add] at this
                  rw [hc] at this; cases this; exact hv2
                have e2 : (xs ++ news)[po]? = some v := by rw [List.getElem?_append_left (by rw [k1.1]; exact hlt)]; exact e1
                have := hown.cells (hrow pb hb).2 _ _ e2
                rw [Addr.add_lit, Nat.zero_add] at this
                rw [this, hc])
              (fun b hb hvb p v hp hpb => by
                obtain ⟨hf, hlt⟩ := k4 b (hrow b hb).1 p v hp hpb
                refine ⟨hf, ?_⟩
                rw [hlen', Nat.add_mul]; omega) hle (fun hpin => hst.gr.pb id hpin _ _ _ _ hs1)
            have hst2 := hst.trans hrowok
            rw [← ov_append] at hst2
            refine ⟨_, _, rd1, _, _, _, _, hk, hrun _ _ (by rw [hxv]; exact hr), .inl rfl, ⟨fun e'' sz'' es'' fr'' hh hn => (if_pos rfl).symm, fun e'' sz'' es'' fr'' hh => ?_, ?_, ?_⟩, hst2⟩
            · simp only [ov_cons, if_pos] at hh
              cases hh
              omega
            · rcases hown.2 with ⟨q1, q2⟩ | ⟨_, _, _, q1, _⟩
              · exact ⟨none, 0, by rw [q2]; exact q1⟩
              · exact ⟨_, _, q1⟩
            · simp only [ov_cons, if_pos]; simp
          · exact h2.elim
        · exact h2.elim
      · exact h.elim
    · exact h.elim
  · exact h.elim
end
section
variable {P : Program} {T : Tab} {F : Fr} {rd : Rd} {L : Lay} {s s1 : Objs} {w : World}

theorem flat_set {es : List (List PV)} {sz : Nat} (h : ∀ x ∈ es, x.length = sz) : ∀ {i : Nat} {el el' : List PV}, es[i]? = some el → el'.length = sz →
    (es.set i el').flatten = es.flatten.take (i * sz) ++ el' ++ es.flatten.drop (i * sz + sz) := by
  induction es with
  | nil => intro i el el' h1; simp at h1
  | cons x es ih =>
    intro i el el' h1 h2
    have hx := h x (by simp)
    cases i with
    | zero =>
      simp only [List.set_cons_zero, List.flatten_cons, Nat.zero_mul, List.take_zero, List.nil_append, Nat.zero_add]
      rw [List.drop_append, List.drop_of_length_le (by omega)]
      simp [hx]
    | succ i =>
      simp at h1
      simp only [List.set_cons_succ, List.flatten_cons]
      rw [ih (fun y hy => h y (by simp [hy])) h1 h2]
      rw [List.take_append, List.drop_append, Nat.succ_mul, List.take_of_length_le (l := x) (by omega), List.drop_of_length_le (l := x) (by omega), hx]
      rw [show i * sz + sz - sz = i * sz by omega, show i * sz + sz + sz - sz = i * sz + sz by omega]
      simp

theorem splice_flat {es : List (List PV)} {sz i j : Nat} {el new : List PV} (h : ∀ x ∈ es, x.length = sz) (h1 : es[i]? = some el) (h2 : j + new.length ≤ el.length) :
    (es.set i (splice el j new)).flatten = splice es.flatten (i * sz + j) new := by
  have hel := h el (List.mem_of_getElem? h1)
  have hl : (splice el j new).length = sz := by simp only [splice, List.length_append, List.length_take, List.length_drop]; omega
  rw [flat_set h h1 hl]
  unfold splice
  have e1 : ∀ q, q ≤ sz → el.take q = (es.flatten.drop (i * sz)).take q := by
    intro q hq
    apply List.ext_getElem?
    intro k
    simp only [List.getElem?_take, List.getElem?_drop]
    by_cases hk : k < q
    · rw [if_pos hk, if_pos hk]
      have hk' : k < el.length := by omega
      rw [List.getElem?_eq_getElem hk', flat_get h h1 (List.getElem?_eq_getElem hk')]
    · rw [if_neg hk, if_neg hk]
  have e2 : el.drop (j + new.length) = ((es.flatten.drop (i * sz)).take sz).drop (j + new.length) := by
    rw [← e1 sz (Nat.le_refl _), ← hel, List.take_length]
  have hfl := flat_len h
  have hi : i < es.length := (List.getElem?_eq_some_iff.1 h1).1
  have hmul : i * sz + sz ≤ es.length * sz := by rw [← Nat.succ_mul]; exact Nat.mul_le_mul_right _ hi
  rw [e2, e1 j (by omega)]
  apply List.ext_getElem?
  intro k
  simp only [List.getElem?_append, List.length_append, List.length_take, List.length_drop, List.getElem?_take, List.getElem?_drop, hfl]
  have m1 : min (i * sz) (es.length * sz) = i * sz := by omega
  have m2 : min j (es.length * sz - i * sz) = j := by omega
  have m3 : min (i * sz + j) (es.length * sz) = i * sz + j := by omega
  have m4 : min sz (es.length * sz - i * sz) = sz := by omega
  rw [m1, m2, m3, m4]
  clear e1 e2 h h1 hfl hl
  generalize es.length * sz = A at *
  generalize i * sz = B at *
  (repeat' split) <;> first | rfl | (exfalso; omega) | (congr 1; omega)

theorem setRow_frame {g : Nat} {cur cs : Array Value} {e : TypeId} (hg : w.heap[g]? = some (.cells cur e (0, 0))) : w.grownBy (w.setRow g cs) (some g) :=
  ⟨rfl, rfl, rfl, by simp, fun k hk hne => by
    have : k ≠ g := fun h => hne (by rw [h])
    simp only [World.setRow, Array.getElem?_modify]
    rw [if_neg (fun h => this h.symm)]⟩

theorem run_storeAt {t : TypeId} {ad : Addr} {v : Value} {us : List Value} {w' : World} (hv : v.cells = us.toArray) (hsize : (sizeOf t).run P w = .ok us.length w) (hst : (storeCells ad us).run P w = .ok () w') :
    (Instr.storeAt t (.pointer (some ad)) v).run P w = .ok () w' := by
  simp [Instr.storeAt, Instr.sureAddr, storeVar, hsize, hv, hst]

theorem op_store (hT : TabOK P T) {g : Nat → PV} {a : Act} (hrep : ∀ t, rep3 rd L s (g t) (a.tmps.getD t undef)) (hw : WOk rd L s w) (hg : Grows F rd L s w) {o : Oper} {t : TypeId} {x y : Operand} (ho : o.op = .store t x y) {k : K}
    (h : opVC T o g s k) : OpRes P F rd L s w a o k := by
  unfold opVC at h
  rw [ho] at h
  dsimp only at h
  have hx := evo_rep hrep x
  have hy := evo_rep hrep y
  split at h
  · rename_i r hl
    obtain ⟨i, z, hi, hsz, hpos, _⟩ := (hT t r hl).info
    have hsize : (sizeOf t).run P w = .ok r.n w := by simp [sizeOf, typeInfo, hi, hsz]
    split at h
    · rename_i id off hp
      rw [hp] at hx
      split at h
      · rename_i cs fr hs
        obtain ⟨rfl, hn, hoff, hnt, hk⟩ := h
        have hoff := Nat.le_of_ble_eq_true hoff
        obtain ⟨us, hv, hus, hone⟩ := rep3_cells hy (noU_spec (l := [(0, evo g y)]) (by simpa [noU] using hnt) (0, evo g y) (by simp)).1 (noU_spec (l := [(0, evo g y)]) (by simpa [noU] using hnt) (0, evo g y) (by simp)).2
        obtain ⟨vs, e, h1, h2, h3, h4, _⟩ := hw.box id cs false hs
        have hxv := hx.1 ⟨cs, false, hs⟩
        have hul : us.length = r.n := by rw [← hus.len]; exact hn
        have hvl : vs.length = cs.length := h2.len.symm
        have hst := run_storeCells_at P (L.bl id) off e us 0 vs.toArray w h1 (by simp; omega) hone
        have hle : ObjLe L s L (ov [(id, .box (splice cs off (evo g y).cells) false)] s) := by
          intro i' o' hi'
          by_cases hii : i' = id
          · subst hii
            rw [hs] at hi'
            cases hi'
            exact ⟨_, ov_at, .inr (.inl ⟨_, _, _, _, rfl, rfl, rfl⟩)⟩
          · obtain ⟨o2, q1, q2⟩ := ObjLe.refl L s i' o' hi'
            exact ⟨o2, by rw [ov_at_ne hii]; exact q1, q2⟩
        have hfr := setRow_frame (w := w) (cs := ((vs.toArray.toList.take (off + 0)) ++ us ++ vs.toArray.toList.drop (off + 0 + us.length)).toArray) h1
        refine ⟨_, _, rd, L, _, .skip, undef, hk, ?_, .inr ⟨rfl, rfl⟩, trivial, chg_ok hw hg (w' := w.setRow (L.bl id) ((vs.toArray.toList.take (off + 0)) ++ us ++ vs.toArray.toList.drop (off + 0 + us.length)).toArray) (fun p v hp => ?_) (fun i _ => ⟨rfl, rfl⟩) (fun i b hi hb => ?_) hle (fun cs' fr' he => ?_) (fun _ _ _ _ he => by cases he) (fun b hb => ?_) rfl rfl ⟨rfl, Nat.le_refl _⟩ (by simp) (fun q hq hM => ?_) (fun _ => ⟨⟨rfl, rfl⟩, fun _ _ _ _ he => by cases he⟩)⟩
        · simp only [execOp, ho, hxv, Sem.run_bind, run_storeAt hv (by rw [hul]; exact hsize) hst, Result.andThen]
          rfl
        · exact World.cell?_of_block (hfr.block _ (hw.rd_lt hp) (fun h => h4 rfl p v hp (Option.some.inj h)))
        · exact hfr.block _ (hw.blk_lt hb) (by intro h; cases h; exact hi (hw.inj i id _ hb (by simp [blkOf, hs])))
        · cases he
          refine ⟨_, e, setRow_heap w _ _ _ e (0, 0) h1, ?_, fun u hu => ?_, fun _ p v hp => h4 rfl p v hp, fun hf => by cases hf⟩
          · have := splice_ok (R := rep1 rd L s) h2 hus off
            simp only [Nat.add_zero]
            exact this.imp fun _ _ => rep1_mono (fun _ _ h => h) hle
          · simp only [List.mem_append] at hu
            rcases hu with (hu | hu) | hu
            · exact h3 u (List.mem_of_mem_take hu)
            · exact hone u hu
            · exact h3 u (List.mem_of_mem_drop hu)
        · have hb' : b = L.bl id := by simp only [blkOf, ov_at] at hb; cases hb; rfl
          subst hb'
          exact ⟨fun i hi hbi => hi (hw.inj i id _ hbi (by simp [blkOf, hs])), hg.own id _ (by simp [blkOf, hs])⟩
        · refine hfr.block _ (Nat.lt_of_lt_of_le hq hg.size) (by
            intro h; cases h
            rcases hg.own id _ (show blkOf L s id = some (L.bl id) by simp [blkOf, hs]) with h' | h'
            · exact hM h'
            · omega)
      · exact h.elim
    · rename_i id n i j hp
      rw [hp] at hx
      split at h
      · rename_i e sz es fr hs
        obtain ⟨rfl, rfl, h⟩ := h
        have hy2 : rep2 rd L s (evo g y) (a.eval y) := by
          cases hp : evo g y with
          | tup l => rw [hp] at h; exact h.elim
          | _ => rw [hp] at hy; exact hy
        obtain ⟨q, u, rd1, h1, hu, hst, _, us, hv, hus⟩ := share2_ok (Fz.refl s) hw hg hy2 h
        obtain ⟨el, hel, hql, hjl, hnu, hk⟩ := h1
        have hjl := Nat.le_of_ble_eq_true hjl
        have hx := rep3_mono hst.le hst.obj hx
        have hs1 : ov u s id = some (.row e sz es false) := by simp only [ov, look_none_of_all hnu]; exact hs
        obtain ⟨b, hb, hxv⟩ := hx.1 _ _ _ _ hs1 rfl
        obtain ⟨xs, k1, k2, k3, k4⟩ := hst.ok.row _ _ _ _ _ hs1
        have hone : ∀ u ∈ us, u.oneCell' = true := fun u hu => by obtain ⟨p, hp⟩ := hus.any u hu; exact hp.oneCell
        have hul : us.length = r.n := by rw [← hus.len]; exact hql
        have hell := k3 el (List.mem_of_getElem? hel)
        have hil : i < es.length := (List.getElem?_eq_some_iff.1 hel).1
        have hmul : i * sz + sz ≤ es.length * sz := by rw [← Nat.succ_mul]; exact Nat.mul_le_mul_right _ hil
        rcases k1.2 with ⟨hn, _⟩ | ⟨gb, cap, cur, hsv, _, hh, hnc, hcm, hcs, htake⟩
        · rw [hn] at hb; cases hb
        · have hgb : gb = b := by rw [hsv] at hb; simpa [Value.ownBlock] using hb
          subst hgb
          have hcap : es.length * sz ≤ cap * sz := Nat.mul_le_mul_right _ hnc
          have hrun := run_storeCells_at P gb (i * sz + j) e us 0 cur w hh (by omega) hone
          simp only [Nat.add_zero] at hrun
          have hfr := setRow_frame (w := w) (cs := (cur.toList.take (i * sz + j) ++ us ++ cur.toList.drop (i * sz + j + us.length)).toArray) hh
          have hsv' : L.setSv id (L.sv id) = L := by
            cases L; simp only [Lay.setSv]; congr 1; funext q; split
            · rename_i h; rw [h]
            · rfl
          have hset : (es.set i (splice el j q.cells)).length = es.length := List.length_set
          have hfl : (es.set i (splice el j q.cells)).flatten = splice es.flatten (i * sz + j) q.cells := splice_flat k3 hel (by omega)
          have hxs' := splice_ok k2 hus (i * sz + j)
          have hxl : xs.length = es.length * sz := k1.1
          have hown : (w.setRow gb (cur.toList.take (i * sz + j) ++ us ++ cur.toList.drop (i * sz + j + us.length)).toArray).ownsRow 0 e sz (L.sv id) (es.set i (splice el j q.cells)).length (xs.take (i * sz + j) ++ us ++ xs.drop (i * sz + j + us.length)) := by
            rw [hset]
            refine ⟨by simp; omega, .inr ⟨gb, cap, _, hsv, Nat.zero_le _, setRow_heap w _ _ _ e (0, 0) hh, hnc, hcm, by simp; omega, ?_⟩⟩
            rw [← htake]
            apply List.ext_getElem?
            intro p
            simp only [List.getElem?_append, List.length_append, List.length_take, List.getElem?_take, List.getElem?_drop, Array.length_toList, hcs, List.length_drop]
            clear hst hrun hfr hxs' hus
            generalize es.length * sz = A at *
            generalize i * sz = B at *
            generalize cap * sz = C at *
            (repeat' split) <;> first | rfl | (exfalso; omega) | (congr 1; omega)
          have hle : ObjLe L (ov u s) (L.setSv id (L.sv id)) (ov [(id, .row e sz (es.set i (splice el j q.cells)) false)] (ov u s)) := by
            rw [hsv']
            intro i' o' hi'
            by_cases hii : i' = id
            · subst hii
              rw [hs1] at hi'
              cases hi'
              exact ⟨_, ov_at, .inr (.inr ⟨_, _, _, _, _, _, _, rfl, rfl, by rw [hset]; exact Nat.le_refl _, fun _ => rfl⟩)⟩
            · obtain ⟨o2, q1, q2⟩ := ObjLe.refl L (ov u s) i' o' hi'
              exact ⟨o2, by rw [ov_at_ne hii]; exact q1, q2⟩
          have hno : ∀ p v, rd1 p = some v → p.block = gb → False := fun p v hp hpb => by cases (k4 gb hb p v hp hpb).1
          have hro := row_ok hst.ok hst.gr (id := id) (fr := false) hown hfr (Nat.le_refl _) (fun b hb' => by cases hb'; simp only [blkOf, hs1]; exact hb) (fun b hb' => by rw [hb] at hb'; exact .inl hb') (by rw [hfl]; exact hxs')
            (fun y hy => by
              rcases List.mem_or_eq_of_mem_set hy with h | h
              · exact k3 y h
              · rw [h]; simp only [splice, List.length_append, List.length_take, List.length_drop]; omega)
            (fun b hb' p v hp hpb => by cases hb'; exact (hno p v hp hpb).elim) (fun b hb' _ p v hp hpb => by cases hb'; exact (hno p v hp hpb).elim) hle (fun hpin => hst.gr.pb id hpin _ _ _ _ hs1)
          rw [hsv'] at hro
          have hst2 := hst.trans hro
          rw [← ov_append] at hst2
          refine ⟨_, _, rd1, L, _, .skip, undef, hk, ?_, .inr ⟨rfl, rfl⟩, trivial, hst2⟩
          simp only [execOp, ho, hxv, Sem.run_bind, run_storeAt hv (by rw [hul]; exact hsize) hrun, Result.andThen]
          rfl
      · exact h.elim
    · exact h.elim
  · exact h.elim
end
section
variable {P : Program} {T : Tab} {F : Fr} {rd : Rd} {L : Lay} {s s1 : Objs} {w : World}

theorem sub_sl {own : Option TypeId} {sz : Nat} {es : List (List PV)} {a : Option Addr} {n cap : Nat} (h : RepP rd (.sl own sz es) (.slice a n cap)) (l hh : Nat) (h1 : l ≤ hh) (h2 : hh ≤ es.length) :
    n = es.length ∧ n ≤ cap ∧ RepP rd (.sl none sz ((es.take hh).drop l)) (.slice (if cap = l then a else a.map (·.add (l * sz))) (hh - l) (cap - l)) := by
  generalize hp : PV.sl own sz es = p at h
  generalize hv : Value.slice a n cap = v at h
  cases h with
  | sl hcap hmax hnone ha hsz hrd hrep =>
    rename_i own' sz' es' a' cap' b o u
    cases hp
    cases hv
    have hlen : ((es.take hh).drop l).length = hh - l := by rw [List.length_drop, List.length_take]; omega
    have hget : ∀ (i : Nat) e, ((es.take hh).drop l)[i]? = some e → es[l + i]? = some e := by
      intro i e he
      rw [List.getElem?_drop, List.getElem?_take] at he
      split at he
      · exact he
      · cases he
    refine ⟨rfl, hcap, ?_⟩
    rw [← hlen]
    refine .sl (b := b) (o := o + l * sz) (u := fun i j => u (l + i) j) (by rw [hlen]; omega) (by omega) (fun hn => ?_) (fun hne => ?_) (fun e he => hsz e (List.mem_of_mem_take (List.mem_of_mem_drop he))) (fun i e j c h3 h4 => ?_) (fun i e j c h3 h4 => hrep _ _ _ _ (hget i e h3) h4)
    · split at hn
      · have := hnone hn; omega
      · have : a = none := by simpa using hn
        have := hnone this; omega
    · have hlt : l < hh := by
        rcases Nat.lt_or_ge l hh with h | h
        · exact h
        · exact absurd (List.eq_nil_of_length_eq_zero (by rw [hlen]; omega)) hne
      have hes : es ≠ [] := by rintro rfl; simp at h2; omega
      rw [if_neg (by omega), ha hes]
      simp [Addr.add_lit]
    · have := hrd _ _ _ _ (hget i e h3) h4
      rw [← this]
      congr 2
      rw [Nat.add_mul]; omega
  | _ => cases hp

theorem slice_run {t e : TypeId} {n' : Nat} (ht : P.underlying t = some (.slice e)) (hs : ∃ i, P.info? e = some i ∧ i.size = n') {g : Nat → PV} {a : Act} (ev : ∀ x, rep3 rd L s (evo g x) (a.eval x)) {lo hi : Option Operand} {ad : Option Addr} {n cap : Nat} {k : Int → Int → Prop}
    (hncap : n ≤ cap) (h : optI g lo 0 fun l => optI g hi n fun hh => 0 ≤ l ∧ l ≤ hh ∧ hh ≤ n ∧ k l hh) :
    ∃ l hh : Nat, l ≤ hh ∧ hh ≤ n ∧ k l hh ∧ (Instr.sliceAt t (.slice ad n cap) (lo.map a.eval) (hi.map a.eval) none).run P w = .ok (.slice (if cap = l then ad else ad.map (·.add (l * n'))) (hh - l) (cap - l)) w := by
  have hz := run_sizeOf_row (P := P) (w := w) hs
  have key : ∀ (lo' hi' : Option Value) (l hh : Int), (lo' = none ∧ l = 0 ∨ ∃ i, lo' = some (.int i l)) → (hi' = none ∧ hh = n ∨ ∃ i, hi' = some (.int i hh)) → 0 ≤ l → l ≤ hh → hh ≤ n →
      (Instr.sliceAt t (.slice ad n cap) lo' hi' none).run P w = .ok (.slice (if cap = l.toNat then ad else ad.map (·.add (l.toNat * n'))) (hh.toNat - l.toNat) (cap - l.toNat)) w := by
    intro lo' hi' l hh hl hhh h0 h1 h2
    have e1 : ((hh.toNat : Nat) : Int) = hh := Int.toNat_of_nonneg (by omega)
    have b1 : ∀ i (y : Nat) c, hh ≤ y → (Instr.sliceBound (.int i hh) y c).run P w = .ok hh.toNat w := fun i y c hy => by simp [Instr.sliceBound, asIntOf, hy, show 0 ≤ hh by omega]
    have b2 : ∀ i c, (Instr.sliceBound (.int i l) hh.toNat c).run P w = .ok l.toNat w := fun i c => by simp [Instr.sliceBound, asIntOf, h0, e1, h1]
    have b3 : ∀ i c, hh = n → (Instr.sliceBound (.int i l) n c).run P w = .ok l.toNat w := fun i c hq => by simp [Instr.sliceBound, asIntOf, h0, show l ≤ (n : Int) by omega]
    have hc : hh ≤ (cap : Int) := by omega
    rcases hl with ⟨rfl, rfl⟩ | ⟨i, rfl⟩ <;> rcases hhh with ⟨rfl, rfl⟩ | ⟨j, rfl⟩
    · simp [Instr.sliceAt, run_underlying ht, Instr.slice, Instr.sliceBounds, hz]
    · simp [Instr.sliceAt, run_underlying ht, Instr.slice, Instr.sliceBounds, hz, b1 _ _ _ hc]
    · simp [Instr.sliceAt, run_underlying ht, Instr.slice, Instr.sliceBounds, hz, b3 _ _ rfl]
    · simp [Instr.sliceAt, run_underlying ht, Instr.slice, Instr.sliceBounds, hz, b1 _ _ _ hc, b2]
  have opt : ∀ (o : Option Operand) (d : Int) (kk : Int → Prop), optI g o d kk → ∃ n, kk n ∧ (o.map a.eval = none ∧ n = d ∨ ∃ i, o.map a.eval = some (.int i n)) := by
    intro o d kk h
    unfold optI at h
    split at h
    · exact ⟨d, h, .inl ⟨rfl, rfl⟩⟩
    · rename_i x
      have hx := ev x
      split at h
      · rename_i i m hp
        rw [hp] at hx
        have hx := rep3_int hx
        exact ⟨m, h, .inr ⟨i, by simp [hx]⟩⟩
      · exact h.elim
  obtain ⟨l, h1, hl⟩ := opt _ _ _ h
  obtain ⟨hh, ⟨h2, h3, h4, hk⟩, hhi⟩ := opt _ _ _ h1
  have e1 : ((hh.toNat : Nat) : Int) = hh := Int.toNat_of_nonneg (by omega)
  have e2 : ((l.toNat : Nat) : Int) = l := Int.toNat_of_nonneg h2
  refine ⟨l.toNat, hh.toNat, by omega, by omega, by rw [e1, e2]; exact hk, key _ _ l hh hl hhi h2 h3 h4⟩

theorem flat_take {es : List (List PV)} {sz : Nat} (h : ∀ x ∈ es, x.length = sz) : ∀ n, (es.take n).flatten = es.flatten.take (n * sz) := by
  induction es with
  | nil => intro n; simp
  | cons x es ih =>
    intro n
    have hx := h x (by simp)
    cases n with
    | zero => simp
    | succ n =>
      simp only [List.take_succ_cons, List.flatten_cons, ih (fun y hy => h y (by simp [hy])) n]
      rw [List.take_append, Nat.succ_mul, List.take_of_length_le (l := x) (by omega), show n * sz + sz - x.length = n * sz by omega]

/-- A row is cut, under another name; the old name is dead. -/
theorem trunc_ok (hw : WOk rd L s w) (hg : Grows F rd L s w) {id new e sz h c : Nat} {es : List (List PV)} {ad : Option Addr} (hs : s id = some (.row e sz es false)) (hn : s new = none) (hid : new % 1000 ≠ 500) (hh : h ≤ es.length)
    (hv : L.sv id = .slice ad es.length c) : Stp F rd L s rd (L.setSv new (.slice ad h c)) (ov [(new, .row e sz (es.take h) false), (id, .dead)] s) w := by
  have hne : new ≠ id := fun h => by rw [h, hs] at hn; cases hn
  have hle1 : ObjLe L s L (ov [(id, .dead)] s) := by
    intro i o hi
    by_cases hii : i = id
    · subst hii; exact ⟨_, ov_at, .inl rfl⟩
    · obtain ⟨o2, q1, q2⟩ := ObjLe.refl L s i o hi
      exact ⟨o2, by rw [ov_at_ne hii]; exact q1, q2⟩
  have h1 : Stp F rd L s rd L (ov [(id, .dead)] s) w := chg_ok hw hg (fun _ _ _ => rfl) (fun _ _ => ⟨rfl, rfl⟩) (fun _ _ _ _ => rfl) hle1 (fun _ _ h => by cases h) (fun _ _ _ _ h => by cases h)
    (fun b hb => by simp [blkOf, ov_at] at hb) rfl rfl (OutLe.refl _) (Nat.le_refl _) (fun _ _ _ => rfl) (fun _ => ⟨⟨rfl, rfl⟩, fun _ _ _ _ h => by cases h⟩)
  obtain ⟨xs, k1, k2, k3, k4⟩ := hw.row _ _ _ _ _ hs
  have hs1 : ov [(id, .dead)] s new = none := by rw [ov_at_ne hne]; exact hn
  have hsv : (L.setSv new (.slice ad h c)).sv new = .slice ad h c := if_pos rfl
  have hblk : (Value.slice ad h c).ownBlock = (L.sv id).ownBlock := by rw [hv]; cases ad <;> rfl
  have hmul : h * sz ≤ es.length * sz := Nat.mul_le_mul_right _ hh
  have h2 : Stp F rd L (ov [(id, .dead)] s) rd (L.setSv new (.slice ad h c)) (ov [(new, .row e sz (es.take h) false)] (ov [(id, .dead)] s)) w := by
    refine chg_ok h1.ok h1.gr (fun _ _ _ => rfl) (L.setSv_ne new _) (fun _ _ _ _ => rfl) (objLe_new hs1 (L.setSv_ne new _)) (fun _ _ h => by cases h) ?_ ?_ rfl rfl (OutLe.refl _) (Nat.le_refl _) (fun _ _ _ => rfl) (fun h => absurd (F.pin5 _ h) hid)
    · intro e' sz' es' fr' he
      cases he
      rw [hsv, hblk]
      refine ⟨xs.take (h * sz), ⟨by rw [List.length_take, k1.1, List.length_take]; rw [Nat.min_eq_left hmul, Nat.min_eq_left hh], ?_⟩, by rw [flat_take k3]; exact k2.take _, fun x hx => k3 x (List.mem_of_mem_take hx), fun b hb p v hp hpb => by cases (k4 b hb p v hp hpb).1⟩
      rw [List.length_take, Nat.min_eq_left hh]
      rcases k1.2 with ⟨q1, q2⟩ | ⟨g, cap, cur, q1, q2, q3, q4, q5, q6, q7⟩
      · rw [hv] at q1; simp only [Value.slice.injEq] at q1; obtain ⟨rfl, _, rfl⟩ := q1; exact .inl ⟨by rw [show h = 0 by omega], by omega⟩
      · rw [hv] at q1; simp only [Value.slice.injEq, true_and] at q1; obtain ⟨rfl, rfl⟩ := q1
        refine .inr ⟨g, c, cur, rfl, q2, q3, by omega, q5, q6, ?_⟩
        rw [← q7, List.take_take, Nat.min_eq_left hmul]
    · intro b hb
      simp only [blkOf, ov_at, hsv, hblk] at hb
      have hb' : blkOf L s id = some b := by simp only [blkOf, hs]; exact hb
      refine ⟨fun i hi hbi => ?_, hg.own id b hb'⟩
      by_cases hii : i = id
      · subst hii; simp [blkOf, ov_at] at hbi
      · rw [blkOf_ov_ne hii ⟨rfl, rfl⟩] at hbi
        exact hii (hw.inj i id b hbi hb')
  have := h1.trans h2
  rwa [← ov_append] at this

theorem op_slice (hT : TabOK P T) {g : Nat → PV} {a : Act} (hrep : ∀ t, rep3 rd L s (g t) (a.tmps.getD t undef)) (hw : WOk rd L s w) (hg : Grows F rd L s w) {o : Oper} {t : TypeId} {x : Operand} {lo hi : Option Operand} (ho : o.op = .slice t x lo hi none) {k : K}
    (h : opVC T o g s k) : OpRes P F rd L s w a o k := by
  unfold opVC at h
  rw [ho] at h
  dsimp only at h
  have ev := evo_rep hrep
  have hx := ev x
  split at h
  · rename_i e n ag z eq hl
    have hte := (hT _ _ hl).ti
    split at h
    · rename_i r hle
      obtain ⟨i, zz, hi', hsz, hpos, _⟩ := (hT _ _ hle).info
      have run1 : ∀ v, (Instr.sliceAt t (a.eval x) (lo.map a.eval) (hi.map a.eval) none).run P w = .ok v w → (execOp a.eval o).run P w = .ok (.value v) w := by
        intro v hr
        simp only [execOp, ho, Option.map_none, Sem.run_bind, hr, Result.andThen]; rfl
      split at h
      · rename_i own sz es hp
        obtain ⟨rfl, h⟩ := h
        rw [hp] at hx
        obtain ⟨xs, ad, cap, hv, _, _, hcap, _⟩ := sl_flat hx
        obtain ⟨l, hh, h1, h2, h3, hr⟩ := slice_run (w := w) (ad := ad) hte ⟨i, hi', hsz⟩ ev hcap h
        rw [hv] at hx
        refine OpRes.pure hw hg h3 (run1 _ (by rw [hv]; exact hr)) (rep3_of_P ?_)
        simpa using (sub_sl hx l hh h1 h2).2.2
      · rename_i hp
        rw [hp] at hx
        have hv : a.eval x = .slice none 0 0 := by generalize a.eval x = v at hx; cases hx; rfl
        obtain ⟨l, hh, h1, h2, h3, hr⟩ := slice_run (w := w) (ad := none) (n := 0) (cap := 0) hte ⟨i, hi', hsz⟩ ev (Nat.le_refl _) h
        have h0 : hh = 0 := by omega
        have h00 : l = 0 := by omega
        subst h0
        subst h00
        exact OpRes.pure hw hg h3 (run1 _ (by rw [hv]; exact hr)) (.nils)
      · rename_i id m hp
        rw [hp] at hx
        rcases h with h | h
        · obtain ⟨q, u, rd1, h1, hu, hst, hq⟩ := share1_ok (p := .ls id m) (v := a.eval x) (Fz.refl s) hw hg hx h
          split at h1
          · rename_i own sz es
            obtain ⟨rfl, h1⟩ := h1
            obtain ⟨xs, ad, cap, hv, _, _, hcap, _⟩ := sl_flat hq
            obtain ⟨l, hh, h3, h4, h5, hr⟩ := slice_run (w := w) (ad := ad) hte ⟨i, hi', hsz⟩ ev hcap h1
            rw [hv] at hq
            refine ⟨_, _, rd1, L, w, _, _, h5, run1 _ (by rw [hv]; exact hr), .inl rfl, rep3_of_P ?_, hst⟩
            simpa using (sub_sl hq l hh h3 h4).2.2
          · exact h1.elim
        · split at h
          · rename_i e' sz es hs
            obtain ⟨rfl, rfl, h⟩ := h
            obtain ⟨xs, k1, k2, k3, k4⟩ := hw.row _ _ _ _ _ hs
            have hxv := hx.1 _ _ _ _ hs rfl
            obtain ⟨ad, cap, hv, hcap, had⟩ : ∃ ad cap, L.sv id = .slice ad es.length cap ∧ es.length ≤ cap ∧ ((ad = none ∧ cap = 0) ∨ ∃ gb, ad = some ⟨gb, 0, none⟩) := by
              rcases k1.2 with ⟨q1, q2⟩ | ⟨gb, cap, cur, q1, _, _, q2, _⟩
              · exact ⟨none, 0, by rw [q1, q2], by omega, .inl ⟨rfl, rfl⟩⟩
              · exact ⟨_, _, q1, q2, .inr ⟨gb, rfl⟩⟩
            obtain ⟨l, hh, h3, h4, h5, hr⟩ := slice_run (w := w) (ad := ad) hte ⟨i, hi', hsz⟩ ev hcap h
            have hrun := run1 _ (by rw [hxv, hv]; exact hr)
            rcases h5 with ⟨he, hk⟩ | ⟨he, hnew, hk⟩
            · have hhe : hh = es.length := by omega
              subst hhe
              simp only [Int.toNat_natCast] at hk
              refine OpRes.pure hw hg hk hrun ⟨fun e'' sz'' es'' fr'' hs' hn' hlo => ?_, fun e'' sz'' es'' fr'' hs' => ?_, ⟨_, _, rfl⟩, by rw [hs]; simp⟩
              · rw [hs] at hs'; cases hs'
                rcases had with ⟨rfl, rfl⟩ | ⟨gb, rfl⟩
                · omega
                · refine ⟨gb, cap - l, by rw [hv]; rfl, ?_⟩
                  rw [if_neg (by omega)]
                  simp [Addr.add_lit]
              · rw [hs] at hs'; cases hs'; exact Nat.le_refl _
            · have hl0 : l = 0 := by omega
              subst hl0
              simp only [Int.toNat_natCast] at hk
              have hval : Value.slice (if cap = 0 then ad else ad.map (·.add (0 * r.n))) (hh - 0) (cap - 0) = .slice ad hh cap := by
                rcases had with ⟨rfl, rfl⟩ | ⟨gb, rfl⟩
                · rfl
                · simp [Addr.add_lit]
              rw [hval] at hrun
              have hst := trunc_ok hw hg hs hnew (rb_ne _) h4 hv
              have hsvn : (L.setSv (rb o.dst) (.slice ad hh cap)).sv (rb o.dst) = .slice ad hh cap := by simp only [Lay.setSv, if_true]
              refine ⟨_, _, rd, _, w, _, _, hk, hrun, .inl rfl, ?_, hst⟩
              have hat : ov [(rb o.dst, Obj.row e' r.n (es.take hh) false), (id, .dead)] s (rb o.dst) = some (.row e' r.n (es.take hh) false) := by simp only [ov_cons, if_true]
              have hrep1 : rep1 rd (L.setSv (rb o.dst) (.slice ad hh cap)) (ov [(rb o.dst, Obj.row e' r.n (es.take hh) false), (id, .dead)] s) (.ls (rb o.dst) hh) (.slice ad hh cap) := by
                refine ⟨fun e'' sz'' es'' fr'' hs' hn' => hsvn.symm, fun e'' sz'' es'' fr'' hs' => ?_, ⟨_, _, rfl⟩, by rw [hat]; simp⟩
                rw [hat] at hs'
                cases hs'
                rw [List.length_take, Nat.min_eq_left h4]; exact Nat.le_refl _
              exact hrep1
          · exact h.elim
      · exact h.elim
    · exact h.elim
  · rename_i n ag z eq hl
    have hte := (hT _ _ hl).ti
    split at h
    · rename_i b hp
      rw [hp] at hx
      have hv := rep3_str hx
      have opt : ∀ (o : Option Operand) (d : Int) (kk : Int → Prop), optI g o d kk → ∃ n, kk n ∧ (o.map a.eval = none ∧ n = d ∨ ∃ i, o.map a.eval = some (.int i n)) := by
        intro o d kk h
        unfold optI at h
        split at h
        · exact ⟨d, h, .inl ⟨rfl, rfl⟩⟩
        · rename_i x
          have hx := ev x
          split at h
          · rename_i i m hp
            rw [hp] at hx
            have hx := rep3_int hx
            exact ⟨m, h, .inr ⟨i, by simp [hx]⟩⟩
          · exact h.elim
      obtain ⟨l, h1, hlo⟩ := opt _ _ _ h
      obtain ⟨hh, ⟨h2, h3, h4, hk⟩, hhi⟩ := opt _ _ _ h1
      refine OpRes.pure hw hg hk ?_ (.sc rfl)
      have e1 : ((hh.toNat : Nat) : Int) = hh := Int.toNat_of_nonneg (by omega)
      have b1 : ∀ i c, (Instr.sliceBound (.int i hh) b.size c).run P w = .ok hh.toNat w := fun i c => by simp [Instr.sliceBound, asIntOf, h4, show 0 ≤ hh by omega]
      have b2 : ∀ i c, (Instr.sliceBound (.int i l) hh.toNat c).run P w = .ok l.toNat w := fun i c => by simp [Instr.sliceBound, asIntOf, h2, e1, h3]
      have b3 : ∀ i c, hh = b.size → (Instr.sliceBound (.int i l) b.size c).run P w = .ok l.toNat w := fun i c hq => by simp [Instr.sliceBound, asIntOf, h2, show l ≤ (b.size : Int) by omega]
      rcases hlo with ⟨q1, rfl⟩ | ⟨i, q1⟩ <;> rcases hhi with ⟨q2, rfl⟩ | ⟨j, q2⟩
      · simp [execOp, ho, hv, q1, q2, Instr.sliceAt, run_underlying hte, Instr.slice, Instr.sliceBounds]
      · simp [execOp, ho, hv, q1, q2, Instr.sliceAt, run_underlying hte, Instr.slice, Instr.sliceBounds, b1]
      · simp [execOp, ho, hv, q1, q2, Instr.sliceAt, run_underlying hte, Instr.slice, Instr.sliceBounds, b3 _ _ rfl]
      · simp [execOp, ho, hv, q1, q2, Instr.sliceAt, run_underlying hte, Instr.slice, Instr.sliceBounds, b1, b2]
    · exact h.elim
  · exact h.elim

theorem op_indexAddr (hT : TabOK P T) {g : Nat → PV} {a : Act} (hrep : ∀ t, rep3 rd L s (g t) (a.tmps.getD t undef)) (hw : WOk rd L s w) (hg : Grows F rd L s w) {o : Oper} {t : TypeId} {x y : Operand} (ho : o.op = .indexAddr t x y) {k : K}
    (h : opVC T o g s k) : OpRes P F rd L s w a o k := by
  unfold opVC at h
  rw [ho] at h
  dsimp only at h
  have hx := evo_rep hrep x
  have hy := evo_rep hrep y
  split at h
  · rename_i e n' ag z eq i1 n hl hq
    rw [hq] at hy
    have hy := rep3_int hy
    have hte := (hT _ _ hl).ti
    split at h
    · rename_i r hle
      obtain ⟨i, zz, hi', hsz, hpos, _⟩ := (hT _ _ hle).info
      have hz := run_sizeOf_row (P := P) (w := w) ⟨i, hi', hsz⟩
      have run1 : ∀ (b : Addr) (m cap : Nat), a.eval x = .slice (some b) m cap → 0 ≤ n → n < m → (execOp a.eval o).run P w = .ok (.value (.pointer (some (b.add (n.toNat * r.n))))) w := by
        intro b m cap hv h0 h1
        simp [execOp, ho, hv, hy, Instr.indexAt, asIntOf, run_underlying hte, h0, h1, hz]
      split at h
      · rename_i own sz es hp
        obtain ⟨rfl, h0, el, hel, hk⟩ := h
        rw [hp] at hx
        have hlt : n.toNat < es.length := (List.getElem?_eq_some_iff.1 hel).1
        have hx : RepP rd (.sl own r.n es) (a.eval x) := hx
        generalize hav : a.eval x = v at hx
        generalize hpp : PV.sl own r.n es = pp at hx
        cases hx with
        | sl hcap hmax hnone ha hsz hrd hrep =>
          rename_i own' sz' es' ad cap b q u
          cases hpp
          have hne : es ≠ [] := by rintro rfl; simp at hlt
          rw [ha hne] at hav
          refine OpRes.pure hw hg hk (run1 _ _ _ hav h0 (by omega)) ?_
          rw [Addr.add_lit]
          refine .rp (u := u n.toNat) (fun j c hc => ?_) (fun j c hc => hrep _ _ _ _ hel hc)
          rw [Nat.add_assoc]
          exact hrd _ _ _ _ hel hc
        | _ => cases hpp
      · rename_i id m hp
        rw [hp] at hx
        split at h
        · rename_i e' sz es fr hs
          obtain ⟨rfl, rfl, h0, h1, hk⟩ := h
          have hxv := hx.1 _ _ _ _ hs rfl
          obtain ⟨xs, k1, k2, k3, k4⟩ := hw.row _ _ _ _ _ hs
          rcases k1.2 with ⟨_, hn⟩ | ⟨gb, cap, cur, hsv, _⟩
          · omega
          · rw [hsv] at hxv
            refine OpRes.pure hw hg hk (run1 _ _ _ hxv h0 h1) ⟨fun e'' sz'' es'' fr'' hs' hn' => ?_, fun e'' sz'' es'' fr'' hs' => ?_, ⟨_, rfl⟩, by rw [hs]; simp⟩
            · rw [hs] at hs'
              cases hs'
              exact ⟨gb, by rw [hsv]; rfl, by rw [Addr.add_lit]; simp⟩
            · rw [hs] at hs'; cases hs'; exact Nat.le_refl _
        · exact h.elim
      · rename_i id m lo hp
        rw [hp] at hx
        split at h
        · rename_i e' sz es fr hs
          obtain ⟨rfl, rfl, h0, h1, hk⟩ := h
          obtain ⟨b, c, hb, hv⟩ := hx.1 _ _ _ _ hs rfl (by omega)
          refine OpRes.pure hw hg hk (run1 _ _ _ hv h0 (by omega)) ⟨fun e'' sz'' es'' fr'' hs' hn' => ?_, fun e'' sz'' es'' fr'' hs' => ?_, ⟨_, rfl⟩, by rw [hs]; simp⟩
          · rw [hs] at hs'
            cases hs'
            exact ⟨b, hb, by rw [Addr.add_lit, Nat.add_mul]; simp⟩
          · rw [hs] at hs'; cases hs'; exact Nat.le_refl _
        · exact h.elim
      · exact h.elim
    · exact h.elim
  · exact h.elim

theorem op_index (hT : TabOK P T) {g : Nat → PV} {a : Act} (hrep : ∀ t, rep3 rd L s (g t) (a.tmps.getD t undef)) (hw : WOk rd L s w) (hg : Grows F rd L s w) {o : Oper} {t : TypeId} {x y : Operand} (ho : o.op = .index t x y) {k : K}
    (h : opVC T o g s k) : OpRes P F rd L s w a o k := by
  unfold opVC at h
  rw [ho] at h
  dsimp only at h
  have hx := evo_rep hrep x
  have hy := evo_rep hrep y
  split at h
  · rename_i n' ag z eq b i1 n hl hp hq
    rw [hp] at hx
    rw [hq] at hy
    have hx := rep3_str hx
    have hy := rep3_int hy
    have hte := (hT _ _ hl).ti
    obtain ⟨h0, c, hc, hk⟩ := h
    exact OpRes.pure hw hg hk (by simp [execOp, ho, hx, hy, Instr.index, asIntOf, run_underlying hte, h0, hc]) (.sc rfl)
  · rename_i len m ag' n' ag z eq cs i1 n hl hp hq
    rw [hp] at hx
    rw [hq] at hy
    obtain ⟨vs, hv, hvs, hone⟩ := hx
    have hy := rep3_int hy
    obtain ⟨_, e, ie, d, he, hie, hsize, hd, hag⟩ := (hT _ _ hl).ti
    obtain ⟨h0, h1, h⟩ := h
    have h1n := loadV_one h
    obtain ⟨pv, hk2, hle, h8⟩ := loadV_ok h (hvs.drop (n.toNat * m))
    have ha := run_isAgg_row (w := w) ⟨d, hd, hag⟩
    have hz := run_sizeOf_row (P := P) (w := w) ⟨ie, hie, hsize⟩
    refine OpRes.pure hw hg hk2 (val := if ag' then .agg ((vs.drop (n.toNat * m)).take m).toArray else ((vs.drop (n.toNat * m)).take m).headD undef) ?_ ?_
    · simp only [execOp, ho, hv, hy, Instr.index, asIntOf]
      cases hag : ag' with
      | true =>
        rw [hag] at ha
        simp [run_underlying he, h0, h1, hz, part, ha]
      | false =>
        rw [hag] at ha
        have := h1n hag
        subst this
        simp [run_underlying he, h0, h1, hz, part, ha]
        cases hd : vs.drop n.toNat with
        | nil => simp only [Nat.mul_one] at hle; rw [hd] at hle; simp at hle
        | cons v r =>
          have : vs[n.toNat]? = some v := by
            have := congrArg (·[0]?) hd
            simpa [List.getElem?_drop] using this
          simp [this]
    · cases hag : ag' with
      | true => rw [hag] at h8; obtain ⟨l, rfl, _, hl2⟩ := h8; exact ⟨_, rfl, hl2, fun u hu => hone u (List.mem_of_mem_drop (List.mem_of_mem_take hu))⟩
      | false => rw [hag] at h8; exact rep3_of_rep2 (rep2_of_rep1 h8)
  · exact h.elim

theorem op_small (hT : TabOK P T) {g : Nat → PV} {a : Act} (hrep : ∀ t, rep3 rd L s (g t) (a.tmps.getD t undef)) (hw : WOk rd L s w) (hg : Grows F rd L s w) {o : Oper} {b : Builtin} {args : Array Operand} {tys : Array TypeId} (hb : b = .len ∨ b = .min ∨ b = .max)
    (ho : o.op = .call { callee := .builtin b, args := args, argTypes := tys }) {k : K} (h : opVC T o g s k) : OpRes P F rd L s w a o k := by
  unfold opVC at h
  rw [ho] at h
  have ev := evo_rep hrep
  rcases hb with rfl | rfl | rfl
  · dsimp only at h
    split at h
    · rename_i x t hargs htys
      have hargs : args = #[x] := by rw [← Array.toList_inj]; simpa using hargs
      have htys : tys = #[t] := by rw [← Array.toList_inj]; simpa using htys
      subst hargs
      subst htys
      have hx := ev x
      split at h
      · rename_i hl hp
        rw [hp] at hx
        have hte := (hT _ _ hl).ti
        obtain ⟨xs, ad, cap, hv, _⟩ := sl_flat hx
        exact OpRes.pure hw hg h (by simp [execOp, ho, resolve, invoke, builtin, Builtin.len_, hv, run_underlying hte, goInt]) (.sc rfl)
      · rename_i hl hp
        rw [hp] at hx
        have hte := (hT _ _ hl).ti
        have hv : a.eval x = .slice none 0 0 := by generalize a.eval x = v at hx; cases hx; rfl
        exact OpRes.pure hw hg h (by simp [execOp, ho, resolve, invoke, builtin, Builtin.len_, hv, run_underlying hte, goInt]) (.sc rfl)
      · rename_i hl hp
        rw [hp] at hx
        have hte := (hT _ _ hl).ti
        obtain ⟨_, _, ⟨ad, c, hv⟩, _⟩ := hx
        exact OpRes.pure hw hg h (by simp [execOp, ho, resolve, invoke, builtin, Builtin.len_, hv, run_underlying hte, goInt]) (.sc rfl)
      · rename_i hl hp
        rw [hp] at hx
        have hte := (hT _ _ hl).ti
        obtain ⟨_, _, ⟨ad, c, hv⟩, _⟩ := hx
        exact OpRes.pure hw hg h (by simp [execOp, ho, resolve, invoke, builtin, Builtin.len_, hv, run_underlying hte, goInt]) (.sc rfl)
      · rename_i hl hp
        rw [hp] at hx
        have hte := (hT _ _ hl).ti
        have hv := rep3_str hx
        exact OpRes.pure hw hg h (by simp [execOp, ho, resolve, invoke, builtin, Builtin.len_, hv, run_underlying hte, goInt]) (.sc rfl)
      · exact h.elim
    · exact h.elim
  · dsimp only at h
    split at h
    · rename_i i j hargs
      obtain ⟨x, y, hxy, hp, hq⟩ : ∃ x y, args.toList = [x, y] ∧ evo g x = .sc (.int .i64 i) ∧ evo g y = .sc (.int .i64 j) := by
        cases hl : args.toList with
        | nil => rw [hl] at hargs; simp at hargs
        | cons x r => cases r with
          | nil => rw [hl] at hargs; simp at hargs
          | cons y r => cases r with
            | cons z r => rw [hl] at hargs; simp at hargs
            | nil => rw [hl] at hargs; simp at hargs; exact ⟨x, y, rfl, hargs.1, hargs.2⟩
      have hargs : args = #[x, y] := by rw [← Array.toList_inj]; simpa using hxy
      subst hargs
      have hx := ev x
      have hy := ev y
      rw [hp] at hx
      rw [hq] at hy
      have hx := rep3_int hx
      have hy := rep3_int hy
      refine OpRes.pure hw hg h (by simp [execOp, ho, resolve, invoke, builtin, Builtin.min_, Builtin.min2, hx, hy]; rfl) ?_
      rw [show min i j = if j < i then j else i by omega]
      exact .sc rfl
    · exact h.elim
  · dsimp only at h
    split at h
    · rename_i i j hargs
      obtain ⟨x, y, hxy, hp, hq⟩ : ∃ x y, args.toList = [x, y] ∧ evo g x = .sc (.int .i64 i) ∧ evo g y = .sc (.int .i64 j) := by
        cases hl : args.toList with
        | nil => rw [hl] at hargs; simp at hargs
        | cons x r => cases r with
          | nil => rw [hl] at hargs; simp at hargs
          | cons y r => cases r with
            | cons z r => rw [hl] at hargs; simp at hargs
            | nil => rw [hl] at hargs; simp at hargs; exact ⟨x, y, rfl, hargs.1, hargs.2⟩
      have hargs : args = #[x, y] := by rw [← Array.toList_inj]; simpa using hxy
      subst hargs
      have hx := ev x
      have hy := ev y
      rw [hp] at hx
      rw [hq] at hy
      have hx := rep3_int hx
      have hy := rep3_int hy
      refine OpRes.pure hw hg h (by simp [execOp, ho, resolve, invoke, builtin, Builtin.max_, Builtin.max2, hx, hy]; rfl) ?_
      rw [show max i j = if j > i then j else i by omega]
      exact .sc rfl
    · exact h.elim
end
section
variable {P : Program} {T : Tab} {F : Fr} {rd : Rd} {L : Lay} {s s1 : Objs} {w : World}

theorem freezeB_ok (hw : WOk rd L s w) (hg : Grows F rd L s w) {id e : Nat} {cs l : List PV} {fr : Bool} {vs : List Value} (hs : s id = some (.box cs fr)) (hh : w.heap[L.bl id]? = some (.cells vs.toArray e (0, 0))) (hl : All2 (RepP rd) l vs) :
    ∃ rd1, Stp F rd L s rd1 L (ov [(id, .box l true)] s) w ∧ RepP rd1 (.rp l) (.pointer (some ⟨L.bl id, 0, none⟩)) := by
  have hone : ∀ u ∈ vs, u.oneCell' = true := fun u hu => by obtain ⟨p, hp⟩ := hl.any u hu; exact hp.oneCell
  have hble : ∀ i, blkOf L (ov [(id, .box l true)] s) i = blkOf L s i := by
    intro i
    by_cases hi : i = id
    · subst hi; simp [blkOf, ov_at, hs]
    · exact blkOf_ov_ne hi ⟨rfl, rfl⟩
  have hbid : blkOf L s id = some (L.bl id) := by simp [blkOf, hs]
  have hle : ObjLe L s L (ov [(id, .box l true)] s) := by
    intro i o hi
    by_cases hii : i = id
    · subst hii
      rw [hs] at hi
      cases hi
      exact ⟨_, ov_at, .inr (.inl ⟨_, _, _, _, rfl, rfl, rfl⟩)⟩
    · obtain ⟨o2, q1, q2⟩ := ObjLe.refl L s i o hi
      exact ⟨o2, by rw [ov_at_ne hii]; exact q1, q2⟩
  have hcell : ∀ (j : Nat) v, vs[j]? = some v → w.cell? ⟨L.bl id, j, none⟩ = some v := fun j v hv => by rw [cell_of_row w _ _ _ _ _ hh]; simpa using hv
  refine ⟨frz rd (L.bl id) vs.length vs, ⟨frz_le _ _ _ _, hle, ⟨?_, ?_, ?_, ?_⟩, ?_⟩, ?_⟩
  · intro p v h
    rcases frz_new h with h | ⟨hb, _, hsp, h2⟩
    · exact hw.hrd p v h
    · obtain ⟨pb, po, ps⟩ := p
      simp only at hb hsp h2
      subst hb
      subst hsp
      exact ⟨hcell _ _ h2, hone v (List.mem_of_getElem? h2), rfl⟩
  · intro i cs' f h
    by_cases hi : i = id
    · subst hi
      rw [ov_at] at h
      cases h
      refine ⟨vs, e, hh, hl.imp fun _ _ h => rep1_of_P (h.mono (frz_le _ _ _ _)), hone, (fun hf => by cases hf), fun _ j c v hc hv => ?_⟩
      obtain ⟨v', h1, h2⟩ := hl.get hc
      rw [hv] at h1
      cases h1
      refine ⟨?_, h2.mono (frz_le _ _ _ _)⟩
      unfold frz
      split
      · rename_i u hu
        have := (hw.hrd _ _ hu).1
        rw [hcell _ _ hv] at this
        exact this.symm
      · rw [if_pos ⟨rfl, (List.getElem?_eq_some_iff.1 hv).1, rfl⟩]; exact hv
    · rw [ov_at_ne hi] at h
      obtain ⟨us, e', h1, h2, h3, h4, h5⟩ := hw.box i cs' f h
      refine ⟨us, e', h1, h2.imp fun _ _ => rep1_mono (frz_le _ _ _ _) hle, h3, fun hf p v hp => ?_, fun hf j c v hc hv => ?_⟩
      · rcases frz_new hp with hp | ⟨hb, _⟩
        · exact h4 hf p v hp
        · intro hbb
          exact hi (hw.inj i id (L.bl id) (by simp [blkOf, h, ← hbb, hb]) hbid)
      · exact ⟨frz_le _ _ _ _ _ _ (h5 hf j c v hc hv).1, (h5 hf j c v hc hv).2.mono (frz_le _ _ _ _)⟩
  · intro i e' sz' es' f h
    by_cases hi : i = id
    · subst hi; rw [ov_at] at h; cases h
    · rw [ov_at_ne hi] at h
      obtain ⟨ys, k1, k2, k3, k4⟩ := hw.row i e' sz' es' f h
      refine ⟨ys, k1, k2.imp fun _ _ h => h.mono (frz_le _ _ _ _), k3, fun b' hb' p v hp hpb => ?_⟩
      rcases frz_new hp with hp | ⟨hpb', _⟩
      · exact k4 b' hb' p v hp hpb
      · exact absurd (hw.inj i id (L.bl id) (by simp [blkOf, h, hb', ← hpb, hpb']) hbid) hi
  · intro i j b hi hj
    rw [hble] at hi hj
    exact hw.inj i j b hi hj
  · refine ⟨hg.os, hg.tape, hg.output, hg.size, hg.block, fun p v h => frz_le _ _ _ _ _ _ (hg.le p v h), fun p v h => ?_, fun i b h => hg.own i b (by rwa [hble] at h), hg.pins, fun i hi e sz es fr h => ?_⟩
    · rcases frz_new h with h | ⟨hb, _⟩
      · exact hg.new p v h
      · rw [hb]; exact .inr (hg.own id _ hbid)
    · by_cases hii : i = id
      · subst hii; rw [ov_at] at h; cases h
      · rw [ov_at_ne hii] at h; exact hg.pb i hi _ _ _ _ h
  · refine .rp (u := fun j => vs.getD j undef) (fun j c hc => ?_) (fun j c hc => ?_)
    · obtain ⟨v, hv, _⟩ := hl.get hc
      rw [Nat.zero_add]
      unfold frz
      split
      · rename_i u hu
        have := (hw.hrd _ _ hu).1
        rw [hcell _ _ hv] at this
        cases this
        simp [List.getD_eq_getElem?_getD, hv]
      · rw [if_pos ⟨rfl, (List.getElem?_eq_some_iff.1 hv).1, rfl⟩]
        simp [List.getD_eq_getElem?_getD, hv]
    · obtain ⟨v, hv, hr⟩ := hl.get hc
      simp only [List.getD_eq_getElem?_getD, hv, Option.getD_some]
      exact hr.mono (frz_le _ _ _ _)

theorem box_fz (hw : WOk rd L s w) {id : Nat} {cs : List PV} {fr : Bool} (hs : s id = some (.box cs fr)) {u : List (Nat × Obj)} (hu : FzU s u) : ov u s id = some (.box cs fr) := by
  simp only [ov]
  cases hl : look u id with
  | none => exact hs
  | some o => obtain ⟨e, sz, es, f, h1, _⟩ := hu id o hl; rw [hs] at h1; cases h1

theorem capt_ok {ps : List PV} : ∀ {rd : Rd} {s : Objs} {vs : List Value} (_ : WOk rd L s w) (_ : Grows F rd L s w) (_ : All2 (rep3 rd L s) ps vs) {k : List PV → List (Nat × Obj) → Prop} (_ : capt s ps k),
    ∃ qs u rd1, k qs u ∧ Stp F rd L s rd1 L (ov u s) w ∧ All2 (RepP rd1) qs vs := by
  induction ps with
  | nil => intro rd s vs hw hg hp k h; cases hp; exact ⟨[], [], rd, h, Stp.refl hw hg, .nil⟩
  | cons p ps ih =>
    intro rd s vs hw hg hp k h
    cases hp with
    | cons hp hps =>
      rename_i v vs
      unfold capt at h
      split at h
      · rename_i id
        split at h
        · rename_i cs fr hs
          obtain ⟨xs, e, h1, h2, h3, _⟩ := hw.box _ _ _ hs
          obtain ⟨l, u, rd1, k1, hu, hst, hl⟩ := shareL_ok (Fz.refl s) hw hg h2 h
          have hs1 := box_fz hw hs hu
          obtain ⟨rd2, hst2, hr⟩ := freezeB_ok hst.ok hst.gr hs1 h1 hl
          have hst3 := hst.trans hst2
          rw [← ov_append] at hst3
          obtain ⟨qs, u2, rd3, k2, hst4, hqs⟩ := ih hst3.ok hst3.gr (hps.imp fun _ _ => rep3_mono hst3.le hst3.obj) k1
          refine ⟨_, _, rd3, k2, ?_, .cons ?_ hqs⟩
          · rw [ov_append]; exact hst3.trans hst4
          · rw [hp.1 ⟨_, _, hs⟩]; exact hr.mono hst4.le
        · exact h.elim
      · rename_i hne
        have hp1 : rep1 rd L s p v := by
          cases p with
          | agg l => exact h.elim
          | tup l => exact h.elim
          | _ => exact hp
        obtain ⟨q, u, rd1, k1, hu, hst, hq⟩ := share1_ok (Fz.refl s) hw hg hp1 h
        obtain ⟨qs, u2, rd3, k2, hst4, hqs⟩ := ih hst.ok hst.gr (hps.imp fun _ _ => rep3_mono hst.le hst.obj) k1
        refine ⟨_, _, rd3, k2, ?_, .cons (hq.mono hst4.le) hqs⟩
        rw [ov_append]; exact hst.trans hst4

theorem op_makeFunc {g : Nat → PV} {a : Act} (hrep : ∀ t, rep3 rd L s (g t) (a.tmps.getD t undef)) (hw : WOk rd L s w) (hg : Grows F rd L s w) {o : Oper} {f : FuncId} {first cap : Array Operand} (ho : o.op = .makeFunc (.func f) first cap) {k : K}
    (h : opVC T o g s k) : OpRes P F rd L s w a o k := by
  unfold opVC at h
  rw [ho] at h
  dsimp only at h
  obtain ⟨h0, h⟩ := h
  have h0 : first = #[] := by rw [← Array.toList_inj]; simpa using h0
  subst h0
  have hall : ∀ l : List Operand, All2 (rep3 rd L s) (l.map (evo g)) (l.map a.eval) := by
    intro l
    induction l with
    | nil => exact .nil
    | cons x l ih => exact .cons (evo_rep hrep x) ih
  obtain ⟨qs, u, rd1, k1, hst, hqs⟩ := capt_ok hw hg (hall cap.toList) h
  refine ⟨_, _, rd1, L, w, _, .func (.func f) #[] (cap.map a.eval), k1, ?_, .inl rfl, ?_, hst⟩
  · simp [execOp, ho, Instr.makeFunc]
  · have : cap.map a.eval = (cap.toList.map a.eval).toArray := by rw [← Array.toList_inj]; simp
    rw [this]
    exact .fn hqs.len fun i c v hc hv => by obtain ⟨v', h1, h2⟩ := hqs.get hc; rw [hv] at h1; cases h1; exact h2

theorem setSv_self (L : Lay) (id : Nat) : L.setSv id (L.sv id) = L := by
  cases L; simp only [Lay.setSv]; congr 1; funext q; split
  · rename_i h; rw [h]
  · rfl

theorem op_clear (hT : TabOK P T) {g : Nat → PV} {a : Act} (hrep : ∀ t, rep3 rd L s (g t) (a.tmps.getD t undef)) (hw : WOk rd L s w) (hg : Grows F rd L s w) {o : Oper} {args : Array Operand} {tys : Array TypeId}
    (ho : o.op = .call { callee := .builtin .clear, args := args, argTypes := tys }) {k : K} (h : opVC T o g s k) : OpRes P F rd L s w a o k := by
  unfold opVC at h
  rw [ho] at h
  dsimp only at h
  split at h
  · rename_i x t hargs htys
    have hargs : args = #[x] := by rw [← Array.toList_inj]; simpa using hargs
    have htys : tys = #[t] := by rw [← Array.toList_inj]; simpa using htys
    subst hargs
    subst htys
    split at h
    · rename_i e nn ag zr eq hl
      split at h
      · rename_i r hle
        have hte := (hT _ _ hl).ti
        obtain ⟨i, z, hi, hsz, hpos, hby, hz, hzz, hzs⟩ := (hT _ _ hle).info
        have hx := evo_rep hrep x
        have hzv : (zeroValue e).run P w = .ok z w := by simp [zeroValue, typeInfo, hi, hz]
        have hrun : ∀ v' w', (Builtin.clear_ #[t] o.type #[a.eval x]).run P w = .ok v' w' → (execOp a.eval o).run P w = .ok (.value v') w' := by
          intro v' w' hr
          simp only [execOp, ho, resolve, List.map_toArray, List.map_cons, List.map_nil, Sem.run_bind, invoke, builtin]
          simp only [pure, Sem.run, Result.andThen]
          simp [hr]
        have key : ∀ id n lo : Nat, (∃ ad c, a.eval x = .slice ad (n - lo) c ∧ ∀ e' sz es fr, s id = some (.row e' sz es fr) → n = es.length → lo < n → ∃ b, (L.sv id).ownBlock = some b ∧ ad = some ⟨b, lo * sz, none⟩) →
            (match s id with
            | some (.row e' sz es false) => sz = r.n ∧ n = es.length ∧ lo ≤ n ∧ k (.tup []) [(id, .row e' sz (es.take lo ++ List.replicate (n - lo) r.zero) false)]
            | _ => False) → OpRes P F rd L s w a o k := by
          intro id n lo ⟨ad, c, hav, had⟩ h
          split at h
          · rename_i e' sz es hs
            obtain ⟨rfl, rfl, hlo, hk⟩ := h
            obtain ⟨xs, k1, k2, k3, k4⟩ := hw.row _ _ _ _ _ hs
            have hzl : r.zero.length = r.n := by rw [hzz.len]; simpa using hzs
            have hlen : (es.take lo ++ List.replicate (es.length - lo) r.zero).length = es.length := by simp; omega
            have hall : ∀ y ∈ es.take lo ++ List.replicate (es.length - lo) r.zero, y.length = r.n := fun y hy => by
              rcases List.mem_append.1 hy with h | h
              · exact k3 y (List.mem_of_mem_take h)
              · rw [(List.mem_replicate.1 h).2]; exact hzl
            have hmul : lo * r.n ≤ es.length * r.n := Nat.mul_le_mul_right _ hlo
            have hsub : lo * r.n + (es.length - lo) * r.n = es.length * r.n := by rw [← Nat.add_mul]; congr 1; omega
            have hno : ∀ b, (L.sv id).ownBlock = some b → ∀ p v, rd p = some v → p.block = b → False := fun b hb p v hp hpb => by cases (k4 b hb p v hp hpb).1
            have hle : ObjLe L s (L.setSv id (L.sv id)) (ov [(id, .row e' r.n (es.take lo ++ List.replicate (es.length - lo) r.zero) false)] s) := by
              rw [setSv_self]
              intro i' o' hi'
              by_cases hii : i' = id
              · subst hii
                rw [hs] at hi'
                cases hi'
                exact ⟨_, ov_at, .inr (.inr ⟨_, _, _, _, _, _, _, rfl, rfl, by rw [hlen]; exact Nat.le_refl _, fun _ => rfl⟩)⟩
              · obtain ⟨o2, q1, q2⟩ := ObjLe.refl L s i' o' hi'
                exact ⟨o2, by rw [ov_at_ne hii]; exact q1, q2⟩
            rcases Nat.lt_or_ge lo es.length with hlt | hge
            · obtain ⟨b, hb, rfl⟩ := had _ _ _ _ hs rfl hlt
              rcases k1.2 with ⟨hn, _⟩ | ⟨gb, cap, cur, hsv, _, hh, hnc, hcm, hcs, htake⟩
              · rw [hn] at hb; cases hb
              · have hgb : gb = b := by rw [hsv] at hb; simpa [Value.ownBlock] using hb
                subst hgb
                have hcap : es.length * r.n ≤ cap * r.n := Nat.mul_le_mul_right _ hnc
                generalize hus : (Builtin.zeroCells z.cells (es.length - lo)).toList = us
                have hze : Builtin.zeroCells z.cells (es.length - lo) = (Array.range ((es.length - lo) * r.n)).map (z.cells[· % z.cells.size]!) := by unfold Builtin.zeroCells; rw [hzs]
                have hzall : All2 (RepP rd) ((List.replicate (es.length - lo) r.zero).flatten) us := by
                  rw [← hus, hze]
                  exact (zeros_ok (n := es.length - lo) hzz hzs hpos).imp fun _ _ h => h rd
                have hul : us.length = (es.length - lo) * r.n := by
                  rw [← hzall.len, flat_len (sz := r.n) (fun y hy => by rw [(List.mem_replicate.1 hy).2]; exact hzl), List.length_replicate]
                have hone : ∀ u ∈ us, u.oneCell' = true := fun u hu => by obtain ⟨p, hp⟩ := hzall.any u hu; exact hp.oneCell
                have hst := run_storeCells_at P gb (lo * r.n) e' us 0 cur w hh (by omega) hone
                simp only [Nat.add_zero] at hst
                have hfr := setRow_frame (w := w) (cs := (cur.toList.take (lo * r.n) ++ us ++ cur.toList.drop (lo * r.n + us.length)).toArray) hh
                have hxl : xs.length = es.length * r.n := k1.1
                have hown : (w.setRow gb (cur.toList.take (lo * r.n) ++ us ++ cur.toList.drop (lo * r.n + us.length)).toArray).ownsRow 0 e' r.n (L.sv id) (es.take lo ++ List.replicate (es.length - lo) r.zero).length (xs.take (lo * r.n) ++ us) := by
                  rw [hlen]
                  refine ⟨by simp; omega, .inr ⟨gb, cap, _, hsv, Nat.zero_le _, setRow_heap w _ _ _ e' (0, 0) hh, hnc, hcm, by simp; omega, ?_⟩⟩
                  rw [← htake]
                  apply List.ext_getElem?
                  intro p
                  simp only [List.getElem?_append, List.length_append, List.length_take, List.getElem?_take, List.getElem?_drop, Array.length_toList, hcs, List.length_drop]
                  clear hst hfr hzall hus hze
                  generalize es.length * r.n = A at *
                  generalize lo * r.n = B at *
                  generalize cap * r.n = C at *
                  generalize (es.length - lo) * r.n = D at *
                  (repeat' split) <;> first | rfl | (exfalso; omega) | (congr 1; omega) | (symm; apply List.getElem?_eq_none; omega) | (apply List.getElem?_eq_none; omega)
                have hro := row_ok hw hg (id := id) (fr := false) hown hfr (Nat.le_refl _) (fun b hb' => by cases hb'; simp only [blkOf, hs]; exact hb) (fun b hb' => by rw [hb] at hb'; exact .inl hb')
                  (by rw [List.flatten_append, flat_take k3]; exact (k2.take _).append hzall) hall
                  (fun b hb' p v hp hpb => by cases hb'; exact (hno _ hb p v hp hpb).elim) (fun b hb' _ p v hp hpb => by cases hb'; exact (hno _ hb p v hp hpb).elim) hle (fun hpin => hg.pb id hpin _ _ _ _ hs)
                rw [setSv_self] at hro
                refine ⟨_, _, rd, L, _, _, .tuple #[], hk, hrun _ _ ?_, .inl rfl, ⟨[], rfl, .nil⟩, hro⟩
                rw [hav]
                obtain ⟨m, hm⟩ : ∃ m, es.length - lo = m + 1 := ⟨es.length - lo - 1, by omega⟩
                rw [hm] at hus ⊢
                simp [Builtin.clear_, run_underlying hte, hzv, hus, hst]
            · have hel : lo = es.length := by omega
              subst hel
              have hes : es.take es.length ++ List.replicate (es.length - es.length) r.zero = es := by simp
              rw [hes] at hk hle
              have hov : ov [(id, .row e' r.n es false)] s = s := by
                funext i
                rw [ov_one]
                dsimp only
                split
                · rename_i h; rw [← h, hs]
                · rfl
              refine ⟨_, _, rd, L, w, _, .tuple #[], hk, hrun _ _ ?_, .inl rfl, ⟨[], rfl, .nil⟩, by rw [hov]; exact Stp.refl hw hg⟩
              rw [hav, Nat.sub_self]
              cases ad <;> simp [Builtin.clear_, run_underlying hte]
          · exact h.elim
        generalize hpe : evo g x = pe at h hx
        cases pe with
        | lw id n lo =>
          obtain ⟨h1, h2, ⟨ad, c, hv⟩, _⟩ := hx
          exact key id n lo ⟨ad, c, hv, fun e' sz es fr hs hn hlo => by
            obtain ⟨b, c', hb, hv'⟩ := h1 _ _ _ _ hs hn hlo
            rw [hv] at hv'; cases hv'; exact ⟨b, hb, rfl⟩⟩ h
        | ls id n =>
          obtain ⟨h1, h2, ⟨ad, c, hv⟩, _⟩ := hx
          exact key id n 0 ⟨ad, c, hv, fun e' sz es fr hs hn hlo => by
            have hv' := h1 _ _ _ _ hs hn
            obtain ⟨xs, k1, _⟩ := hw.row _ _ _ _ _ hs
            rcases k1.2 with ⟨_, q2⟩ | ⟨gb, cap, cur, q1, _⟩
            · omega
            · rw [q1, hv] at hv'; cases hv'
              exact ⟨gb, by rw [q1]; rfl, by simp⟩⟩ h
        | _ => exact h.elim
      · exact h.elim
    · exact h.elim
  · exact h.elim

theorem op_cap (hT : TabOK P T) {g : Nat → PV} {a : Act} (hrep : ∀ t, rep3 rd L s (g t) (a.tmps.getD t undef)) (hw : WOk rd L s w) (hg : Grows F rd L s w) {o : Oper} {args : Array Operand} {tys : Array TypeId}
    (ho : o.op = .call { callee := .builtin .cap, args := args, argTypes := tys }) {k : K} (h : opVC T o g s k) : OpRes P F rd L s w a o k := by
  unfold opVC at h
  rw [ho] at h
  dsimp only at h
  split at h
  · rename_i x t hargs htys
    have hargs : args = #[x] := by rw [← Array.toList_inj]; simpa using hargs
    have htys : tys = #[t] := by rw [← Array.toList_inj]; simpa using htys
    subst hargs
    subst htys
    have hx := evo_rep hrep x
    split at h
    · rename_i hl hp
      rw [hp] at hx
      have hte := (hT _ _ hl).ti
      have hv : a.eval x = .slice none 0 0 := by generalize a.eval x = v at hx; cases hx; rfl
      exact OpRes.pure hw hg h (by simp [execOp, ho, resolve, invoke, builtin, Builtin.cap_, hv, run_underlying hte, goInt]) (.sc rfl)
    · exact h.elim
  · exact h.elim

/-- All operations but calls. -/
theorem op_ok (hT : TabOK P T) {g : Nat → PV} {a : Act} (hrep : ∀ t, rep3 rd L s (g t) (a.tmps.getD t undef)) (hw : WOk rd L s w) (hg : Grows F rd L s w) {o : Oper} {k : K} (h : opVC T o g s k) : OpRes P F rd L s w a o k := by
  cases hop : o.op with
  | move x => exact op_pure hT hrep hw hg h (by rw [hop]; trivial)
  | assign x => exact op_pure hT hrep hw hg h (by rw [hop]; trivial)
  | pick c x y => exact op_pure hT hrep hw hg h (by rw [hop]; trivial)
  | nilCheck x => exact op_pure hT hrep hw hg h (by rw [hop]; trivial)
  | binOp b t x y z => exact op_pure hT hrep hw hg h (by rw [hop]; trivial)
  | unOp b t x => exact op_pure hT hrep hw hg h (by rw [hop]; trivial)
  | convert a b x => exact op_pure hT hrep hw hg h (by rw [hop]; trivial)
  | fieldAddr t x f => exact op_pure hT hrep hw hg h (by rw [hop]; trivial)
  | field t x f => exact op_pure hT hrep hw hg h (by rw [hop]; trivial)
  | extract x i => exact op_pure hT hrep hw hg h (by rw [hop]; trivial)
  | alloc t => exact op_alloc hT hw hg hop h
  | box t x => exact op_box hT hrep hw hg hop h
  | build t ps => exact op_build hT hrep hw hg hop h
  | buildSlice t n ps => exact op_buildSlice hT hrep hw hg hop h
  | load t x => exact op_load hT hrep hw hg hop h
  | store t x y => exact op_store hT hrep hw hg hop h
  | makeSlice t l c => exact op_makeSlice hT hrep hw hg hop h
  | slice t x lo hi mx =>
    cases mx with
    | none => exact op_slice hT hrep hw hg hop h
    | some m => unfold opVC at h; rw [hop] at h; exact h.elim
  | indexAddr t x y => exact op_indexAddr hT hrep hw hg hop h
  | index t x y => exact op_index hT hrep hw hg hop h
  | makeFunc f first cap =>
    cases f with
    | func f => exact op_makeFunc hrep hw hg hop h
    | _ => unfold opVC at h; rw [hop] at h; exact h.elim
  | call c =>
    obtain ⟨callee, args, tys⟩ := c
    cases callee with
    | builtin b =>
      cases b with
      | len => exact op_small hT hrep hw hg (.inl rfl) hop h
      | min => exact op_small hT hrep hw hg (.inr (.inl rfl)) hop h
      | max => exact op_small hT hrep hw hg (.inr (.inr rfl)) hop h
      | append => exact op_append hT hrep hw hg hop h
      | clear => exact op_clear hT hrep hw hg hop h
      | cap => exact op_cap hT hrep hw hg hop h
      | _ => unfold opVC at h; rw [hop] at h; exact h.elim
    | _ => unfold opVC at h; rw [hop] at h; exact h.elim
  | _ => unfold opVC at h; rw [hop] at h; exact h.elim
end
def inner (F : Fr) (rd : Rd) (L : Lay) (s : Objs) (w : World) : Fr := ⟨w, fun b => ∃ id, blkOf L s id = some b, rd, L, F.pin, F.pin5⟩

def pass1 (own : Bool) (s : Objs) (p : PV) (k : PV → List (Nat × Obj) → Option Nat → Prop) : Prop :=
  match p with
  | .loc id 0 => match s id with
    | some (.box cs false) => shareL s cs fun l u => k (.mp l) u (some id)
    | _ => False
  | .ls id n => match own with
    | true => match s id with
      | some (.row e sz es false) => n = es.length ∧ k (.sl (some e) sz es) [] (some id)
      | _ => False
    | false => share1 s (.ls id n) fun q u => k q u none
  | p => share2 s p fun q u => k q u none

/-- The arguments as they are handed over; which objects go along. -/
def passA (i : Nat) (own : List Bool) (s : Objs) : List PV → (List PV → List (Nat × Obj) → List (Nat × Nat) → Prop) → Prop
  | [], k => k [] [] []
  | p :: r, k => pass1 (own.headD false) s p fun q u m => match m with
    | none => passA (i + 1) own.tail (ov u s) r fun qs v ps => k (q :: qs) (v ++ u) ps
    | some id => passA (i + 1) own.tail (ov ((id, .dead) :: u) s) r fun qs v ps => k (q :: qs) (v ++ ((id, .dead) :: u)) ((i, id) :: ps)

section
variable {P : Program} {T : Tab} {F : Fr} {rd rd1 : Rd} {L L1 : Lay} {s s1 : Objs} {w w1 : World}

theorem Grows.comp (hg : Grows F rd L s w) (h : Grows (inner F rd L s w) rd1 L1 s1 w1) : Grows F rd1 L1 s1 w1 := by
  have hM : ∀ k, k < F.w0.heap.size → ¬ F.M k → ¬ (inner F rd L s w).M k := fun k hk hM ⟨id, h⟩ => by
    rcases hg.own id k h with h | h
    · exact hM h
    · omega
  refine ⟨h.os.trans hg.os, h.tape.trans hg.tape, h.output.trans hg.output, Nat.le_trans hg.size h.size, fun k hk hk2 => (h.block k (Nat.lt_of_lt_of_le hk hg.size) (hM k hk hk2)).trans (hg.block k hk hk2),
    fun p v hp => h.le p v (hg.le p v hp), fun p v hp => ?_, fun id b hb => ?_, fun id hi => ?_, h.pb⟩
  · rcases h.new p v hp with h | ⟨id, h⟩ | h
    · exact hg.new p v h
    · exact .inr (hg.own id _ h)
    · exact .inr (.inr (Nat.le_trans hg.size h))
  · rcases h.own id b hb with ⟨i, h⟩ | h
    · exact hg.own i b h
    · exact .inr (Nat.le_trans hg.size h)
  · obtain ⟨e1, e2⟩ := h.pins id hi
    obtain ⟨e3, e4⟩ := hg.pins id hi
    exact ⟨e1.trans e3, e2.trans e4⟩
theorem Grows.inner (hw : WOk rd L s w) (hg : Grows F rd L s w) : Grows (inner F rd L s w) rd L s w :=
  ⟨rfl, rfl, OutLe.refl _, Nat.le_refl _, fun _ _ _ => rfl, fun _ _ h => h, fun _ _ h => .inl h, fun id _ h => .inl ⟨id, h⟩, fun _ _ => ⟨rfl, rfl⟩, hg.pb⟩

/-- What is known of an object that goes along with a call. -/
def ObjAt (rd : Rd) (L : Lay) (w : World) (id : Nat) : Obj → Prop
  | .box cs fr => fr = false ∧ ∃ (vs : List Value) (e : Nat), w.heap[L.bl id]? = some (.cells vs.toArray e (0, 0)) ∧ All2 (RepP rd) cs vs ∧ (∀ u ∈ vs, u.oneCell' = true) ∧ (∀ p v, rd p = some v → p.block ≠ L.bl id)
  | .row e sz es fr => fr = false ∧ ∃ xs : List Value, w.ownsRow 0 e sz (L.sv id) es.length xs ∧ All2 (RepP rd) es.flatten xs ∧ (∀ x ∈ es, x.length = sz) ∧ (∀ b, (L.sv id).ownBlock = some b → ∀ p v, rd p = some v → p.block ≠ b)
  | .dead => False

def objBlk (L : Lay) (id : Nat) : Obj → Option Nat
  | .box .. => some (L.bl id)
  | .row .. => (L.sv id).ownBlock
  | .dead => none

theorem ObjAt.mono {id : Nat} {o : Obj} (h : ObjAt rd L w id o) (hle : Rd.le rd rd1) (hno : ∀ b, objBlk L id o = some b → ∀ p v, rd1 p = some v → rd p = none → p.block ≠ b) : ObjAt rd1 L w id o := by
  cases o with
  | box cs fr =>
    obtain ⟨hf, vs, e, h1, h2, h3, h4⟩ := h
    refine ⟨hf, vs, e, h1, h2.imp fun _ _ h => h.mono hle, h3, fun p v hp => ?_⟩
    cases hr : rd p with
    | some u => exact h4 p u hr
    | none => exact hno _ rfl p v hp hr
  | row e sz es fr =>
    obtain ⟨hf, xs, h1, h2, h3, h4⟩ := h
    refine ⟨hf, xs, h1, h2.imp fun _ _ h => h.mono hle, h3, fun b hb p v hp => ?_⟩
    cases hr : rd p with
    | some u => exact h4 b hb p u hr
    | none => exact hno b hb p v hp hr
  | dead => exact h

/-- An object is given away. -/
theorem kill_ok (hw : WOk rd L s w) (hg : Grows F rd L s w) {id : Nat} {o : Obj} (hs : s id = some o) : Stp F rd L s rd L (ov [(id, .dead)] s) w := by
  have hb : ∀ i b, blkOf L (ov [(id, .dead)] s) i = some b → blkOf L s i = some b ∧ i ≠ id := by
    intro i b h
    by_cases hi : i = id
    · subst hi; simp [blkOf, ov_at] at h
    · rw [blkOf_ov_ne hi ⟨rfl, rfl⟩] at h; exact ⟨h, hi⟩
  have hle : ObjLe L s L (ov [(id, .dead)] s) := by
    intro i o hi
    by_cases hii : i = id
    · subst hii; exact ⟨_, ov_at, .inl rfl⟩
    · obtain ⟨o2, q1, q2⟩ := ObjLe.refl L s i o hi
      exact ⟨o2, by rw [ov_at_ne hii]; exact q1, q2⟩
  refine ⟨fun _ _ h => h, hle, ⟨hw.hrd, fun i cs fr h => ?_, fun i e sz es fr h => ?_, fun i j b hi hj => hw.inj i j b (hb i b hi).1 (hb j b hj).1⟩,
    ⟨hg.os, hg.tape, hg.output, hg.size, hg.block, hg.le, hg.new, fun i b h => hg.own i b (hb i b h).1, hg.pins, fun i hi e sz es fr h => ?_⟩⟩
  · by_cases hi : i = id
    · subst hi; rw [ov_at] at h; cases h
    · rw [ov_at_ne hi] at h
      obtain ⟨vs, e, h1, h2, h3⟩ := hw.box i cs fr h
      exact ⟨vs, e, h1, h2.imp fun _ _ => rep1_mono (fun _ _ h => h) hle, h3⟩
  · by_cases hi : i = id
    · subst hi; rw [ov_at] at h; cases h
    · rw [ov_at_ne hi] at h; exact hw.row i e sz es fr h
  · by_cases hii : i = id
    · subst hii; rw [ov_at] at h; cases h
    · rw [ov_at_ne hii] at h; exact hg.pb i hi _ _ _ _ h

/-- What the object was before it was handed over. -/
def Was (s : Objs) (id : Nat) (o : Obj) : Prop := (∃ cs l, s id = some (.box cs false) ∧ o = .box l false) ∨ (∃ e sz es, s id = some (.row e sz es false) ∧ o = .row e sz es false)

structure Passed (rd : Rd) (L : Lay) (s : Objs) (w : World) (i : Nat) (qs : List PV) (vs : List Value) (ps : List (Nat × Nat)) : Prop where
  rep : ∀ (L0 : Lay), (∀ j id, (j, id) ∈ ps → L0.sv (pid j) = L.sv id ∧ L0.bl (pid j) = L.bl id) → ∀ s0 : Objs, (∀ q o, look (adoptA i qs).2 q = some o → s0 q = some o) → All2 (rep2 rd L0 s0) (adoptA i qs).1 vs
  obj : ∀ q o, look (adoptA i qs).2 q = some o → ∃ j id, q = pid j ∧ i ≤ j ∧ (j, id) ∈ ps ∧ ObjAt rd L w id o ∧ ∀ b, objBlk L id o = some b → blkOf L s id = some b
  pso : ∀ j id, (j, id) ∈ ps → ∃ o, look (adoptA i qs).2 (pid j) = some o ∧ ObjAt rd L w id o ∧ (∀ b, objBlk L id o = some b → blkOf L s id = some b) ∧ i ≤ j ∧ Was s id o
  nod : (ps.map (·.2)).Nodup
  nod1 : (ps.map (·.1)).Nodup

theorem adoptA_ge {qs : List PV} : ∀ {i q : Nat} {o : Obj}, look (adoptA i qs).2 q = some o → ∃ j, i ≤ j ∧ q = pid j := by
  induction qs with
  | nil => intro i q o h; simp [adoptA, look] at h
  | cons p qs ih =>
    intro i q o h
    simp only [adoptA, look_append] at h
    split at h
    · rename_i o' h1
      have : ∀ (p : PV), look (adopt1 (pid i) p).2 q = some o' → q = pid i := by
        intro p h
        unfold adopt1 at h
        split at h
        · simp only [look] at h
          cases hb : Nat.beq (pid i) q with
          | true => exact (Nat.eq_of_beq_eq_true hb).symm
          | false => rw [hb] at h; cases h
        · simp only [look] at h
          cases hb : Nat.beq (pid i) q with
          | true => exact (Nat.eq_of_beq_eq_true hb).symm
          | false => rw [hb] at h; cases h
        · simp [look] at h
      exact ⟨i, Nat.le_refl _, this p h1⟩
    · obtain ⟨j, h1, h2⟩ := ih h
      exact ⟨j, by omega, h2⟩

theorem share1_ad {p : PV} {k : PV → List (Nat × Obj) → Prop} (h : share1 s p k) : share1 s p fun q u => k q u ∧ ∀ id, adopt1 id q = (q, []) := by
  cases p with
  | ls id n =>
    simp only [share1] at h ⊢
    cases hs : s id with
    | none => rw [hs] at h; exact h.elim
    | some o =>
      rw [hs] at h
      cases o with
      | row e sz es fr => exact ⟨h.1, h.2, fun _ => rfl⟩
      | _ => exact h.elim
  | sc v => exact ⟨h, fun _ => rfl⟩
  | nils => exact ⟨h, fun _ => rfl⟩
  | sl o sz es => exact ⟨h, fun _ => rfl⟩
  | fn f c => exact ⟨h, fun _ => rfl⟩
  | rp c => exact ⟨h, fun _ => rfl⟩
  | _ => exact h.elim
theorem shareL_imp {ps : List PV} : ∀ {k k' : List PV → List (Nat × Obj) → Prop}, (∀ q u, k q u → k' q u) → shareL s ps k → shareL s ps k' := by
  induction ps with
  | nil => intro k k' f h; exact f _ _ h
  | cons p ps ih =>
    intro k k' f h
    have one : ∀ {k k' : PV → List (Nat × Obj) → Prop}, (∀ q u, k q u → k' q u) → share1 s p k → share1 s p k' := by
      intro k k' f h
      cases p with
      | ls id n =>
        simp only [share1] at h ⊢
        cases hs : s id with
        | none => rw [hs] at h; exact h.elim
        | some o =>
          rw [hs] at h
          cases o with
          | row e sz es fr => exact ⟨h.1, f _ _ h.2⟩
          | _ => exact h.elim
      | sc v => exact f _ _ h
      | nils => exact f _ _ h
      | sl o sz es => exact f _ _ h
      | fn g c => exact f _ _ h
      | rp c => exact f _ _ h
      | _ => exact h.elim
    exact one (fun q u h => ih (fun _ _ h => f _ _ h) h) h
theorem share2_ad {p : PV} {k : PV → List (Nat × Obj) → Prop} (h : share2 s p k) : share2 s p fun q u => k q u ∧ ∀ id, adopt1 id q = (q, []) := by
  cases p with
  | agg cs => exact shareL_imp (fun q u h => ⟨h, fun _ => rfl⟩) h
  | tup l => exact h.elim
  | _ => simp only [share2] at h ⊢; exact share1_ad h

theorem pid_inj {i j : Nat} (h : pid i = pid j) : i = j := by simp only [pid] at h; omega

theorem look_cons_pid {i j : Nat} {o : Obj} {l : List (Nat × Obj)} (h : j ≠ i) : look ((pid i, o) :: l) (pid j) = look l (pid j) := by
  simp only [look]
  cases hb : Nat.beq (pid i) (pid j) with
  | true => exact absurd (pid_inj (Nat.eq_of_beq_eq_true hb)).symm h
  | false => rfl
theorem look_cons_self {i : Nat} {o : Obj} {l : List (Nat × Obj)} : look ((i, o) :: l) i = some o := by
  simp only [look]
  rw [show Nat.beq i i = true from Nat.beq_refl i]; rfl

theorem Stp.comp (hg : Grows F rd L s w) (h : Stp (Go.Vi.inner F rd L s w) rd L s rd1 L1 s1 w1) : Stp F rd L s rd1 L1 s1 w1 := ⟨h.le, h.obj, h.ok, hg.comp h.gr⟩

/-- An object that was given away stays what it is while the other arguments are handed over. -/
theorem ObjAt.kept {s' : Objs} {id : Nat} {o o' : Obj} (hw : WOk rd L s w) (hs : s id = some o') (ho : ∀ b, objBlk L id o = some b → blkOf L s id = some b) (h : ObjAt rd L w id o) (hk : Stp (Go.Vi.inner F rd L (ov [(id, .dead)] s) w) rd L (ov [(id, .dead)] s) rd1 L s' w) :
    ObjAt rd1 L w id o := by
  refine h.mono hk.le fun b hb p v hp hn => ?_
  rcases hk.gr.new p v hp with h1 | ⟨i, h1⟩ | h1
  · have h1 : rd p = some v := h1
    rw [h1] at hn; cases hn
  · intro hpb
    have hi : i ≠ id := by
      rintro rfl
      simp [blkOf, ov_at] at h1
    rw [blkOf_ov_ne hi ⟨rfl, rfl⟩] at h1
    exact hi (hw.inj i id b (by rw [← hpb]; exact h1) (ho b hb))
  · intro hpb
    have := hw.blk_lt (ho b hb)
    have : w.heap.size ≤ p.block := h1
    omega

theorem box_unfz {u : List (Nat × Obj)} (hu : FzU s u) {i : Nat} {cs : List PV} {fr : Bool} (h : ov u s i = some (.box cs fr)) : s i = some (.box cs fr) := by
  simp only [ov] at h
  cases hl : look u i with
  | none => rw [hl] at h; exact h
  | some o => obtain ⟨e, sz, es, f, h1, rfl⟩ := hu i o hl; rw [hl] at h; cases h

theorem passA_ok {ps : List PV} : ∀ {F : Fr} {i : Nat} {own : List Bool} {rd : Rd} {s : Objs} {vs : List Value} (_ : WOk rd L s w) (_ : Grows F rd L s w) (_ : All2 (rep3 rd L s) ps vs) {k : List PV → List (Nat × Obj) → List (Nat × Nat) → Prop} (_ : passA i own s ps k),
    ∃ qs u pp rd1, k qs u pp ∧ Stp F rd L s rd1 L (ov u s) w ∧ Passed rd1 L s w i qs vs pp ∧ (∀ j id, (j, id) ∈ pp → ov u s id = some .dead) ∧ (∀ i b, blkOf L (ov u s) i = some b → blkOf L s i = some b) ∧ ∀ i cs fr, ov u s i = some (.box cs fr) → s i = some (.box cs fr) := by
  induction ps with
  | nil =>
    intro F i own rd s vs hw hg hp k h
    cases hp
    exact ⟨[], [], [], rd, h, Stp.refl hw hg, ⟨fun _ _ _ _ => .nil, fun q o h => by simp [adoptA, look] at h, fun _ _ h => by simp at h, List.nodup_nil, List.nodup_nil⟩, (fun _ _ h => by simp at h), (fun _ _ h => h), fun _ _ _ h => h⟩
  | cons p ps ih =>
    intro F i own rd s vs hw hg hp k h
    cases hp with
    | cons hp hps =>
    rename_i v vs
    -- an object goes along
    have give : ∀ {u : List (Nat × Obj)} {rd1 : Rd} {q : PV} {id : Nat} {o o' : Obj}, Stp F rd L s rd1 L (ov u s) w → FzU s u → ov u s id = some o' → o' ≠ .dead → ObjAt rd1 L w id o → (∀ b, objBlk L id o = some b → blkOf L (ov u s) id = some b) → (∀ i b, blkOf L (ov u s) i = some b → blkOf L s i = some b) → Was s id o →
        (adopt1 (pid i) q).2 = [(pid i, o)] → (∀ rd2 (L0 : Lay), L0.sv (pid i) = L.sv id → L0.bl (pid i) = L.bl id → ∀ s0 : Objs, s0 (pid i) = some o → rep2 rd2 L0 s0 (adopt1 (pid i) q).1 v) →
        passA (i + 1) own.tail (ov ((id, .dead) :: u) s) ps (fun qs v ps => k (q :: qs) (v ++ ((id, .dead) :: u)) ((i, id) :: ps)) →
        ∃ qs u pp rd1, k qs u pp ∧ Stp F rd L s rd1 L (ov u s) w ∧ Passed rd1 L s w i qs (v :: vs) pp ∧ (∀ j id, (j, id) ∈ pp → ov u s id = some .dead) ∧ (∀ i b, blkOf L (ov u s) i = some b → blkOf L s i = some b) ∧ ∀ i cs fr, ov u s i = some (.box cs fr) → s i = some (.box cs fr) := by
      intro u rd1 q id o o' hst hu hs1 hnd hat hob hbk hsid had hrep hk
      have hst2 := kill_ok hst.ok hst.gr hs1
      have hst3 := hst.trans hst2
      have e1 : ov [(id, Obj.dead)] (ov u s) = ov ((id, .dead) :: u) s := by rw [← ov_append]; rfl
      rw [e1] at hst2 hst3
      obtain ⟨qs, u2, pp, rd2, h1, h2, h3, h4, h4b, h4c⟩ := ih (F := Go.Vi.inner F rd1 L (ov ((id, .dead) :: u) s) w) hst3.ok (Grows.inner hst3.ok hst3.gr) (hps.imp fun _ _ => rep3_mono hst3.le hst3.obj) hk
      have hat2 : ObjAt rd2 L w id o := by
        refine ObjAt.kept (s := ov u s) (s' := ov u2 (ov ((id, .dead) :: u) s)) (F := F) hst.ok hs1 hob hat ?_
        rw [e1]; exact h2
      have hdead : ov ((id, Obj.dead) :: u) s id = some .dead := by rw [ov_cons]; exact if_pos rfl
      have hne : ∀ j id', (j, id') ∈ pp → id' ≠ id := by
        intro j id' hm he
        obtain ⟨_, _, _, _, _, hq⟩ := h3.pso j id' hm
        rw [he] at hq
        rcases hq with ⟨_, _, hq, _⟩ | ⟨_, _, _, hq, _⟩ <;> (rw [hdead] at hq; cases hq)
      have hbk2 : ∀ i b, blkOf L (ov ((id, .dead) :: u) s) i = some b → blkOf L s i = some b := by
        intro i b hb
        rw [← e1] at hb
        by_cases hi : i = id
        · subst hi; simp [blkOf, ov_at] at hb
        · rw [blkOf_ov_ne hi ⟨rfl, rfl⟩] at hb; exact hbk i b hb
      have hlook : ∀ q', look (adoptA i (q :: qs)).2 q' = if q' = pid i then some o else look (adoptA (i + 1) qs).2 q' := by
        intro q'
        simp only [adoptA, had, List.singleton_append]
        by_cases hq : q' = pid i
        · rw [if_pos hq, hq]; exact look_cons_self
        · rw [if_neg hq]
          simp only [look]
          cases hb : Nat.beq (pid i) q' with
          | true => exact absurd (Nat.eq_of_beq_eq_true hb).symm hq
          | false => rfl
      refine ⟨q :: qs, _, _, rd2, h1, ?_, ⟨fun L0 hL0 s0 hs0 => ?_, fun q' o2 hq' => ?_, fun j id' hm => ?_, ?_, ?_⟩, fun j id' hm => ?_, fun j id' hm => ?_, fun j cs fr hm => ?_⟩
      · rw [ov_append]
        exact hst3.trans (Stp.comp hst3.gr h2)
      · obtain ⟨a1, a2⟩ := hL0 i id (by simp)
        refine .cons (hrep rd2 L0 a1 a2 s0 (hs0 _ _ (by rw [hlook, if_pos rfl]))) (h3.rep L0 (fun j id' hm => hL0 j id' (by simp [hm])) s0 fun q' o2 hq' => hs0 q' o2 ?_)
        rw [hlook]
        have : q' ≠ pid i := by
          obtain ⟨j, hj, rfl⟩ := adoptA_ge hq'
          intro he; have := pid_inj he; omega
        rw [if_neg this]; exact hq'
      · rw [hlook] at hq'
        split at hq'
        · rename_i he
          cases hq'
          exact ⟨i, id, he, Nat.le_refl _, by simp, hat2, fun b hb => hbk id b (hob b hb)⟩
        · obtain ⟨j, id', k1, k2, k3, k4, k5⟩ := h3.obj q' o2 hq'
          exact ⟨j, id', k1, by omega, by simp [k3], k4, fun b hb => hbk2 _ _ (k5 b hb)⟩
      · simp only [List.mem_cons, Prod.mk.injEq] at hm
        rcases hm with ⟨rfl, rfl⟩ | hm
        · exact ⟨o, by rw [hlook, if_pos rfl], hat2, fun b hb => hbk _ _ (hob b hb), Nat.le_refl _, hsid⟩
        · obtain ⟨o2, k1, k2, k3, k4, k5⟩ := h3.pso j id' hm
          refine ⟨o2, by rw [hlook, if_neg (fun he => by have := pid_inj he; omega)]; exact k1, k2, fun b hb => hbk2 _ _ (k3 b hb), by omega, ?_⟩
          have hback : ∀ oo, (∀ e sz es, oo ≠ .row e sz es true) → ov ((id, .dead) :: u) s id' = some oo → s id' = some oo := by
            intro oo hoo h
            rw [ov_cons] at h
            dsimp only at h
            rw [if_neg (Ne.symm (hne j id' hm))] at h
            simp only [ov] at h
            cases hl : look u id' with
            | none => rw [hl] at h; exact h
            | some o3 => obtain ⟨e, sz, es, _, _, rfl⟩ := hu id' o3 hl; rw [hl] at h; cases h; exact absurd rfl (hoo _ _ _)
          rcases k5 with ⟨cs, l, q1, q2⟩ | ⟨e, sz, es, q1, q2⟩
          · exact .inl ⟨cs, l, hback _ (by simp) q1, q2⟩
          · exact .inr ⟨e, sz, es, hback _ (by simp) q1, q2⟩
      · simp only [List.map_cons, List.nodup_cons]
        refine ⟨fun hm => ?_, h3.nod⟩
        obtain ⟨⟨j, id'⟩, hm, he⟩ := List.mem_map.1 hm
        exact hne j id' hm he
      · simp only [List.map_cons, List.nodup_cons]
        refine ⟨fun hm => ?_, h3.nod1⟩
        obtain ⟨⟨j, id'⟩, hm, he⟩ := List.mem_map.1 hm
        obtain ⟨_, _, _, _, k4, _⟩ := h3.pso j id' hm
        simp only at he
        omega
      · simp only [List.mem_cons, Prod.mk.injEq] at hm
        rw [ov_append]
        rcases hm with ⟨rfl, rfl⟩ | hm
        · obtain ⟨o2, q1, q2⟩ := h2.obj id' _ hdead
          rcases q2 with q2 | ⟨_, _, _, _, q2, _⟩ | ⟨_, _, _, _, _, _, _, q2, _⟩
          · rw [q1, q2]
          · cases q2
          · cases q2
        · exact h4 j id' hm
      · rw [ov_append] at hm; exact hbk2 _ _ (h4b _ _ hm)
      · rw [ov_append] at hm
        have h5 := h4c _ _ _ hm
        rw [ov_cons] at h5
        dsimp only at h5
        split at h5
        · cases h5
        · exact box_unfz hu h5
    -- nothing goes along
    have keep : share2 s p (fun q u => passA (i + 1) own.tail (ov u s) ps fun qs v ps => k (q :: qs) (v ++ u) ps) → 
        ∃ qs u pp rd1, k qs u pp ∧ Stp F rd L s rd1 L (ov u s) w ∧ Passed rd1 L s w i qs (v :: vs) pp ∧ (∀ j id, (j, id) ∈ pp → ov u s id = some .dead) ∧ (∀ i b, blkOf L (ov u s) i = some b → blkOf L s i = some b) ∧ ∀ i cs fr, ov u s i = some (.box cs fr) → s i = some (.box cs fr) := by
      intro h
      have hp2 : rep2 rd L s p v := by
        cases p with
        | tup l => exact h.elim
        | _ => exact hp
      obtain ⟨q, u, rd1, ⟨h1, had⟩, hu, hst, hq, _⟩ := share2_ok (Fz.refl s) hw hg hp2 (share2_ad h)
      obtain ⟨qs, u2, pp, rd2, h5, h2, h3, h4, h4b, h4c⟩ := ih hst.ok hst.gr (hps.imp fun _ _ => rep3_mono hst.le hst.obj) h1
      have hbk : ∀ i b, blkOf L (ov u s) i = some b → blkOf L s i = some b := by
        intro i b hb
        simp only [blkOf, ov] at hb ⊢
        cases hl : look u i with
        | none => rw [hl] at hb; exact hb
        | some o => obtain ⟨e, sz, es, fr, q1, rfl⟩ := hu i o hl; rw [hl] at hb; rw [q1]; exact hb
      have hlook : (adoptA i (q :: qs)).2 = (adoptA (i + 1) qs).2 := by simp [adoptA, had]
      refine ⟨q :: qs, _, pp, rd2, h5, by rw [ov_append]; exact hst.trans h2, ⟨fun L0 hL0 s0 hs0 => ?_, fun q' o2 hq' => ?_, fun j id' hm => ?_, h3.nod, h3.nod1⟩, (fun j id' hm => by rw [ov_append]; exact h4 j id' hm), (fun i b hb => by rw [ov_append] at hb; exact hbk _ _ (h4b _ _ hb)), fun i cs fr hb => by rw [ov_append] at hb; exact box_unfz hu (h4c _ _ _ hb)⟩
      · simp only [adoptA, had]
        refine .cons (rep2_mono (L := L0) (s := s0) h2.le (ObjLe.refl _ _) (hq L0 s0)) (h3.rep L0 hL0 s0 fun q' o2 hq' => hs0 q' o2 (by rw [hlook]; exact hq'))
      · rw [hlook] at hq'
        obtain ⟨j, id', k1, k2, k3, k4, k5⟩ := h3.obj q' o2 hq'
        exact ⟨j, id', k1, by omega, k3, k4, fun b hb => hbk _ _ (k5 b hb)⟩
      · obtain ⟨o2, k1, k2, k3, k4, k5⟩ := h3.pso j id' hm
        refine ⟨o2, by rw [hlook]; exact k1, k2, fun b hb => hbk _ _ (k3 b hb), by omega, ?_⟩
        have hback : ∀ oo, (∀ e sz es, oo ≠ .row e sz es true) → ov u s id' = some oo → s id' = some oo := by
          intro oo hoo h
          simp only [ov] at h
          cases hl : look u id' with
          | none => rw [hl] at h; exact h
          | some o3 => obtain ⟨e, sz, es, _, _, rfl⟩ := hu id' o3 hl; rw [hl] at h; cases h; exact absurd rfl (hoo _ _ _)
        rcases k5 with ⟨cs, l, q1, q2⟩ | ⟨e, sz, es, q1, q2⟩
        · exact .inl ⟨cs, l, hback _ (by simp) q1, q2⟩
        · exact .inr ⟨e, sz, es, hback _ (by simp) q1, q2⟩
    unfold passA pass1 at h
    split at h
    · rename_i id
      split at h
      · rename_i cs hs
        obtain ⟨xs, e, h1, h2, h3, h4, _⟩ := hw.box _ _ _ hs
        obtain ⟨l, u, rd1, k1, hu, hst, hl⟩ := shareL_ok (Fz.refl s) hw hg h2 h
        have hs1 := box_fz hw hs hu
        obtain ⟨_, _, _, _, _, h4', _⟩ := hst.ok.box _ _ _ hs1
        refine give (q := .mp l) (o := .box l false) hst hu hs1 (by simp) ⟨rfl, xs, e, h1, hl, h3, h4' rfl⟩ (fun b hb => by simp only [blkOf, hs1]; exact hb) (fun i b hb => ?_) (.inl ⟨cs, l, hs, rfl⟩) rfl (fun rd2 L0 a1 a2 s0 hs0 => ⟨fun _ => ?_, hp.2.1, by rw [hs0]; simp⟩) k1
        · simp only [blkOf, ov] at hb ⊢
          cases hl : look u i with
          | none => rw [hl] at hb; exact hb
          | some o => obtain ⟨e, sz, es, fr, q1, rfl⟩ := hu i o hl; rw [hl] at hb; rw [q1]; exact hb
        · rw [a2]; exact hp.1 ⟨_, _, hs⟩
      · exact h.elim
    · rename_i id n
      split at h
      · split at h
        · rename_i e sz es hs
          obtain ⟨rfl, k1⟩ := h
          obtain ⟨xs, h1, h2, h3, h4⟩ := hw.row _ _ _ _ _ hs
          refine give (u := []) (q := .sl (some e) sz es) (o := .row e sz es false) (Stp.refl hw hg) (FzU.nil s) hs (by simp) ⟨rfl, xs, h1, h2, h3, fun b hb p v hp hpb => by cases (h4 b hb p v hp hpb).1⟩ (fun b hb => by simp only [ov_nil, blkOf, hs]; exact hb) (fun i b hb => hb) (.inr ⟨e, sz, es, hs, rfl⟩) rfl (fun rd2 L0 a1 a2 s0 hs0 => ⟨fun e' sz' es' fr' _ _ => ?_, fun e' sz' es' fr' hh => ?_, hp.2.2.1, by rw [hs0]; simp⟩) k1
          · rw [a1]; exact hp.1 _ _ _ _ hs rfl
          · rw [hs0] at hh; cases hh; exact Nat.le_refl _
        · exact h.elim
      · exact keep h
    · exact keep h
end
end Go.Vi
end
