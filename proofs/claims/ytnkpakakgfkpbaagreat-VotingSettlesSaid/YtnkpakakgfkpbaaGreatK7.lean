import Derived.Test.YtnkpakakgfkpbaaGreatK6
import Derived.Shelf.SlGeneric
import Derived.Ground.SlsfProg
import Derived.Shelf.SlSortCmp.NoneTotal
import Derived.Laws.Externs
set_option linter.unusedVariables false
set_option linter.unusedSimpArgs false
section
namespace Go.Proofs.YtnkpakakgfkpbaaGreat.V
open Go.Vi
set_option maxRecDepth 10000
/-! slices.Grow, Concat, Compact at claims -/
theorem f258_ok (n : Nat) (hn : n ≤ 1000000000) : C 258 [.nils, I n] (.sl (some 38) 2 []) := by
  have e : IntKind.i64.wrap ((n : Int) - IntKind.i64.wrap (0 - 0)) = n := by rw [wrap_id (n := 0 - 0) (by omega) (by omega), wrap_id] <;> omega
  refine fn_ok (G := G) tabOK hm D0 Tryz.func258 rfl (by kernel_rfl) (by kernel_rfl) rfl rfl ?_
  repeat' (first | refine And.intro (by rfl) ?_ | refine litA ?_ | refine litB ?_ | refine litC ?_ | refine litD ?_ | refine And.intro trivial ?_ | refine And.intro (keptI (by repeat' (first | refine And.intro ?_ ?_ | exact True.intro | rfl | (simp; done)))) ?_ | (refine And.intro ?_ ?_ <;> intro h))
  · have h0 : 0 < n := by rw [e] at h; simpa using h
    refine ⟨by decide, by decide, by decide, ?_⟩
    repeat (first | refine And.intro (by rfl) ?_ | refine litA ?_ | refine litB ?_ | refine litC ?_ | refine litD ?_ | refine And.intro trivial ?_ | refine And.intro (keptI (by repeat' (first | refine And.intro ?_ ?_ | exact True.intro | rfl | (simp; done)))) ?_)
    refine ⟨by rw [e]; omega, by rw [e]; omega, ?_⟩
    repeat (first | refine And.intro (by rfl) ?_ | refine litA ?_ | refine litB ?_ | refine litC ?_ | refine litD ?_ | refine And.intro trivial ?_ | refine And.intro (keptI (by repeat' (first | refine And.intro ?_ ?_ | exact True.intro | rfl | (simp; done)))) ?_)
    refine .inr ⟨rfl, by simp, by decide, by decide, Int.natCast_nonneg _, .inr ⟨rfl, rfl, ?_⟩⟩
    repeat (first | refine And.intro (by rfl) ?_ | refine litA ?_ | refine litB ?_ | refine litC ?_ | refine litD ?_ | refine And.intro trivial ?_ | refine And.intro (keptI (by repeat' (first | refine And.intro ?_ ?_ | exact True.intro | rfl | (simp; done)))) ?_)
    repeat' (first | refine And.intro ?_ ?_ | exact .inl rfl | rfl | exact .inr ⟨rfl, _, rfl⟩)
  · repeat' (first | refine And.intro ?_ ?_ | exact .inl rfl | rfl | exact .inr ⟨rfl, _, rfl⟩)
theorem f228_ok (a b : List Claim) (hb : a.length + b.length ≤ 1000000000) : C 228 [.sl none 1 [[encCs a], [encCs b]]] (.sl (some 38) 2 ((a ++ b).map encC)) := by
  refine fn_ok (G := G) tabOK hm D0 Tryz.func228 rfl (by kernel_rfl) (by kernel_rfl) rfl rfl ?_
  repeat (first | refine And.intro (by rfl) ?_ | refine litA ?_ | refine litB ?_ | refine litC ?_ | refine litD ?_ | refine And.intro trivial ?_ | refine And.intro (keptI (by repeat' (first | refine And.intro ?_ ?_ | exact True.intro | rfl | (simp; done)))) ?_)
  refine loop_ok (G := G) tabOK hm D0 (α := {k : Nat // k ≤ 2}) (fun k => ⟨36, [(3, I ((([a, b].take k.1).map List.length).sum : Nat)), (11, I k.1), (10, I 2), (9, .sl none 1 [[encCs a], [encCs b]]), (0, .sl none 1 [[encCs a], [encCs b]])], []⟩) (fun k => 2 - k.1) (by kernel_rfl) ⟨0, by omega⟩ ?_ ?_
  · repeat' (first | refine fitE_ls rfl rfl ?_ | refine fitC_ls rfl ?_ | refine And.intro ?_ ?_ | exact True.intro | rfl | exact ⟨_, _, rfl, rfl⟩ | exact ⟨_, _, rfl⟩ | decide | (simp [St.get, St.obj, look, lookD, unI, List.map_take]; done))
  rintro ⟨k, hk⟩
  repeat (first | refine And.intro (by rfl) ?_ | refine litA ?_ | refine litB ?_ | refine litC ?_ | refine litD ?_ | refine And.intro trivial ?_ | refine And.intro (keptI (by repeat' (first | refine And.intro ?_ ?_ | exact True.intro | rfl | (simp; done)))) ?_)
  refine And.intro (fun h => ?_) (fun h => ?_)
  rotate_left
  · have hk2 : k = 2 := by simp at h; omega
    subst hk2
    repeat (first | refine And.intro (by rfl) ?_ | refine litA ?_ | refine litB ?_ | refine litC ?_ | refine litD ?_ | refine And.intro trivial ?_ | refine And.intro (keptI (by repeat' (first | refine And.intro ?_ ?_ | exact True.intro | rfl | (simp; done)))) ?_)
    have h258 : C 258 [.nils, I ((([a, b].take 2).map List.length).sum : Nat)] (.sl (some 38) 2 []) := f258_ok _ (by simp; omega)
    refine ⟨_, _, h258, rfl, rfl, trivial, ?_⟩
    repeat (first | refine And.intro (by rfl) ?_ | refine litA ?_ | refine litB ?_ | refine litC ?_ | refine litD ?_ | refine And.intro trivial ?_ | refine And.intro (keptI (by repeat' (first | refine And.intro ?_ ?_ | exact True.intro | rfl | (simp; done)))) ?_)
    refine loop_ok (G := G) tabOK hm D0 (α := {k : Nat // k ≤ 2}) (fun k => ⟨36, [(27, I k.1), (26, I 2), (25, .sl none 1 [[encCs a], [encCs b]]), (6, .ls 25000 ((([a, b].take k.1).flatten).map encC).length)], [(25000, .row 38 2 ((([a, b].take k.1).flatten).map encC) false)]⟩) (fun k => 2 - k.1) (by kernel_rfl) ⟨0, by omega⟩ ?_ ?_
    · repeat' (first | refine fitE_ls rfl rfl ?_ | refine fitC_ls rfl ?_ | refine And.intro ?_ ?_ | exact True.intro | rfl | exact ⟨_, _, rfl, rfl⟩ | exact ⟨_, _, rfl⟩ | decide | (simp [St.get, St.obj, look, lookD, unI, List.map_take]; done))
    rintro ⟨k, hk⟩
    repeat (first | refine And.intro (by rfl) ?_ | refine litA ?_ | refine litB ?_ | refine litC ?_ | refine litD ?_ | refine And.intro trivial ?_ | refine And.intro (keptI (by repeat' (first | refine And.intro ?_ ?_ | exact True.intro | rfl | (simp; done)))) ?_)
    refine And.intro (fun h => ?_) (fun h => ?_)
    rotate_left
    · have hk2 : k = 2 := by simp at h; omega
      subst hk2
      repeat (first | refine And.intro (by rfl) ?_ | refine litA ?_ | refine litB ?_ | refine litC ?_ | refine litD ?_ | refine And.intro trivial ?_ | refine And.intro (keptI (by repeat' (first | refine And.intro ?_ ?_ | exact True.intro | rfl | (simp; done)))) ?_)
      refine ⟨by simp, rfl⟩
    have hk2 : k = 0 ∨ k = 1 := by simp at h; omega
    rcases hk2 with rfl | rfl
    · repeat (first | refine And.intro (by rfl) ?_ | refine litA ?_ | refine litB ?_ | refine litC ?_ | refine litD ?_ | refine And.intro trivial ?_ | refine And.intro (keptI (by repeat' (first | refine And.intro ?_ ?_ | exact True.intro | rfl | (simp; done)))) ?_)
      refine ⟨(by show (0 : Int) ≤ 0; decide), [encCs a], rfl, ?_⟩
      repeat (first | refine And.intro (by rfl) ?_ | refine litA ?_ | refine litB ?_ | refine litC ?_ | refine litD ?_ | refine And.intro trivial ?_ | refine And.intro (keptI (by repeat' (first | refine And.intro ?_ ?_ | exact True.intro | rfl | (simp; done)))) ?_)
      refine ⟨by simp; omega, rfl, ?_⟩
      repeat (first | refine And.intro (by rfl) ?_ | refine litA ?_ | refine litB ?_ | refine litC ?_ | refine litD ?_ | refine And.intro trivial ?_ | refine And.intro (keptI (by repeat' (first | refine And.intro ?_ ?_ | exact True.intro | rfl | (simp; done)))) ?_)
      refine ⟨⟨1, by omega⟩, ?_, by dsimp only; omega⟩
      repeat' (first | refine fitE_ls rfl rfl ?_ | refine fitC_ls rfl ?_ | exact congrArg I (by decide) | (refine fitE_ls (congrArg (PV.ls 25000) (by simp)) rfl ?_) | exact congrArg (fun m => Obj.row 38 2 m false) (by simp) | refine And.intro ?_ ?_ | exact True.intro | rfl | exact ⟨_, _, rfl, rfl⟩ | exact ⟨_, _, rfl⟩ | decide | (simp [St.get, St.obj, look, lookD, unI, List.map_take]; done))
    · repeat (first | refine And.intro (by rfl) ?_ | refine litA ?_ | refine litB ?_ | refine litC ?_ | refine litD ?_ | refine And.intro trivial ?_ | refine And.intro (keptI (by repeat' (first | refine And.intro ?_ ?_ | exact True.intro | rfl | (simp; done)))) ?_)
      refine ⟨(by show (0 : Int) ≤ 1; decide), [encCs b], rfl, ?_⟩
      repeat (first | refine And.intro (by rfl) ?_ | refine litA ?_ | refine litB ?_ | refine litC ?_ | refine litD ?_ | refine And.intro trivial ?_ | refine And.intro (keptI (by repeat' (first | refine And.intro ?_ ?_ | exact True.intro | rfl | (simp; done)))) ?_)
      refine ⟨by simp; omega, rfl, ?_⟩
      repeat (first | refine And.intro (by rfl) ?_ | refine litA ?_ | refine litB ?_ | refine litC ?_ | refine litD ?_ | refine And.intro trivial ?_ | refine And.intro (keptI (by repeat' (first | refine And.intro ?_ ?_ | exact True.intro | rfl | (simp; done)))) ?_)
      refine ⟨⟨2, by omega⟩, ?_, by dsimp only; omega⟩
      repeat' (first | refine fitE_ls rfl rfl ?_ | refine fitC_ls rfl ?_ | exact congrArg I (by decide) | (refine fitE_ls (congrArg (PV.ls 25000) (by simp)) rfl ?_) | exact congrArg (fun m => Obj.row 38 2 m false) (by simp) | refine And.intro ?_ ?_ | exact True.intro | rfl | exact ⟨_, _, rfl, rfl⟩ | exact ⟨_, _, rfl⟩ | decide | (simp [St.get, St.obj, look, lookD, unI, List.map_take]; done))
  have hk2 : k = 0 ∨ k = 1 := by simp at h; omega
  rcases hk2 with rfl | rfl
  · have e1 : IntKind.i64.wrap (0 + ((a.map encC).length : Int)) = a.length := by rw [wrap_id] <;> simp <;> omega
    repeat (first | refine And.intro (by rfl) ?_ | refine litA ?_ | refine litB ?_ | refine litC ?_ | refine litD ?_ | refine And.intro trivial ?_ | refine And.intro (keptI (by repeat' (first | refine And.intro ?_ ?_ | exact True.intro | rfl | (simp; done)))) ?_)
    refine ⟨(by show (0 : Int) ≤ 0; decide), [encCs a], rfl, ?_⟩
    repeat' (first | refine And.intro (by rfl) ?_ | refine litA ?_ | refine litB ?_ | refine litC ?_ | refine litD ?_ | refine And.intro trivial ?_ | refine And.intro (keptI (by repeat' (first | refine And.intro ?_ ?_ | exact True.intro | rfl | (simp; done)))) ?_ | (refine And.intro ?_ ?_ <;> intro h))
    · have h : decide (IntKind.i64.wrap (0 + ((a.map encC).length : Int)) < 0) = true := h
      rw [e1] at h; simp at h; omega
    refine ⟨⟨1, by omega⟩, ?_, by dsimp only; omega⟩
    repeat' (first | refine fitE_ls rfl rfl ?_ | refine fitC_ls rfl ?_ | exact congrArg I (by decide) | exact congrArg I (by simpa using e1) | refine And.intro ?_ ?_ | exact True.intro | rfl | exact ⟨_, _, rfl, rfl⟩ | exact ⟨_, _, rfl⟩ | decide | (simp [St.get, St.obj, look, lookD, unI, List.map_take]; done))
  · have e1 : IntKind.i64.wrap ((a.length : Int) + ((b.map encC).length : Int)) = ((a.length + b.length : Nat) : Int) := by rw [wrap_id] <;> simp <;> omega
    repeat (first | refine And.intro (by rfl) ?_ | refine litA ?_ | refine litB ?_ | refine litC ?_ | refine litD ?_ | refine And.intro trivial ?_ | refine And.intro (keptI (by repeat' (first | refine And.intro ?_ ?_ | exact True.intro | rfl | (simp; done)))) ?_)
    refine ⟨(by show (0 : Int) ≤ 1; decide), [encCs b], rfl, ?_⟩
    have e2 : ((([a, b].take 1).map List.length).sum : Nat) = a.length := by simp
    repeat' (first | refine And.intro (by rfl) ?_ | refine litA ?_ | refine litB ?_ | refine litC ?_ | refine litD ?_ | refine And.intro trivial ?_ | refine And.intro (keptI (by repeat' (first | refine And.intro ?_ ?_ | exact True.intro | rfl | (simp; done)))) ?_ | (refine And.intro ?_ ?_ <;> intro h))
    · have h : decide (IntKind.i64.wrap (((([a, b].take 1).map List.length).sum : Nat) + ((b.map encC).length : Int)) < 0) = true := h
      rw [e2, e1] at h; simp at h; omega
    refine ⟨⟨2, by omega⟩, ?_, by dsimp only; omega⟩
    repeat' (first | refine fitE_ls rfl rfl ?_ | refine fitC_ls rfl ?_ | exact congrArg I (by decide) | exact congrArg I (by simpa using e1) | refine And.intro ?_ ?_ | exact True.intro | rfl | exact ⟨_, _, rfl, rfl⟩ | exact ⟨_, _, rfl⟩ | decide | (simp [St.get, St.obj, look, lookD, unI, List.map_take]; done))
set_option maxRecDepth 10000
/-! slices.Compact at claims -/
def compL : List Claim → List Claim
  | [] => []
  | x :: l => match l with
    | [] => [x]
    | y :: _ => if x = y then compL l else x :: compL l
theorem compL_cons2 (x y : Claim) (l : List Claim) : compL (x :: y :: l) = if x = y then compL (y :: l) else x :: compL (y :: l) := by rw [compL]
theorem compL_snoc (l : List Claim) (y : Claim) : compL (l ++ [y]) = if l.getLast? = some y then compL l else compL l ++ [y] := by
  induction l with
  | nil => simp [compL]
  | cons x l ih =>
    cases l with
    | nil =>
      show compL [x, y] = _
      rw [compL_cons2]
      by_cases h : x = y
      · subst h; simp [compL]
      · simp [compL, h]
    | cons z l =>
      have e : (x :: z :: l).getLast? = (z :: l).getLast? := by simp [List.getLast?_cons_cons]
      rw [e]
      show compL (x :: z :: (l ++ [y])) = _
      rw [compL_cons2, compL_cons2]
      have ih : compL (z :: (l ++ [y])) = _ := ih
      rw [ih]
      split <;> split <;> simp
theorem compL_take {l : List Claim} {k : Nat} {x y : Claim} (h0 : 0 < k) (hy : l[k]? = some y) (hx : l[k - 1]? = some x) : compL (l.take (k + 1)) = if x = y then compL (l.take k) else compL (l.take k) ++ [y] := by
  have hk : k < l.length := (List.getElem?_eq_some_iff.1 hy).1
  have et : l.take (k + 1) = l.take k ++ [y] := by rw [List.take_add_one, hy]; rfl
  rw [et, compL_snoc, last_take hk h0 hx]
  simp
theorem compL_len (l : List Claim) : (compL l).length ≤ l.length := by
  induction l with
  | nil => simp [compL]
  | cons x l ih =>
    cases l with
    | nil => simp [compL]
    | cons y l => rw [compL_cons2]; split <;> simp at ih ⊢ <;> omega
theorem compL_short {l : List Claim} (h : l.length < 2) : compL l = l := by
  rcases l with _ | ⟨x, _ | ⟨y, l⟩⟩
  · rfl
  · rfl
  · simp at h; omega
theorem f257_ok (l : List Claim) (hb : l.length ≤ 1073741824) : C 257 [.sl (some 38) 2 (l.map encC)] (.sl (some 38) 2 ((compL l).map encC)) := by
  refine fn_ok (G := G) tabOK hm pl257 Tryz.func257 rfl (by kernel_rfl) (by kernel_rfl) rfl rfl ?_
  repeat' (first | refine And.intro (by rfl) ?_ | refine litA ?_ | refine litB ?_ | refine litC ?_ | refine litD ?_ | refine And.intro trivial ?_ | refine And.intro (keptI (by repeat' (first | refine And.intro ?_ ?_ | exact True.intro | rfl | (simp; done)))) ?_ | (refine And.intro ?_ ?_ <;> intro h))
  · rw [compL_short (by simp at h; omega)]
    exact ⟨rfl, rfl⟩
  have h2 : 2 ≤ l.length := by simp at h; omega
  clear h
  refine loop_ok (G := G) tabOK hm pl257 (α := {k : Nat // 1 ≤ k ∧ k ≤ l.length ∧ compL (l.take k) = l.take k}) (fun k => ⟨61, [(3, I k.1), (0, .ls 1500 (l.map encC).length)], [(1500, .row 38 2 (l.map encC) false)]⟩) (fun k => l.length - k.1) (by kernel_rfl)
    ⟨1, by omega, by omega, compL_short (by rw [List.length_take]; omega)⟩ ?_ ?_
  · repeat' (first | refine fitE_ls rfl rfl ?_ | refine fitC_ls rfl ?_ | refine And.intro ?_ ?_ | exact True.intro | rfl | exact ⟨_, _, rfl, rfl⟩ | exact ⟨_, _, rfl⟩ | decide | (simp [St.get, St.obj, look, lookD, unI, List.map_take]; done))
  rintro ⟨k, h1, hk, hx⟩
  repeat (first | refine And.intro (by rfl) ?_ | refine litA ?_ | refine litB ?_ | refine litC ?_ | refine litD ?_ | refine And.intro trivial ?_ | refine And.intro (keptI (by repeat' (first | refine And.intro ?_ ?_ | exact True.intro | rfl | (simp; done)))) ?_)
  refine And.intro (fun h => ?_) (fun h => ?_)
  rotate_left
  · have hkl : l.length ≤ k := by simp at h; omega
    rw [List.take_of_length_le hkl] at hx
    repeat (first | refine And.intro (by rfl) ?_ | refine litA ?_ | refine litB ?_ | refine litC ?_ | refine litD ?_ | refine And.intro trivial ?_ | refine And.intro (keptI (by repeat' (first | refine And.intro ?_ ?_ | exact True.intro | rfl | (simp; done)))) ?_)
    rw [hx]
    exact ⟨rfl, rfl⟩
  have hk' : k < l.length := by simp at h; omega
  obtain ⟨y, hy⟩ : ∃ y, l[k]? = some y := ⟨_, List.getElem?_eq_getElem hk'⟩
  obtain ⟨x, hxx⟩ : ∃ x, l[k - 1]? = some x := ⟨_, List.getElem?_eq_getElem (by omega)⟩
  have e1 : IntKind.i64.wrap ((k : Int) - 1) = ((k - 1 : Nat) : Int) := by rw [wrap_id] <;> omega
  have ek : IntKind.i64.wrap ((k : Int) + 1) = ((k + 1 : Nat) : Int) := by rw [wrap_id] <;> omega
  have hct := compL_take (by omega) hy hxx
  repeat (first | refine And.intro (by rfl) ?_ | refine litA ?_ | refine litB ?_ | refine litC ?_ | refine litD ?_ | refine And.intro trivial ?_ | refine And.intro (keptI (by repeat' (first | refine And.intro ?_ ?_ | exact True.intro | rfl | (simp; done)))) ?_)
  refine ⟨by simp, by simp; omega, ?_⟩
  repeat (first | refine And.intro (by rfl) ?_ | refine litA ?_ | refine litB ?_ | refine litC ?_ | refine litD ?_ | refine And.intro trivial ?_ | refine And.intro (keptI (by repeat' (first | refine And.intro ?_ ?_ | exact True.intro | rfl | (simp; done)))) ?_)
  refine ⟨encC y, by simp [hy], ?_⟩
  repeat (first | refine And.intro (by rfl) ?_ | refine litA ?_ | refine litB ?_ | refine litC ?_ | refine litD ?_ | refine And.intro trivial ?_ | refine And.intro (keptI (by repeat' (first | refine And.intro ?_ ?_ | exact True.intro | rfl | (simp; done)))) ?_)
  refine ⟨by rw [e1]; omega, by rw [e1]; simp; omega, ?_⟩
  repeat (first | refine And.intro (by rfl) ?_ | refine litA ?_ | refine litB ?_ | refine litC ?_ | refine litD ?_ | refine And.intro trivial ?_ | refine And.intro (keptI (by repeat' (first | refine And.intro ?_ ?_ | exact True.intro | rfl | (simp; done)))) ?_)
  refine ⟨encC x, by rw [e1]; simp [hxx], ?_⟩
  repeat' (first | refine And.intro (by rfl) ?_ | refine litA ?_ | refine litB ?_ | refine litC ?_ | refine litD ?_ | refine And.intro trivial ?_ | refine And.intro (keptI (by repeat' (first | refine And.intro ?_ ?_ | exact True.intro | rfl | (simp; done)))) ?_ | (refine And.intro ?_ ?_ <;> intro h))
  · have hxy : y = x := of_decide_eq_true ((eqC y x).symm.trans h)
    rw [if_pos hxy.symm, hx] at hct
    refine .inr ⟨rfl, rfl, by simp, by simp; omega, Int.le_refl _, .inl ⟨rfl, ?_⟩⟩
    repeat (first | refine And.intro (by rfl) ?_ | refine litA ?_ | refine litB ?_ | refine litC ?_ | refine litD ?_ | refine And.intro trivial ?_ | refine And.intro (keptI (by repeat' (first | refine And.intro ?_ ?_ | exact True.intro | rfl | (simp; done)))) ?_)
    refine loop_ok (G := G) tabOK hm pl257 (α := {q : Nat × List Claim // 1 ≤ q.1 ∧ k + q.1 ≤ l.length ∧ q.2.length = l.length ∧ (compL (l.take (k + q.1))).length ≤ k + q.1 - 1 ∧ q.2.take (compL (l.take (k + q.1))).length = compL (l.take (k + q.1)) ∧ q.2.drop (k + q.1 - 1) = l.drop (k + q.1 - 1)})
      (fun q => ⟨61, [(5, I q.1.1), (3, I (compL (l.take (k + q.1.1))).length), (4, .lw 1500 (q.1.2.map encC).length k), (0, .ls 1500 (q.1.2.map encC).length)], [(1500, .row 38 2 (q.1.2.map encC) false)]⟩) (fun q => l.length - q.1.1) (by kernel_rfl)
      ⟨(1, l), by dsimp only; omega, by dsimp only; omega, rfl, by dsimp only; rw [hct, List.length_take]; omega, by dsimp only; rw [hct, List.length_take, Nat.min_eq_left (by omega)], rfl⟩ ?_ ?_
    · have e3 : (k : Int) = ((compL (l.take (k + 1))).length : Int) := by rw [hct, List.length_take, Nat.min_eq_left (by omega)]
      repeat' (first | refine fitE_ls rfl rfl ?_ | refine fitC_ls rfl ?_ | exact congrArg I e3 | refine And.intro ?_ ?_ | exact True.intro | rfl | exact ⟨_, _, rfl, rfl⟩ | exact ⟨_, _, rfl⟩ | decide | (simp [St.get, St.obj, look, lookD, unI, List.map_take]; done))
    rintro ⟨⟨j, r⟩, j1, j2, hr, hm, ht, hd⟩
    dsimp only at j1 j2 hr hm ht hd
    repeat (first | refine And.intro (by rfl) ?_ | refine litA ?_ | refine litB ?_ | refine litC ?_ | refine litD ?_ | refine And.intro trivial ?_ | refine And.intro (keptI (by repeat' (first | refine And.intro ?_ ?_ | exact True.intro | rfl | (simp; done)))) ?_)
    refine And.intro (fun h => ?_) (fun h => ?_)
    rotate_left
    · have hl : l.length ≤ k + j := by simp [hr] at h; omega
      have hkj : l.take (k + j) = l := List.take_of_length_le hl
      rw [hkj] at hm ht
      repeat (first | refine And.intro (by rfl) ?_ | refine litA ?_ | refine litB ?_ | refine litC ?_ | refine litD ?_ | refine And.intro trivial ?_ | refine And.intro (keptI (by repeat' (first | refine And.intro ?_ ?_ | exact True.intro | rfl | (simp; done)))) ?_)
      refine .inr ⟨rfl, rfl, by simp, by dsimp only; rw [hkj]; simp [hr]; omega, Int.le_refl _, .inl ⟨rfl, ?_⟩⟩
      repeat (first | refine And.intro (by rfl) ?_ | refine litA ?_ | refine litB ?_ | refine litC ?_ | refine litD ?_ | refine And.intro trivial ?_ | refine And.intro (keptI (by repeat' (first | refine And.intro ?_ ?_ | exact True.intro | rfl | (simp; done)))) ?_)
      refine ⟨by dsimp only; rw [hkj]; simp [hr]; omega, ?_⟩
      repeat (first | refine And.intro (by rfl) ?_ | refine litA ?_ | refine litB ?_ | refine litC ?_ | refine litD ?_ | refine And.intro trivial ?_ | refine And.intro (keptI (by repeat' (first | refine And.intro ?_ ?_ | exact True.intro | rfl | (simp; done)))) ?_)
      refine .inr ⟨rfl, by dsimp only; rw [hkj]; simp [hr]; omega, by decide, by simp, by dsimp only; rw [hkj]; simp [hr]; omega, .inr ⟨rfl, rfl, ?_⟩⟩
      repeat (first | refine And.intro (by rfl) ?_ | refine litA ?_ | refine litB ?_ | refine litC ?_ | refine litD ?_ | refine And.intro trivial ?_ | refine And.intro (keptI (by repeat' (first | refine And.intro ?_ ?_ | exact True.intro | rfl | (simp; done)))) ?_)
      have e1 : ((compL (l.take (k + j))).length : Int).toNat = (compL l).length := by rw [hkj]; simp
      have hes : ∀ Z : List (List PV), List.take ((compL (l.take (k + j))).length : Int).toNat (List.take ((compL (l.take (k + j))).length : Int).toNat (r.map encC) ++ Z) = (compL l).map encC := by
        intro Z
        rw [e1, List.take_append_of_le_length (by simp [hr]; omega), List.take_take, Nat.min_self, ← List.map_take, ht]
      refine ⟨?_, hes _, rfl⟩
      exact e1.trans ((congrArg List.length (hes _)).trans (by simp)).symm
    have hj' : k + j < l.length := by simp [hr] at h; omega
    obtain ⟨z, hz⟩ : ∃ z, l[k + j]? = some z := ⟨_, List.getElem?_eq_getElem hj'⟩
    obtain ⟨u, hu⟩ : ∃ u, l[k + j - 1]? = some u := ⟨_, List.getElem?_eq_getElem (by omega)⟩
    have hrz : r[k + j]? = some z := by
      have := congrArg (fun q => q[1]?) hd
      simp only [List.getElem?_drop] at this
      rw [show k + j - 1 + 1 = k + j by omega] at this
      rw [this, hz]
    have hru : r[k + j - 1]? = some u := by
      have := congrArg (fun q => q[0]?) hd
      simp only [List.getElem?_drop, Nat.add_zero] at this
      rw [this, hu]
    have ct := compL_take (l := l) (k := k + j) (by omega) hz hu
    have ej : IntKind.i64.wrap ((j : Int) + 1) = ((j + 1 : Nat) : Int) := by rw [wrap_id] <;> omega
    have ej1 : IntKind.i64.wrap ((j : Int) - 1) = ((j - 1 : Nat) : Int) := by rw [wrap_id] <;> omega
    repeat (first | refine And.intro (by rfl) ?_ | refine litA ?_ | refine litB ?_ | refine litC ?_ | refine litD ?_ | refine And.intro trivial ?_ | refine And.intro (keptI (by repeat' (first | refine And.intro ?_ ?_ | exact True.intro | rfl | (simp; done)))) ?_)
    refine ⟨by simp, by simp [hr]; omega, ?_⟩
    repeat (first | refine And.intro (by rfl) ?_ | refine litA ?_ | refine litB ?_ | refine litC ?_ | refine litD ?_ | refine And.intro trivial ?_ | refine And.intro (keptI (by repeat' (first | refine And.intro ?_ ?_ | exact True.intro | rfl | (simp; done)))) ?_)
    refine ⟨encC z, by simp [hrz], ?_⟩
    repeat (first | refine And.intro (by rfl) ?_ | refine litA ?_ | refine litB ?_ | refine litC ?_ | refine litD ?_ | refine And.intro trivial ?_ | refine And.intro (keptI (by repeat' (first | refine And.intro ?_ ?_ | exact True.intro | rfl | (simp; done)))) ?_)
    refine ⟨by rw [ej1]; omega, by rw [ej1]; simp [hr]; omega, ?_⟩
    repeat (first | refine And.intro (by rfl) ?_ | refine litA ?_ | refine litB ?_ | refine litC ?_ | refine litD ?_ | refine And.intro trivial ?_ | refine And.intro (keptI (by repeat' (first | refine And.intro ?_ ?_ | exact True.intro | rfl | (simp; done)))) ?_)
    refine ⟨encC u, by rw [ej1, List.getElem?_map, show k + ((j - 1 : Nat) : Int).toNat = k + j - 1 by omega, hru]; rfl, ?_⟩
    repeat' (first | refine And.intro (by rfl) ?_ | refine litA ?_ | refine litB ?_ | refine litC ?_ | refine litD ?_ | refine And.intro trivial ?_ | refine And.intro (keptI (by repeat' (first | refine And.intro ?_ ?_ | exact True.intro | rfl | (simp; done)))) ?_ | (refine And.intro ?_ ?_ <;> intro h))
    · have hzu : (!decide (z = u)) = true := by rw [← eqC z u]; exact h
      have hzu : ¬ u = z := fun e => by rw [e] at hzu; simp at hzu
      rw [if_neg hzu] at ct
      obtain ⟨c, hcc⟩ : ∃ c, (compL (l.take (k + j))).length = c := ⟨_, rfl⟩
      rw [hcc] at hm ht
      refine ⟨by simp, by simp [hr]; omega, ?_⟩
      repeat (first | refine And.intro (by rfl) ?_ | refine litA ?_ | refine litB ?_ | refine litC ?_ | refine litD ?_ | refine And.intro trivial ?_ | refine And.intro (keptI (by repeat' (first | refine And.intro ?_ ?_ | exact True.intro | rfl | (simp; done)))) ?_)
      refine ⟨encC z, by simp [hrz], ?_⟩
      repeat (first | refine And.intro (by rfl) ?_ | refine litA ?_ | refine litB ?_ | refine litC ?_ | refine litD ?_ | refine And.intro trivial ?_ | refine And.intro (keptI (by repeat' (first | refine And.intro ?_ ?_ | exact True.intro | rfl | (simp; done)))) ?_)
      refine ⟨by simp, by simp [hr]; omega, ?_⟩
      repeat (first | refine And.intro (by rfl) ?_ | refine litA ?_ | refine litB ?_ | refine litC ?_ | refine litD ?_ | refine And.intro trivial ?_ | refine And.intro (keptI (by repeat' (first | refine And.intro ?_ ?_ | exact True.intro | rfl | (simp; done)))) ?_)
      obtain ⟨v, hv⟩ : ∃ v, r[c]? = some v := ⟨_, List.getElem?_eq_getElem (by omega)⟩
      have hfj : (compL (l.take (k + (j + 1)))).length = c + 1 := by rw [← Nat.add_assoc, ct, List.length_append, hcc]; rfl
      have ec : IntKind.i64.wrap (((compL (l.take (k + j))).length : Int) + 1) = ((compL (l.take (k + (j + 1)))).length : Int) := by rw [hfj, hcc, wrap_id] <;> omega
      have hs : (r.map encC).set ((compL (l.take (k + j))).length : Int).toNat (encC z) = (r.set c z).map encC := by rw [hcc, List.map_set]; simp
      have hlw : (r.map encC).length = ((r.set c z).map encC).length := by simp
      refine ⟨encC v, ?_, rfl, rfl, rfl, ?_⟩
      · dsimp only; rw [hcc]; simp [hv]
      repeat (first | refine And.intro (by rfl) ?_ | refine litA ?_ | refine litB ?_ | refine litC ?_ | refine litD ?_ | refine And.intro trivial ?_ | refine And.intro (keptI (by repeat' (first | refine And.intro ?_ ?_ | exact True.intro | rfl | (simp; done)))) ?_)
      refine ⟨⟨(j + 1, r.set c z), by dsimp only; omega, by dsimp only; omega, by simp [hr], ?_, ?_, ?_⟩, ?_, ?_⟩
      · dsimp only; rw [hfj]; omega
      · dsimp only; rw [hfj, take_set_snoc (by omega), ht, ← Nat.add_assoc, ct]
      · dsimp only; rw [List.drop_set_of_lt (by omega), show k + (j + 1) - 1 = k + j - 1 + 1 by omega, ← List.drop_drop, hd, List.drop_drop]
      · repeat' (first | refine fitE_ls rfl rfl ?_ | refine fitC_ls rfl ?_ | exact congrArg I ej | exact congrArg I ec | exact congrArg (fun m => Obj.row 38 2 m false) hs | (refine fitE_ls (congrArg (PV.ls 1500) hlw) rfl ?_) | exact congrArg (fun m => PV.lw 1500 m k) hlw | refine And.intro ?_ ?_ | exact True.intro | rfl | exact ⟨_, _, rfl, rfl⟩ | exact ⟨_, _, rfl⟩ | decide | (simp [St.get, St.obj, look, lookD, unI, List.map_take]; done))
      · dsimp only; omega
    · have hzu : (!decide (z = u)) = false := by rw [← eqC z u]; exact h
      have hzu : u = z := by simp at hzu; exact hzu.symm
      rw [if_pos hzu] at ct
      have e5 : compL (l.take (k + j)) = compL (l.take (k + (j + 1))) := by rw [← Nat.add_assoc, ct]
      refine ⟨⟨(j + 1, r), by dsimp only; omega, by dsimp only; omega, hr, by dsimp only; rw [← e5]; omega, by dsimp only; rw [← e5]; exact ht, ?_⟩, ?_, ?_⟩
      · dsimp only; rw [show k + (j + 1) - 1 = k + j - 1 + 1 by omega, ← List.drop_drop, hd, List.drop_drop]
      · repeat' (first | refine fitE_ls rfl rfl ?_ | refine fitC_ls rfl ?_ | exact congrArg I ej | exact congrArg (fun m : List Claim => I (m.length : Nat)) e5 | refine And.intro ?_ ?_ | exact True.intro | rfl | exact ⟨_, _, rfl, rfl⟩ | exact ⟨_, _, rfl⟩ | decide | (simp [St.get, St.obj, look, lookD, unI, List.map_take]; done))
      · dsimp only; omega
  · have hxy : decide (y = x) = false := (eqC y x).symm.trans h
    have hxy : ¬ x = y := fun e => by rw [e] at hxy; simp at hxy
    rw [if_neg hxy, hx] at hct
    refine ⟨⟨k + 1, by omega, hk', by rw [hct, List.take_add_one, hy]; rfl⟩, ?_, ?_⟩
    · repeat' (first | refine fitE_ls rfl rfl ?_ | refine fitC_ls rfl ?_ | exact congrArg I ek | refine And.intro ?_ ?_ | exact True.intro | rfl | exact ⟨_, _, rfl, rfl⟩ | exact ⟨_, _, rfl⟩ | decide | (simp [St.get, St.obj, look, lookD, unI, List.map_take]; done))
    · dsimp only; omega
end Go.Proofs.YtnkpakakgfkpbaaGreat.V
end
section
namespace Go.Proofs
open Go.Shelf
def Tryz.sortClaim_ren : Go.Shelf.Ren := ⟨fun | 6 => 256 | 15 => 280 | 14 => 279 | 28 => 301 | 29 => 302 | 20 => 293 | 21 => 294 | 22 => 295 | 23 => 296 | 24 => 297 | 25 => 298 | 26 => 299 | 27 => 300 | 46 => 315 | 47 => 316 | 48 => 317 | 49 => 318 | 50 => 319 | 57 => 324 | n => n, fun | 22 => 28 | 24 => 38 | 25 => 171 | 3 => 3 | 39 => 165 | 0 => 0 | 53 => 143 | 55 => 177 | 4 => 4 | 46 => 238 | 45 => 237 | 50 => 124 | 5 => 5 | 9 => 9 | 66 => 251 | 70 => 255 | 76 => 260 | 77 => 183 | n => n, fun | n => n⟩
theorem Tryz.sortClaim : Go.Proofs.SlLaysF0.n6 Tryz.prog Tryz.sortClaim_ren := {
  mixed := by kernel_rfl
  f6 := ⟨Tryz.f256.name, by decide, Tryz.func256.trans (congrArg some (by kernel_rfl))⟩
  f14 := ⟨Tryz.f279.name, by decide, Tryz.func279.trans (congrArg some (by kernel_rfl))⟩
  f15 := Tryz.func280.trans (congrArg some (by kernel_rfl))
  f20 := ⟨Tryz.f293.name, by decide, Tryz.func293.trans (congrArg some (by kernel_rfl))⟩
  f21 := ⟨Tryz.f294.name, by decide, Tryz.func294.trans (congrArg some (by kernel_rfl))⟩
  f22 := ⟨Tryz.f295.name, by decide, Tryz.func295.trans (congrArg some (by kernel_rfl))⟩
  f23 := ⟨Tryz.f296.name, by decide, Tryz.func296.trans (congrArg some (by kernel_rfl))⟩
  f24 := ⟨Tryz.f297.name, by decide, Tryz.func297.trans (congrArg some (by kernel_rfl))⟩
  f25 := ⟨Tryz.f298.name, by decide, Tryz.func298.trans (congrArg some (by kernel_rfl))⟩
  f26 := ⟨Tryz.f299.name, by decide, Tryz.func299.trans (congrArg some (by kernel_rfl))⟩
  f27 := ⟨Tryz.f300.name, by decide, Tryz.func300.trans (congrArg some (by kernel_rfl))⟩
  f28 := Tryz.func301.trans (congrArg some (by kernel_rfl))
  f29 := Tryz.func302.trans (congrArg some (by kernel_rfl))
  f46 := ⟨Tryz.f315.name, by decide, Tryz.func315.trans (congrArg some (by kernel_rfl))⟩
  f47 := Tryz.func316.trans (congrArg some (by kernel_rfl))
  f48 := Tryz.func317.trans (congrArg some (by kernel_rfl))
  f49 := ⟨Tryz.f318.name, by decide, Tryz.func318.trans (congrArg some (by kernel_rfl))⟩
  f50 := ⟨Tryz.f319.name, by decide, Tryz.func319.trans (congrArg some (by kernel_rfl))⟩
  f57 := ⟨Tryz.f324.name, by decide, Tryz.func324.trans (congrArg some (by kernel_rfl))⟩
  t0 := Tryz.underlying0
  a0 := Tryz.isAgg0
  z0 := Tryz.sizeOf0
  v0 := Tryz.zeroValue0
  t3 := Tryz.underlying3
  a3 := Tryz.isAgg3
  z3 := Tryz.sizeOf3
  v3 := Tryz.zeroValue3
  t4 := Tryz.underlying4
  a4 := Tryz.isAgg4
  z4 := Tryz.sizeOf4
  v4 := Tryz.zeroValue4
  t5 := Tryz.underlying5
  a5 := Tryz.isAgg5
  z5 := Tryz.sizeOf5
  v5 := Tryz.zeroValue5
  t9 := Tryz.underlying9
  a9 := Tryz.isAgg9
  z9 := Tryz.sizeOf9
  v9 := Tryz.zeroValue9
  t22 := Tryz.underlying28
  a22 := Tryz.isAgg28
  z22 := Tryz.sizeOf28
  v22 := Tryz.zeroValue28
  t25 := Tryz.underlying171
  a25 := Tryz.isAgg171
  z25 := Tryz.sizeOf171
  v25 := Tryz.zeroValue171
  t39 := Tryz.underlying165
  a39 := Tryz.isAgg165
  z39 := Tryz.sizeOf165
  v39 := Tryz.zeroValue165
  t45 := Tryz.underlying237
  a45 := Tryz.isAgg237
  z45 := Tryz.sizeOf237
  v45 := Tryz.zeroValue237
  t46 := Tryz.underlying238
  a46 := Tryz.isAgg238
  z46 := Tryz.sizeOf238
  v46 := Tryz.zeroValue238
  t50 := Tryz.underlying124
  a50 := Tryz.isAgg124
  z50 := Tryz.sizeOf124
  v50 := Tryz.zeroValue124
  t53 := Tryz.underlying143
  a53 := Tryz.isAgg143
  z53 := Tryz.sizeOf143
  v53 := Tryz.zeroValue143
  t55 := Tryz.underlying177
  a55 := Tryz.isAgg177
  z55 := Tryz.sizeOf177
  v55 := Tryz.zeroValue177
  t66 := Tryz.underlying251
  a66 := Tryz.isAgg251
  z66 := Tryz.sizeOf251
  v66 := Tryz.zeroValue251
  t70 := Tryz.underlying255
  a70 := Tryz.isAgg255
  z70 := Tryz.sizeOf255
  v70 := Tryz.zeroValue255
  t76 := Tryz.underlying260
  a76 := Tryz.isAgg260
  z76 := Tryz.sizeOf260
  v76 := Tryz.zeroValue260
  t77 := Tryz.underlying183
  a77 := Tryz.isAgg183
  z77 := Tryz.sizeOf183
  v77 := Tryz.zeroValue183 }
end Go.Proofs
end
section
namespace Go.Proofs.YtnkpakakgfkpbaaGreat.V
open Go.Vi
set_option maxRecDepth 10000
open Go.RowKit
open Go.Sort (grow grow_empty putRow SWO flatK HoldsK Holds putRowK)
/-! slices.SortFunc at claims, from the library's contract -/
instance : Inhabited Claim := ⟨⟨0, 0⟩⟩
def valC (c : Claim) : List Value := [.int .i64 c.topic, .int .i64 c.value]
theorem cmp_lays (x y : Claim) (W : World) : Calls PG 193 #[.agg (valC x).toArray, .agg (valC y).toArray] W fun e w' => e = .returned (.int .i64 (cmpC x y)) ∧ ∃ q os', w' = grow (W.drewN q) os' := by
  have one : ∀ c : Claim, rep2 (fun _ => none) ⟨fun _ => undef, fun _ => 0⟩ (Vi.look []) (.agg (encC c)) (.agg (valC c).toArray) := fun c =>
    ⟨valC c, rfl, .cons (.sc rfl) (.cons (.sc rfl) .nil), by intro u hu; simp [valC] at hu; rcases hu with rfl | rfl <;> rfl⟩
  exact CallOK.lays (vs := [.agg (valC x).toArray, .agg (valC y).toArray]) (f193_ok x y) (by intro p hp; simp at hp; rcases hp with rfl | rfl <;> rfl) (rd := fun _ => none) (L := ⟨fun _ => undef, fun _ => 0⟩)
    ⟨(fun p v h => by cases h), (fun id _ _ h => by cases h), (fun id _ _ _ _ h => by cases h), fun i j b h => by cases (show (none : Option Nat) = some b from h)⟩ (.cons (one x) (.cons (one y) .nil))
def ltC (a b : Claim) : Prop := a.topic < b.topic ∨ a.topic = b.topic ∧ a.value < b.value
instance (a b : Claim) : Decidable (ltC a b) := by unfold ltC; infer_instance
theorem cmpC_lt (a b : Claim) : cmpC a b < 0 ↔ ltC a b := by
  cases a; cases b
  simp only [cmpC, ltC, Claim.mk.injEq]
  split
  · omega
  · split <;> omega
theorem ltOf_T (a b : Claim) : (Go.Proofs.ltOf cmpC) a b = true ↔ (a.topic < b.topic ∨ a.topic = b.topic ∧ a.value < b.value) := by
  unfold Go.Proofs.ltOf
  rw [decide_eq_true_iff, cmpC_lt]; rfl
theorem ltOf_F (a b : Claim) : (Go.Proofs.ltOf cmpC) a b = false ↔ ¬ (a.topic < b.topic ∨ a.topic = b.topic ∧ a.value < b.value) := by
  rw [← ltOf_T]; simp
theorem swoC : SWO (Go.Proofs.ltOf cmpC) where
  irrefl x := by rw [ltOf_F]; omega
  trans x y z h1 h2 := by rw [ltOf_T] at *; omega
  ntrans x y z h1 h2 := by rw [ltOf_F] at *; omega
theorem totC (x y : Claim) (h1 : (Go.Proofs.ltOf cmpC) x y = false) (h2 : (Go.Proofs.ltOf cmpC) y x = false) : x = y := by
  rw [ltOf_F] at *
  cases x; cases y
  simp only [Claim.mk.injEq] at *; omega
def sortL (l : List Claim) : List Claim := l.mergeSort fun x y => !(Go.Proofs.ltOf cmpC) y x
theorem sortL_len (l : List Claim) : (sortL l).length = l.length := by simp [sortL]
theorem rep_valC {rd : Rd} {l : List Claim} : ∀ {xs : List Value}, All2 (RepP rd) (l.map encC).flatten xs → xs = l.flatMap valC := by
  induction l with
  | nil => intro xs h; cases h; rfl
  | cons c l ih =>
    intro xs h
    cases h with
    | cons h0 h =>
      cases h with
      | cons h1 h =>
        cases h0
        cases h1
        rw [ih h]; rfl
theorem val_repC {rd : Rd} (l : List Claim) : All2 (RepP rd) (l.map encC).flatten (l.flatMap valC) := by
  induction l with
  | nil => exact .nil
  | cons c l ih => exact .cons (.sc rfl) (.cons (.sc rfl) ih)
theorem flat2 (l : List Claim) : ∀ t, t < l.length * 2 → (l.flatMap valC)[t]? = some ((valC l.toArray[t / 2]!)[t % 2]!) := by
  induction l with
  | nil => intro t h; simp at h
  | cons c l ih =>
    intro t h
    rcases t with _ | _ | t
    · simp [valC]
    · simp [valC]
    · have h' : t < l.length * 2 := by simp at h; omega
      have e : (c :: l).flatMap valC = Value.int .i64 c.topic :: Value.int .i64 c.value :: l.flatMap valC := rfl
      rw [e]
      have e1 : (t + 1 + 1) / 2 = t / 2 + 1 := by omega
      have e2 : (t + 1 + 1) % 2 = t % 2 := by omega
      rw [e1, e2]
      have := ih t h'
      simp only [List.getElem?_cons_succ, this]
      congr 2
      have hlt : t / 2 < l.length := by omega
      simp [hlt]
theorem flatK_C (l : List Claim) : flatK valC 2 l.toArray = (l.flatMap valC).toArray := by
  have hs : ((l.flatMap valC).toArray).size = l.length * 2 := by
    have : ∀ l : List Claim, (l.flatMap valC).length = l.length * 2 := by
      intro l
      induction l with
      | nil => rfl
      | cons c l ih => simp [List.flatMap_cons, valC] at ih ⊢; omega
    simpa using this l
  refine Go.Sort.ext_get! (by rw [hs]; simp) fun t ht => ?_
  have ht : t < l.length * 2 := by simpa using ht
  rw [Go.Sort.get_flatK _ _ _ t (by simpa using ht)]
  have h1 := flat2 l t ht
  have h2 : t < ((l.flatMap valC).toArray).size := by rw [hs]; exact ht
  rw [getElem!_pos ((l.flatMap valC).toArray) t h2]
  have h3 : t < (l.flatMap valC).length := by simpa using h2
  rw [List.getElem?_eq_getElem h3] at h1
  simp only [List.getElem_toArray]
  exact (Option.some.inj h1).symm
theorem f256_ok (l : List Claim) (hl : l.length ≤ 1073741824) : C 256 [.sl (some 38) 2 (l.map encC), .fn 193 []] (.tup []) [(0, .row 38 2 ((sortL l).map encC) false)] := by
  refine inplace_ok (u := .tuple #[]) (callFunc_enter Tryz.func256 rfl (by kernel_rfl)) (by simp [plain]) (by simp [sortL_len]) (by simp) rfl (fun _ _ _ => ⟨[], rfl, .nil⟩) ?_
  intro rd v0 vs w xs hown hxs _ hrest _ _
  have hvs : vs = [.func (.func 193) #[] #[]] := by
    cases hrest with
    | cons h0 h1 =>
      cases h1
      cases h0 with
      | fn hl _ =>
        rename_i q _
        have : q = [] := List.eq_nil_of_length_eq_zero (by simpa using hl.symm)
        subst this; rfl
  subst hvs
  have hx := rep_valC hxs
  subst hx
  rw [List.length_map] at hown
  rw [List.length_map, sortL_len]
  have aE : ∀ w, (isAgg (Tryz.sortClaim_ren.t 24)).run PG w = .ok true w := fun w => run_isAgg_row (tabOK 38 _ rfl).agg
  have zE : ∀ w, (Go.sizeOf (Tryz.sortClaim_ren.t 24)).run PG w = .ok 2 w := fun w => by
    obtain ⟨i, z, h1, h2, _⟩ := (tabOK 38 _ rfl).info
    exact run_sizeOf_row ⟨i, h1, h2⟩
  have eg : ∀ args w, (callFunc 193 args).run PG w = .ok (.enter 193 args) w := callFunc_enter Tryz.func193 rfl (by kernel_rfl)
  rcases hown.2 with ⟨hv, hn⟩ | ⟨g, cap, cur, hv, hb, hh, hnc, hcm, hcs, htk⟩
  · have hl0 : l = [] := List.eq_nil_of_length_eq_zero hn
    subst hl0
    subst hv
    have h := Go.Proofs.AnyF.slices_SortFunc_none { Tryz.sortClaim with } none 0 (.func (.func 193) #[] #[]) w
    change Calls PG 256 _ _ _ at h
    refine h.mono ?_
    rintro e w' ⟨rfl, rfl⟩
    exact ⟨rfl, [], hown, by rw [show sortL [] = [] by simp [sortL]]; exact .nil, World.grownBy.refl _ _, Nat.le_refl _⟩
  · subst hv
    have hglt : g < w.heap.size := (Array.getElem?_eq_some_iff.1 hh).1
    have hH : HoldsK valC 2 w g 0 l.toArray := by
      unfold HoldsK
      rw [flatK_C]
      exact row_holds hown
    have hcl := Go.Proofs.AnyQ.slices_SortFunc_total Tryz.sortClaim 2 aE zE valC (fun _ => rfl) (fun x v hv => by simp [valC] at hv; rcases hv with rfl | rfl <;> rfl) cmpC swoC 193 #[] g 0 cap l.toArray w eg (fun _ _ _ _ x y => cmp_lays x y _) hH hglt (by simp; omega) totC
    change Calls PG 256 _ _ _ at hcl
    refine Calls.mono (by simpa using hcl) ?_
    rintro e w' ⟨rfl, n, os, rfl⟩
    have hp := row_put (m := n) hown (flatK valC 2 (sortL l).toArray) (by simp [sortL_len]) os
    have hF : (flatK valC 2 (sortL l).toArray).toList = (sortL l).flatMap valC := by rw [flatK_C]
    rw [hF] at hp
    exact ⟨rfl, (sortL l).flatMap valC, hp.1, val_repC _, hp.2.1, hp.2.2⟩
set_option maxRecDepth 10000
/-! claims.Sorted: what it comes to -/
theorem strict_ext : ∀ {a b : List Claim}, a.Pairwise ltC → b.Pairwise ltC → (∀ x, x ∈ a ↔ x ∈ b) → a = b
  | [], [], _, _, _ => rfl
  | [], y :: b, _, _, h => absurd ((h y).2 (by simp)) (by simp)
  | x :: a, [], _, _, h => absurd ((h x).1 (by simp)) (by simp)
  | x :: a, y :: b, ha, hb, h => by
    have irr : ∀ z, ¬ ltC z z := fun z h => by unfold ltC at h; omega
    have tr : ∀ u v z, ltC u v → ltC v z → ltC u z := fun u v z h1 h2 => by unfold ltC at *; omega
    obtain ⟨ha1, ha2⟩ := List.pairwise_cons.1 ha
    obtain ⟨hb1, hb2⟩ := List.pairwise_cons.1 hb
    have hxy : x = y := by
      rcases List.mem_cons.1 ((h x).1 (by simp)) with e | e
      · exact e
      · rcases List.mem_cons.1 ((h y).2 (by simp)) with e2 | e2
        · exact e2.symm
        · exact absurd (tr _ _ _ (hb1 x e) (ha1 y e2)) (irr _)
    subst hxy
    have : a = b := strict_ext ha2 hb2 fun z => by
      have hz := h z
      simp only [List.mem_cons] at hz
      constructor
      · intro hm
        rcases hz.1 (.inr hm) with e | e
        · exact absurd (e ▸ ha1 z hm) (irr _)
        · exact e
      · intro hm
        rcases hz.2 (.inr hm) with e | e
        · exact absurd (e ▸ hb1 z hm) (irr _)
        · exact e
    rw [this]
theorem allC_mem (x : Claim) : x ∈ allC ↔ x.ok = true := by
  simp only [allC, List.mem_map, List.mem_range, Claim.ok, decide_eq_true_eq]
  constructor
  · rintro ⟨n, hn, rfl⟩
    dsimp only; omega
  · intro h
    refine ⟨16 * x.topic.toNat + x.value.toNat, by omega, ?_⟩
    cases x
    simp only [Claim.mk.injEq] at *
    omega
theorem allC_sorted : allC.Pairwise ltC := by
  rw [allC, List.pairwise_map]
  exact List.pairwise_lt_range.imp fun {a b} h => by unfold ltC; dsimp only; omega
theorem sortC_sorted (l : List Claim) : (sortC l).Pairwise ltC := List.Pairwise.filter _ allC_sorted
theorem sortC_mem (l : List Claim) (x : Claim) : x ∈ sortC l ↔ x.ok = true ∧ x ∈ l := by simp [sortC, allC_mem]
def leC (a b : Claim) : Prop := ltC a b ∨ a = b
theorem compL_mem (l : List Claim) (x : Claim) : x ∈ compL l ↔ x ∈ l := by
  induction l with
  | nil => simp [compL]
  | cons y l ih =>
    cases l with
    | nil => simp [compL]
    | cons z l =>
      rw [compL_cons2]
      split
      · rename_i h; subst h; rw [ih]; simp
      · simp only [List.mem_cons, ih]
theorem compL_strict (l : List Claim) (h : l.Pairwise leC) : (compL l).Pairwise ltC := by
  induction l with
  | nil => simp [compL]
  | cons y l ih =>
    obtain ⟨h1, h2⟩ := List.pairwise_cons.1 h
    cases l with
    | nil => simp [compL]
    | cons z l =>
      rw [compL_cons2]
      split
      · exact ih h2
      · rename_i hne
        refine List.pairwise_cons.2 ⟨fun x hx => ?_, ih h2⟩
        have hx := (compL_mem _ _).1 hx
        obtain ⟨h3, _⟩ := List.pairwise_cons.1 h2
        have hyz : ltC y z := (h1 z (by simp)).resolve_right hne
        rcases List.mem_cons.1 hx with rfl | hx
        · exact hyz
        · rcases h3 x hx with e | e
          · unfold ltC at *; omega
          · rw [← e]; exact hyz
theorem sortL_sorted (l : List Claim) : (sortL l).Pairwise leC := by
  have h := List.pairwise_mergeSort (le := fun x y => !(Go.Proofs.ltOf cmpC) y x) (fun a b c h1 h2 => by
    simp only [Bool.not_eq_true', ltOf_F] at *; omega) (fun a b => by
    cases h1 : (Go.Proofs.ltOf cmpC) b a
    · simp
    · cases h2 : (Go.Proofs.ltOf cmpC) a b
      · simp
      · rw [ltOf_T] at *; omega) l
  refine h.imp fun {a b} h => ?_
  simp only [Bool.not_eq_true', ltOf_F] at h
  unfold leC ltC
  cases a; cases b
  simp only [Claim.mk.injEq] at *; omega
theorem sorted_eq (l : List Claim) : compL (sortL (l.filter Claim.ok)) = sortC l := by
  refine strict_ext (compL_strict _ (sortL_sorted _)) (sortC_sorted l) fun x => ?_
  rw [compL_mem, sortC_mem]
  simp [sortL, and_comm]
theorem sortC_len (l : List Claim) : (sortC l).length ≤ 128 := by
  unfold sortC
  refine Nat.le_trans (List.length_filter_le _ _) ?_
  simp [allC]
theorem f227_ok (l : List Claim) (hl : l.length ≤ 1000000000) : C 227 [encCs l] (encCs (sortC l)) := by
  have h1 := f180_ok (l.map encC) (by simp; omega)
  have h2 := f254_ok l (by omega)
  have hfl : (l.filter Claim.ok).length ≤ l.length := List.length_filter_le _ _
  have h3 := f256_ok (l.filter Claim.ok) (by omega)
  have h4 := f257_ok (sortL (l.filter Claim.ok)) (by rw [sortL_len]; omega)
  rw [sorted_eq] at h4
  have hlen : ((l.filter Claim.ok).map encC).length = ((sortL (l.filter Claim.ok)).map encC).length := by simp [sortL_len]
  generalize sortL (l.filter Claim.ok) = S at *
  generalize l.filter Claim.ok = D at *
  refine fn_ok (G := G) tabOK hm D0 Tryz.func227 rfl (by kernel_rfl) (by kernel_rfl) rfl rfl ?_
  repeat (first | refine And.intro (by rfl) ?_ | refine litA ?_ | refine litB ?_ | refine litC ?_ | refine litD ?_ | refine And.intro trivial ?_ | refine And.intro (keptI (by repeat' (first | refine And.intro ?_ ?_ | exact True.intro | rfl | (simp; done)))) ?_)
  refine ⟨_, _, h1, rfl, rfl, trivial, ?_⟩
  repeat (first | refine And.intro (by rfl) ?_ | refine litA ?_ | refine litB ?_ | refine litC ?_ | refine litD ?_ | refine And.intro trivial ?_ | refine And.intro (keptI (by repeat' (first | refine And.intro ?_ ?_ | exact True.intro | rfl | (simp; done)))) ?_)
  refine ⟨_, _, h2, rfl, rfl, ⟨trivial, trivial⟩, ?_⟩
  repeat (first | refine And.intro (by rfl) ?_ | refine litA ?_ | refine litB ?_ | refine litC ?_ | refine litD ?_ | refine And.intro trivial ?_ | refine And.intro (keptI (by repeat' (first | refine And.intro ?_ ?_ | exact True.intro | rfl | (simp; done)))) ?_)
  refine ⟨_, _, h3, rfl, rfl, ⟨⟨rfl, rfl, hlen.symm, rfl⟩, trivial⟩, ?_⟩
  repeat (first | refine And.intro (by rfl) ?_ | refine litA ?_ | refine litB ?_ | refine litC ?_ | refine litD ?_ | refine And.intro trivial ?_ | refine And.intro (keptI (by repeat' (first | refine And.intro ?_ ?_ | exact True.intro | rfl | (simp; done)))) ?_)
  refine ⟨hlen, ?_⟩
  repeat (first | refine And.intro (by rfl) ?_ | refine litA ?_ | refine litB ?_ | refine litC ?_ | refine litD ?_ | refine And.intro trivial ?_ | refine And.intro (keptI (by repeat' (first | refine And.intro ?_ ?_ | exact True.intro | rfl | (simp; done)))) ?_)
  refine ⟨_, _, h4, rfl, rfl, ⟨trivial, trivial⟩, ?_⟩
  repeat (first | refine And.intro (by rfl) ?_ | refine litA ?_ | refine litB ?_ | refine litC ?_ | refine litD ?_ | refine And.intro trivial ?_ | refine And.intro (keptI (by repeat' (first | refine And.intro ?_ ?_ | exact True.intro | rfl | (simp; done)))) ?_)
  repeat' (first | refine And.intro ?_ ?_ | exact .inl rfl | rfl | exact .inr ⟨rfl, _, rfl⟩)
def concatM (l : List Message) : List Claim := l.flatMap fun m => m.votes ++ m.accepts
theorem f181_ok (a b : List Claim) (h : a.length + b.length ≤ 1000000000) : C 181 [encCs a, encCs b] (encCs (unionC a b)) := by
  have h1 := f228_ok a b h
  have h2 := f227_ok (a ++ b) (by simp; omega)
  refine fn_ok (G := G) tabOK hm D0 Tryz.func181 rfl (by kernel_rfl) (by kernel_rfl) rfl rfl ?_
  repeat (first | refine And.intro (by rfl) ?_ | refine litA ?_ | refine litB ?_ | refine litC ?_ | refine litD ?_ | refine And.intro trivial ?_ | refine And.intro (keptI (by repeat' (first | refine And.intro ?_ ?_ | exact True.intro | rfl | (simp; done)))) ?_)
  refine ⟨_, _, h1, rfl, rfl, trivial, ?_⟩
  repeat (first | refine And.intro (by rfl) ?_ | refine litA ?_ | refine litB ?_ | refine litC ?_ | refine litD ?_ | refine And.intro trivial ?_ | refine And.intro (keptI (by repeat' (first | refine And.intro ?_ ?_ | exact True.intro | rfl | (simp; done)))) ?_)
  refine ⟨_, _, h2, rfl, rfl, trivial, ?_⟩
  repeat (first | refine And.intro (by rfl) ?_ | refine litA ?_ | refine litB ?_ | refine litC ?_ | refine litD ?_ | refine And.intro trivial ?_ | refine And.intro (keptI (by repeat' (first | refine And.intro ?_ ?_ | exact True.intro | rfl | (simp; done)))) ?_)
  repeat' (first | refine And.intro ?_ ?_ | exact .inl rfl | rfl | exact .inr ⟨rfl, _, rfl⟩)
theorem f100_ok (a : List Claim) (x : Claim) (h : a.length ≤ 900000000) : C 100 [encCs a, .agg (encC x)] (encCs (unionC a [x])) := by
  have h1 := f181_ok a [x] (by simp; omega)
  refine fn_ok (G := G) tabOK hm D0 Tryz.func100 rfl (by kernel_rfl) (by kernel_rfl) rfl rfl ?_
  repeat (first | refine And.intro (by rfl) ?_ | refine litA ?_ | refine litB ?_ | refine litC ?_ | refine litD ?_ | refine And.intro trivial ?_ | refine And.intro (keptI (by repeat' (first | refine And.intro ?_ ?_ | exact True.intro | rfl | (simp; done)))) ?_)
  refine ⟨_, _, h1, rfl, rfl, trivial, ?_⟩
  repeat (first | refine And.intro (by rfl) ?_ | refine litA ?_ | refine litB ?_ | refine litC ?_ | refine litD ?_ | refine And.intro trivial ?_ | refine And.intro (keptI (by repeat' (first | refine And.intro ?_ ?_ | exact True.intro | rfl | (simp; done)))) ?_)
  repeat' (first | refine And.intro ?_ ?_ | exact .inl rfl | rfl | exact .inr ⟨rfl, _, rfl⟩)
set_option maxRecDepth 10000
/-! voting.known, next -/
def knownS (l : List Message) : List Claim := sortC (concatM l)
theorem concatM_snoc (l : List Message) (m : Message) : concatM (l ++ [m]) = concatM l ++ (m.votes ++ m.accepts) := by simp [concatM]
theorem concatM_take_le (l : List Message) (k : Nat) : (concatM (l.take k)).length ≤ (concatM l).length := by
  have : concatM (l.take k ++ l.drop k) = concatM (l.take k) ++ concatM (l.drop k) := List.flatMap_append
  rw [List.take_append_drop] at this
  rw [this, List.length_append]; omega
theorem f260_ok (l : List Message) (hb : (concatM l).length ≤ 1000000000) : C 260 [encML l] (encCs (knownS l)) := by
  refine fn_real (G := G) tabOK hm pl260 Tryz.func260 rfl (by kernel_rfl) (by kernel_rfl) rfl rfl fun hr => ?_
  have hlen : (l.length : Int) ≤ 9223372036854775807 := by simpa using RealA.len hr (sz := 7) (es := l.map encM) (by simp)
  clear hr
  repeat (first | refine And.intro (by rfl) ?_ | refine litA ?_ | refine litB ?_ | refine litC ?_ | refine litD ?_ | refine And.intro trivial ?_ | refine And.intro (keptI (by repeat' (first | refine And.intro ?_ ?_ | exact True.intro | rfl | (simp; done)))) ?_)
  refine loop_ok (G := G) tabOK hm pl260 (α := {k : Nat // k ≤ l.length ∧ True}) (fun k => ⟨22, [(8, I k.1), (7, I (l.map encM).length), (6, encML l), (3, .ls 16000 ((concatM (l.take k.1)).map encC).length)], [(16000, .row 38 2 ((concatM (l.take k.1)).map encC) false)]⟩) (fun k => l.length - k.1) (by kernel_rfl) ⟨0, Nat.zero_le _, by first | rfl | simp⟩ ?_ ?_
  · repeat' (first | refine fitE_ls rfl rfl ?_ | refine fitC_ls rfl ?_ | refine And.intro ?_ ?_ | exact True.intro | rfl | exact ⟨_, _, rfl, rfl⟩ | exact ⟨_, _, rfl⟩ | decide | (simp [St.get, St.obj, look, lookD, unI, List.map_take]; done))
  rintro ⟨k, hk, hx⟩
  repeat (first | refine And.intro (by rfl) ?_ | refine litA ?_ | refine litB ?_ | refine litC ?_ | refine litD ?_ | refine And.intro trivial ?_ | refine And.intro (keptI (by repeat' (first | refine And.intro ?_ ?_ | exact True.intro | rfl | (simp; done)))) ?_)
  refine And.intro (fun h => ?_) (fun h => ?_)
  rotate_left
  · have hl : l.length ≤ k := by simpa using h
    repeat (first | refine And.intro (by rfl) ?_ | refine litA ?_ | refine litB ?_ | refine litC ?_ | refine litD ?_ | refine And.intro trivial ?_ | refine And.intro (keptI (by repeat' (first | refine And.intro ?_ ?_ | exact True.intro | rfl | (simp; done)))) ?_)
    have ek : l.take k = l := List.take_of_length_le hl
    try rw [ek] at hx
    have h227 := f227_ok (concatM l) hb
    have h227 : C 227 [.sl none 2 ((concatM (l.take k)).map encC)] (encCs (knownS l)) := by rw [ek]; exact h227
    refine ⟨_, _, h227, rfl, rfl, trivial, ?_⟩
    repeat (first | refine And.intro (by rfl) ?_ | refine litA ?_ | refine litB ?_ | refine litC ?_ | refine litD ?_ | refine And.intro trivial ?_ | refine And.intro (keptI (by repeat' (first | refine And.intro ?_ ?_ | exact True.intro | rfl | (simp; done)))) ?_)
    repeat' (first | refine And.intro ?_ ?_ | exact .inl rfl | rfl | exact .inr ⟨rfl, _, rfl⟩)
  have hk' : k < l.length := by simpa using h
  obtain ⟨y, hy⟩ : ∃ y, l[k]? = some y := ⟨_, List.getElem?_eq_getElem hk'⟩
  have e : IntKind.i64.wrap ((k : Int) + 1) = ((k + 1 : Nat) : Int) := by rw [wrap_id] <;> omega
  have et : l.take (k + 1) = l.take k ++ [y] := by rw [List.take_add_one, hy]; rfl
  repeat (first | refine And.intro (by rfl) ?_ | refine litA ?_ | refine litB ?_ | refine litC ?_ | refine litD ?_ | refine And.intro trivial ?_ | refine And.intro (keptI (by repeat' (first | refine And.intro ?_ ?_ | exact True.intro | rfl | (simp; done)))) ?_)
  have htl := concatM_take_le l (k + 1)
  have hsn : concatM (l.take (k + 1)) = concatM (l.take k) ++ (y.votes ++ y.accepts) := by rw [et, concatM_snoc]
  rw [hsn] at htl
  simp only [List.length_append] at htl
  obtain ⟨mn, ms, ⟨mt, mnn, mi⟩, mv, ma⟩ := y
  dsimp only at htl hsn
  refine ⟨by simp, encM ⟨mn, ms, .mk mt mnn mi, mv, ma⟩, by simp only [Int.toNat_natCast, List.getElem?_map, hy]; rfl, ?_⟩
  repeat (first | refine And.intro (by rfl) ?_ | refine litA ?_ | refine litB ?_ | refine litC ?_ | refine litD ?_ | refine And.intro trivial ?_ | refine And.intro (keptI (by repeat' (first | refine And.intro ?_ ?_ | exact True.intro | rfl | (simp; done)))) ?_)
  refine ⟨by simp; omega, rfl, ?_⟩
  repeat (first | refine And.intro (by rfl) ?_ | refine litA ?_ | refine litB ?_ | refine litC ?_ | refine litD ?_ | refine And.intro trivial ?_ | refine And.intro (keptI (by repeat' (first | refine And.intro ?_ ?_ | exact True.intro | rfl | (simp; done)))) ?_)
  refine ⟨by simp, by simp; omega, rfl, ?_⟩
  repeat (first | refine And.intro (by rfl) ?_ | refine litA ?_ | refine litB ?_ | refine litC ?_ | refine litD ?_ | refine And.intro trivial ?_ | refine And.intro (keptI (by repeat' (first | refine And.intro ?_ ?_ | exact True.intro | rfl | (simp; done)))) ?_)
  have eo : (concatM (l.take k)).map encC ++ mv.map encC ++ ma.map encC = (concatM (l.take (k + 1))).map encC := by rw [hsn]; simp
  have el : ((concatM (l.take k)).map encC).length + (mv.map encC).length + (ma.map encC).length = ((concatM (l.take (k + 1))).map encC).length := by rw [hsn]; simp; omega
  refine ⟨⟨k + 1, hk', trivial⟩, ?_, ?_⟩
  · repeat' (first | refine fitE_ls rfl rfl ?_ | refine fitC_ls rfl ?_ | refine fitE_ls (congrArg (PV.ls 16000) el) rfl ?_ | exact congrArg I e | exact congrArg (fun m => Obj.row 38 2 m false) eo | refine And.intro ?_ ?_ | exact True.intro | rfl | exact ⟨_, _, rfl, rfl⟩ | exact ⟨_, _, rfl⟩ | decide | (simp [St.get, St.obj, look, lookD, unI, List.map_take]; done))
  · dsimp only; omega
set_option maxRecDepth 10000
/-! voting.next -/
def allV (v : Voter) : List Message := v.heard ++ [sayV v]
def canS (c : List Member) (v : Voter) (x : Claim) : Bool :=
  !decide (x ∈ v.accepts) && (consL (v.accepts ++ [x]) && acceptsS c v.node (sayP Message.votes x (allV v) 0) (sayP Message.accepts x (allV v) 0))
def nextS (c : List Member) (v : Voter) : Option Claim := (knownS (allV v)).find? (canS c v)
def claimD (x : Option Claim) : Claim := x.getD ⟨0, 0⟩
/-- Bounds that are kept by all that voters do. -/
structure okV (v : Voter) : Prop where
  trust : smallT 1000000 v.trust
  votes : v.votes.length ≤ 100000
  accepts : v.accepts.length ≤ 100000
  confirms : v.confirms.length ≤ 100000
  heard : v.heard.length ≤ 1000
  each : ∀ m ∈ v.heard, smallT 1000000 m.trust ∧ m.votes.length ≤ 100000 ∧ m.accepts.length ≤ 100000
theorem concatM_bound (l : List Message) (h : ∀ m ∈ l, m.votes.length ≤ 100000 ∧ m.accepts.length ≤ 100000) : (concatM l).length ≤ l.length * 200000 := by
  induction l with
  | nil => simp [concatM]
  | cons m l ih =>
    have h1 := h m (by simp)
    have h2 := ih fun x hx => h x (by simp [hx])
    simp only [concatM, List.flatMap_cons, List.length_append, List.length_cons] at h2 ⊢
    omega
theorem okV.concat {v : Voter} (h : okV v) : (concatM (allV v)).length ≤ 1000000000 := by
  have := concatM_bound (allV v) (by
    intro m hm
    rcases List.mem_append.1 hm with hm | hm
    · exact ⟨(h.each m hm).2.1, (h.each m hm).2.2⟩
    · rw [List.mem_singleton.1 hm]; exact ⟨h.votes, h.accepts⟩)
  have h1 := h.heard
  have h2 : (allV v).length = v.heard.length + 1 := by simp [allV]
  omega
set_option maxHeartbeats 2000000 in
theorem f230_ok (c : List Member) (v : Voter) (hc : smallC c) (hv : okV v) (hok : ∀ x ∈ v.accepts, x.ok = true) : C 230 [.agg (encV v), encCfg c] (.tup [.agg (encC (claimD (nextS c v))), bval (nextS c v).isSome]) := by
  have h260 := f260_ok (allV v) hv.concat
  have hvh := hv.heard
  have hva := hv.accepts
  have h106 := f106_ok (v.heard.map encM) (by simp; omega)
  have h180 := f180_ok (v.accepts.map encC) (by simp; omega)
  have hK := sortC_len (concatM (allV v))
  have hKok : ∀ y ∈ knownS (allV v), y.ok = true := fun y hy => ((sortC_mem _ _).1 hy).1
  change (knownS (allV v)).length ≤ 128 at hK
  generalize hR : nextS c v = R
  unfold nextS at hR
  have h128 := f128_ok v
  have hall : (allV v).map encM = v.heard.map encM ++ [encM (sayV v)] := by simp [allV]
  have h261 : ∀ x, C 261 [.sl none 7 (v.heard.map encM ++ [encM (sayV v)]), .agg (encC x)] (I (sayP Message.votes x (allV v) 0)) := fun x => by have := f261_ok (allV v) x; rwa [encML, hall] at this
  have h231 : ∀ x, C 231 [.sl none 7 (v.heard.map encM ++ [encM (sayV v)]), .agg (encC x)] (I (sayP Message.accepts x (allV v) 0)) := fun x => by have := f231_ok (allV v) x; rwa [encML, hall] at this
  have hcan : ∀ x, canS c v x = (!decide (x ∈ v.accepts) && (consL (v.accepts ++ [x]) && acceptsS c v.node (sayP Message.votes x (allV v) 0) (sayP Message.accepts x (allV v) 0))) := fun x => rfl
  generalize canS c v = Q at *
  generalize knownS (allV v) = K at *
  rw [encML, hall] at h260
  obtain ⟨nd, sq, ⟨t, n, i⟩, vs, ac, cf, hd⟩ := v
  refine fn_ok (G := G) tabOK hm pl230 Tryz.func230 rfl (by kernel_rfl) (by kernel_rfl) rfl rfl ?_
  repeat (first | refine And.intro (by rfl) ?_ | refine litA ?_ | refine litB ?_ | refine litC ?_ | refine litD ?_ | refine And.intro trivial ?_ | refine And.intro (keptI (by repeat' (first | refine And.intro ?_ ?_ | exact True.intro | rfl | (simp; done)))) ?_)
  refine ⟨_, _, h106, rfl, rfl, trivial, ?_⟩
  repeat (first | refine And.intro (by rfl) ?_ | refine litA ?_ | refine litB ?_ | refine litC ?_ | refine litD ?_ | refine And.intro trivial ?_ | refine And.intro (keptI (by repeat' (first | refine And.intro ?_ ?_ | exact True.intro | rfl | (simp; done)))) ?_)
  refine ⟨_, _, h128, rfl, rfl, trivial, ?_⟩
  dsimp only at hvh hva hok h106 h180 h128 h260 h261 h231 hcan
  repeat (first | refine And.intro (by rfl) ?_ | refine litA ?_ | refine litB ?_ | refine litC ?_ | refine litD ?_ | refine And.intro trivial ?_ | refine And.intro (keptI (by repeat' (first | refine And.intro ?_ ?_ | exact True.intro | rfl | (simp; done)))) ?_)
  refine ⟨by simp [chunks]; omega, rfl, ?_⟩
  repeat (first | refine And.intro (by rfl) ?_ | refine litA ?_ | refine litB ?_ | refine litC ?_ | refine litD ?_ | refine And.intro trivial ?_ | refine And.intro (keptI (by repeat' (first | refine And.intro ?_ ?_ | exact True.intro | rfl | (simp; done)))) ?_)
  refine And.intro (by simp [chunks]) ?_
  refine ⟨_, _, h260, rfl, rfl, trivial, ?_⟩
  repeat (first | refine And.intro (by rfl) ?_ | refine litA ?_ | refine litB ?_ | refine litC ?_ | refine litD ?_ | refine And.intro trivial ?_ | refine And.intro (keptI (by repeat' (first | refine And.intro ?_ ?_ | exact True.intro | rfl | (simp; done)))) ?_)
  refine loop_ok (G := G) tabOK hm pl230 (α := {k : Nat // k ≤ K.length ∧ ∀ y ∈ K.take k, Q y = false}) (fun k => ⟨50, [(19, I k.1), (18, I (K.map encC).length), (17, encCs K), (6, .ls 12000 (hd.map encM).length.succ), (2, .loc 3000 0), (3, .loc 4000 0), (4, .loc 5000 0)], [(5000, .box [I 0, I 0] false), (4000, .box [.sl none 4 (c.map encMb)] false), (3000, .box (encV ⟨nd, sq, .mk t n i, vs, ac, cf, hd⟩) false), (12000, .row 40 7 (hd.map encM ++ [encM (sayV ⟨nd, sq, .mk t n i, vs, ac, cf, hd⟩)]) true)]⟩) (fun k => K.length - k.1) (by kernel_rfl) ⟨0, Nat.zero_le _, by first | rfl | simp⟩ ?_ ?_
  · repeat' (first | refine fitE_ls rfl rfl ?_ | refine fitC_ls rfl ?_ | refine And.intro ?_ ?_ | exact True.intro | rfl | exact ⟨_, _, rfl, rfl⟩ | exact ⟨_, _, rfl⟩ | decide | (simp [St.get, St.obj, look, lookD, unI, List.map_take]; done))
  rintro ⟨k, hk, hx⟩
  repeat (first | refine And.intro (by rfl) ?_ | refine litA ?_ | refine litB ?_ | refine litC ?_ | refine litD ?_ | refine And.intro trivial ?_ | refine And.intro (keptI (by repeat' (first | refine And.intro ?_ ?_ | exact True.intro | rfl | (simp; done)))) ?_)
  refine And.intro (fun h => ?_) (fun h => ?_)
  rotate_left
  · have hl : K.length ≤ k := by simpa using h
    repeat (first | refine And.intro (by rfl) ?_ | refine litA ?_ | refine litB ?_ | refine litC ?_ | refine litD ?_ | refine And.intro trivial ?_ | refine And.intro (keptI (by repeat' (first | refine And.intro ?_ ?_ | exact True.intro | rfl | (simp; done)))) ?_)
    have ek : K.take k = K := List.take_of_length_le hl
    try rw [ek] at hx
    have hn : R = none := by rw [← hR]; exact List.find?_eq_none.2 (by simpa using hx)
    rw [hn]
    repeat' (first | refine And.intro ?_ ?_ | exact .inl rfl | rfl | exact .inr ⟨rfl, _, rfl⟩)
  have hk' : k < K.length := by simpa using h
  obtain ⟨y, hy⟩ : ∃ y, K[k]? = some y := ⟨_, List.getElem?_eq_getElem hk'⟩
  have e : IntKind.i64.wrap ((k : Int) + 1) = ((k + 1 : Nat) : Int) := by rw [wrap_id] <;> omega
  have et : K.take (k + 1) = K.take k ++ [y] := by rw [List.take_add_one, hy]; rfl
  repeat (first | refine And.intro (by rfl) ?_ | refine litA ?_ | refine litB ?_ | refine litC ?_ | refine litD ?_ | refine And.intro trivial ?_ | refine And.intro (keptI (by repeat' (first | refine And.intro ?_ ?_ | exact True.intro | rfl | (simp; done)))) ?_)
  refine ⟨by simp, encC y, by simp [hy], ?_⟩
  repeat (first | refine And.intro (by rfl) ?_ | refine litA ?_ | refine litB ?_ | refine litC ?_ | refine litD ?_ | refine And.intro trivial ?_ | refine And.intro (keptI (by repeat' (first | refine And.intro ?_ ?_ | exact True.intro | rfl | (simp; done)))) ?_)
  refine ⟨_, _, f98_ok ac y, rfl, rfl, trivial, ?_⟩
  have hcy := hcan y
  have hyok : ∀ x ∈ ac ++ [y], x.ok = true := by
    intro x hx
    rcases List.mem_append.1 hx with hx | hx
    · exact hok x hx
    · rw [List.mem_singleton.1 hx]; exact hKok y (List.mem_of_getElem? hy)
  have h124 : C 124 [.sl none 2 (ac.map encC ++ [encC y])] (bval (consL (ac ++ [y]))) := by have := f124_ok (ac ++ [y]) hyok; rwa [encCs, List.map_append] at this
  have h237 := f237_ok c nd (sayP Message.votes y (allV ⟨nd, sq, .mk t n i, vs, ac, cf, hd⟩) 0) (sayP Message.accepts y (allV ⟨nd, sq, .mk t n i, vs, ac, cf, hd⟩) 0) hc
  repeat' (first | refine And.intro (by rfl) ?_ | refine litA ?_ | refine litB ?_ | refine litC ?_ | refine litD ?_ | refine And.intro trivial ?_ | refine And.intro (keptI (by repeat' (first | refine And.intro ?_ ?_ | exact True.intro | rfl | (simp; done)))) ?_ | (refine And.intro ?_ ?_ <;> intro h))
  · have hni : decide (y ∈ ac) = false := h
    rw [hni, Bool.not_false, Bool.true_and] at hcy
    apply Exists.intro
    refine And.intro ?_ (And.intro ?_ ?_)
    · repeat (first | refine And.intro (by rfl) ?_ | refine litA ?_ | refine litB ?_ | refine litC ?_ | refine litD ?_ | refine And.intro trivial ?_ | refine And.intro (keptI (by repeat' (first | refine And.intro ?_ ?_ | exact True.intro | rfl | (simp; done)))) ?_)
      refine ⟨_, _, h180, rfl, rfl, trivial, ?_⟩
      repeat (first | refine And.intro (by rfl) ?_ | refine litA ?_ | refine litB ?_ | refine litC ?_ | refine litD ?_ | refine And.intro trivial ?_ | refine And.intro (keptI (by repeat' (first | refine And.intro ?_ ?_ | exact True.intro | rfl | (simp; done)))) ?_)
      refine ⟨by simp [chunks]; omega, rfl, ?_⟩
      repeat (first | refine And.intro (by rfl) ?_ | refine litA ?_ | refine litB ?_ | refine litC ?_ | refine litD ?_ | refine And.intro trivial ?_ | refine And.intro (keptI (by repeat' (first | refine And.intro ?_ ?_ | exact True.intro | rfl | (simp; done)))) ?_)
      refine And.intro (by simp [chunks]) ?_
      refine ⟨_, _, h124, rfl, rfl, trivial, ?_⟩
      repeat (first | exact Same.refl _ | first | refine And.intro (by rfl) ?_ | refine litA ?_ | refine litB ?_ | refine litC ?_ | refine litD ?_ | refine And.intro trivial ?_ | refine And.intro (keptI (by repeat' (first | refine And.intro ?_ ?_ | exact True.intro | rfl | (simp; done)))) ?_)
    · repeat (first | refine And.intro (by rfl) ?_ | refine litA ?_ | refine litB ?_ | refine litC ?_ | refine litD ?_ | refine And.intro trivial ?_ | refine And.intro (keptI (by repeat' (first | refine And.intro ?_ ?_ | exact True.intro | rfl | (simp; done)))) ?_)
      refine ⟨_, _, h180, rfl, rfl, trivial, ?_⟩
      repeat (first | refine And.intro (by rfl) ?_ | refine litA ?_ | refine litB ?_ | refine litC ?_ | refine litD ?_ | refine And.intro trivial ?_ | refine And.intro (keptI (by repeat' (first | refine And.intro ?_ ?_ | exact True.intro | rfl | (simp; done)))) ?_)
      refine ⟨by simp [chunks]; omega, rfl, ?_⟩
      repeat (first | refine And.intro (by rfl) ?_ | refine litA ?_ | refine litB ?_ | refine litC ?_ | refine litD ?_ | refine And.intro trivial ?_ | refine And.intro (keptI (by repeat' (first | refine And.intro ?_ ?_ | exact True.intro | rfl | (simp; done)))) ?_)
      refine And.intro (by simp [chunks]) ?_
      refine ⟨_, _, h124, rfl, rfl, trivial, ?_⟩
      repeat (first | refine And.intro (by rfl) ?_ | refine litA ?_ | refine litB ?_ | refine litC ?_ | refine litD ?_ | refine And.intro trivial ?_ | refine And.intro (keptI (by repeat' (first | refine And.intro ?_ ?_ | exact True.intro | rfl | (simp; done)))) ?_)
      repeat' (first | refine And.intro ?_ ?_ | exact True.intro | rfl)
    repeat' (first | refine And.intro (by rfl) ?_ | refine litA ?_ | refine litB ?_ | refine litC ?_ | refine litD ?_ | refine And.intro trivial ?_ | refine And.intro (keptI (by repeat' (first | refine And.intro ?_ ?_ | exact True.intro | rfl | (simp; done)))) ?_ | (refine And.intro ?_ ?_ <;> intro h))
    · have hq : Q y = false := by rw [hcy]; simp at h; simp [h]
      refine ⟨⟨k + 1, hk', (by rw [et]; exact all_snoc hx hq)⟩, ?_, ?_⟩
      · repeat' (first | refine fitE_ls rfl rfl ?_ | refine fitC_ls rfl ?_ | exact congrArg I e | refine And.intro ?_ ?_ | exact True.intro | rfl | exact ⟨_, _, rfl, rfl⟩ | exact ⟨_, _, rfl⟩ | decide | (simp [St.get, St.obj, look, lookD, unI, List.map_take]; done))
      · dsimp only; omega
    · have hcy : Q y = acceptsS c nd (sayP Message.votes y (allV ⟨nd, sq, .mk t n i, vs, ac, cf, hd⟩) 0) (sayP Message.accepts y (allV ⟨nd, sq, .mk t n i, vs, ac, cf, hd⟩) 0) := by
        rw [hcy]; simp at h; simp [h]
      refine And.intro (by simp) ?_
      refine ⟨_, _, h261 y, rfl, rfl, trivial, ?_⟩
      repeat (first | refine And.intro (by rfl) ?_ | refine litA ?_ | refine litB ?_ | refine litC ?_ | refine litD ?_ | refine And.intro trivial ?_ | refine And.intro (keptI (by repeat' (first | refine And.intro ?_ ?_ | exact True.intro | rfl | (simp; done)))) ?_)
      refine And.intro (by simp) ?_
      refine ⟨_, _, h231 y, rfl, rfl, trivial, ?_⟩
      repeat (first | refine And.intro (by rfl) ?_ | refine litA ?_ | refine litB ?_ | refine litC ?_ | refine litD ?_ | refine And.intro trivial ?_ | refine And.intro (keptI (by repeat' (first | refine And.intro ?_ ?_ | exact True.intro | rfl | (simp; done)))) ?_)
      refine ⟨_, _, h237, rfl, rfl, trivial, ?_⟩
      repeat' (first | refine And.intro (by rfl) ?_ | refine litA ?_ | refine litB ?_ | refine litC ?_ | refine litD ?_ | refine And.intro trivial ?_ | refine And.intro (keptI (by repeat' (first | refine And.intro ?_ ?_ | exact True.intro | rfl | (simp; done)))) ?_ | (refine And.intro ?_ ?_ <;> intro h))
      · have hq : Q y = true := by rw [hcy]; exact h
        have hf : R = some y := by rw [← hR]; exact find_at hx hy hq
        rw [hf]
        repeat' (first | refine And.intro ?_ ?_ | exact .inl rfl | rfl | exact .inr ⟨rfl, _, rfl⟩)
      · have hq : Q y = false := by rw [hcy]; exact h
        refine ⟨⟨k + 1, hk', (by rw [et]; exact all_snoc hx hq)⟩, ?_, ?_⟩
        · repeat' (first | refine fitE_ls rfl rfl ?_ | refine fitC_ls rfl ?_ | exact congrArg I e | refine And.intro ?_ ?_ | exact True.intro | rfl | exact ⟨_, _, rfl, rfl⟩ | exact ⟨_, _, rfl⟩ | decide | (simp [St.get, St.obj, look, lookD, unI, List.map_take]; done))
        · dsimp only; omega
  · have hin : decide (y ∈ ac) = true := by simpa using h
    apply Exists.intro
    refine And.intro ?_ (And.intro ?_ ?_)
    · repeat (first | exact Same.refl _ | first | refine And.intro (by rfl) ?_ | refine litA ?_ | refine litB ?_ | refine litC ?_ | refine litD ?_ | refine And.intro trivial ?_ | refine And.intro (keptI (by repeat' (first | refine And.intro ?_ ?_ | exact True.intro | rfl | (simp; done)))) ?_)
    · repeat (first | refine And.intro (by rfl) ?_ | refine litA ?_ | refine litB ?_ | refine litC ?_ | refine litD ?_ | refine And.intro trivial ?_ | refine And.intro (keptI (by repeat' (first | refine And.intro ?_ ?_ | exact True.intro | rfl | (simp; done)))) ?_)
      repeat' (first | refine And.intro ?_ ?_ | exact True.intro | rfl)
    repeat (first | refine And.intro (by rfl) ?_ | refine litA ?_ | refine litB ?_ | refine litC ?_ | refine litD ?_ | refine And.intro trivial ?_ | refine And.intro (keptI (by repeat' (first | refine And.intro ?_ ?_ | exact True.intro | rfl | (simp; done)))) ?_)
    have hq : Q y = false := by rw [hcy, hin]; rfl
    refine ⟨⟨k + 1, hk', (by rw [et]; exact all_snoc hx hq)⟩, ?_, ?_⟩
    · repeat' (first | refine fitE_ls rfl rfl ?_ | refine fitC_ls rfl ?_ | exact congrArg I e | refine And.intro ?_ ?_ | exact True.intro | rfl | exact ⟨_, _, rfl, rfl⟩ | exact ⟨_, _, rfl⟩ | decide | (simp [St.get, St.obj, look, lookD, unI, List.map_take]; done))
    · dsimp only; omega
set_option maxRecDepth 10000
/-! voting.settled -/
def putA (v : Voter) (x : Claim) : Voter := { v with accepts := unionC v.accepts [x] }
def settleA (c : List Member) : Nat → Voter → Voter
  | 0, v => v
  | f + 1, v => match nextS c v with
    | none => v
    | some x => settleA c f (putA v x)
def confS (c : List Member) (v : Voter) (x : Claim) : Bool := hasS (elim c (sayP Message.accepts x (allV v) 0)).1 v.node
def confsOf (p : Claim → Bool) (cf : List Claim) (l : List Claim) : List Claim := l.foldl (fun cf x => if p x = true then unionC cf [x] else cf) cf
def settleS (v : Voter) : Voter :=
  let c := viewS v.node v.trust v.heard
  let w := settleA c 129 v
  { w with confirms := confsOf (confS c w) w.confirms w.accepts }
def leftA (v : Voter) : Nat := (allC.filter fun x => !decide (x ∈ v.accepts)).length
theorem leftA_le (v : Voter) : leftA v ≤ 128 := Nat.le_trans (List.length_filter_le _ _) (by simp [allC])
theorem nextS_some {c : List Member} {v : Voter} {x : Claim} (h : nextS c v = some x) : x.ok = true ∧ ¬ x ∈ v.accepts ∧ x ∈ knownS (allV v) ∧ canS c v x = true := by
  unfold nextS at h
  have h1 := List.find?_some h
  have h2 := List.mem_of_find?_eq_some h
  refine ⟨((sortC_mem _ _).1 h2).1, ?_, h2, h1⟩
  unfold canS at h1
  intro h3
  simp [h3] at h1
theorem filter_len_lt {α : Type} {p q : α → Bool} : ∀ {l : List α}, (∀ x ∈ l, q x = true → p x = true) → (∃ x ∈ l, p x = true ∧ q x = false) → (l.filter q).length < (l.filter p).length
  | [], _, h => by obtain ⟨x, hx, _⟩ := h; cases hx
  | y :: l, h1, h2 => by
    have hle : ∀ l : List α, (∀ x ∈ l, q x = true → p x = true) → (l.filter q).length ≤ (l.filter p).length := by
      intro l
      induction l with
      | nil => intro _; simp
      | cons z l ih =>
        intro h
        have := ih fun x hx => h x (List.mem_cons_of_mem _ hx)
        have hz := h z (by simp)
        rw [List.filter_cons, List.filter_cons]
        cases hq : q z
        · cases hp : p z <;> simp <;> omega
        · rw [hz hq]; simp; omega
    have ih := hle l fun x hx => h1 x (List.mem_cons_of_mem _ hx)
    obtain ⟨x, hx, hp, hq⟩ := h2
    rw [List.filter_cons, List.filter_cons]
    rcases List.mem_cons.1 hx with rfl | hx
    · rw [hp, hq]; simp; omega
    · have ih2 := filter_len_lt (l := l) (fun x hx => h1 x (List.mem_cons_of_mem _ hx)) ⟨x, hx, hp, hq⟩
      have hy := h1 y (by simp)
      cases hqy : q y
      · cases hpy : p y <;> simp <;> omega
      · rw [hy hqy]; simp; omega
theorem unionC_mem (a b : List Claim) (x : Claim) : x ∈ unionC a b ↔ x.ok = true ∧ (x ∈ a ∨ x ∈ b) := by rw [unionC, sortC_mem, List.mem_append]
theorem leftA_put {c : List Member} {v : Voter} {x : Claim} (hok : ∀ y ∈ v.accepts, y.ok = true) (h : nextS c v = some x) : leftA (putA v x) < leftA v := by
  obtain ⟨h1, h2, _⟩ := nextS_some h
  refine filter_len_lt (fun y _ hy => ?_) ⟨x, (allC_mem x).2 h1, by simpa using h2, ?_⟩
  · simp only [putA, unionC_mem, Bool.not_eq_true', decide_eq_false_iff_not] at hy ⊢
    exact fun hya => hy ⟨hok y hya, .inl hya⟩
  · simp only [putA, unionC_mem, Bool.not_eq_false', decide_eq_true_eq]
    exact ⟨h1, .inr (by simp)⟩
theorem putA_ok {v : Voter} {x : Claim} : ∀ y ∈ (putA v x).accepts, y.ok = true := fun y hy => ((unionC_mem _ _ _).1 hy).1
theorem settleA_fuel (c : List Member) : ∀ (f g : Nat) (v : Voter), (∀ y ∈ v.accepts, y.ok = true) → leftA v < f → leftA v < g → settleA c f v = settleA c g v := by
  intro f
  induction f with
  | zero => intro g v _ h; omega
  | succ f ih =>
    intro g v hok h1 h2
    cases g with
    | zero => omega
    | succ g =>
      simp only [settleA]
      cases hn : nextS c v with
      | none => rfl
      | some x =>
        have := leftA_put hok hn
        exact ih g _ putA_ok (by omega) (by omega)
theorem settleA_step {c : List Member} {v : Voter} {x : Claim} (hok : ∀ y ∈ v.accepts, y.ok = true) (h : nextS c v = some x) : settleA c 129 v = settleA c 129 (putA v x) := by
  have h1 := leftA_put hok h
  have h2 := leftA_le v
  conv => lhs; rw [settleA]
  rw [h]
  exact settleA_fuel c 128 129 _ putA_ok (by omega) (by omega)
theorem unionC_len (a b : List Claim) : (unionC a b).length ≤ 128 := sortC_len _
theorem okV.put {v : Voter} (h : okV v) (x : Claim) : okV (putA v x) :=
  ⟨h.trust, h.votes, Nat.le_trans (unionC_len _ _) (by omega), h.confirms, h.heard, h.each⟩
theorem viewP_small (v : Int) : ∀ (l : List Message) (c : List Member), smallC c → (∀ m ∈ l, smallT 1000000 m.trust) → smallC (viewP v l c)
  | [], c, h, _ => h
  | m :: l, c, h, hl => by
    rw [viewP]
    refine viewP_small v l _ ?_ fun m hm => hl m (List.mem_cons_of_mem _ hm)
    split
    · refine ⟨by simp [h.1], fun t ht => ?_⟩
      rcases List.mem_or_eq_of_mem_set ht with h1 | h1
      · exact h.2 t h1
      · cases h1; exact hl m (by simp)
    · exact h
theorem viewS_small (v : Int) (t : Trust) (l : List Message) (ht : smallT 1000000 t) (hl : ∀ m ∈ l, smallT 1000000 m.trust) : smallC (viewS v t l) := by
  have h0 := viewP_small v l (List.replicate 10 none) ⟨by simp, fun t ht => by simp at ht⟩ hl
  unfold viewS
  split
  · refine ⟨by rw [List.length_set]; exact h0.1, fun t' ht' => ?_⟩
    rcases List.mem_or_eq_of_mem_set ht' with h1 | h1
    · exact h0.2 t' h1
    · cases h1; exact ht
  · exact h0
theorem confsOf_len (p : Claim → Bool) : ∀ (l cf : List Claim), cf.length ≤ 100000 → (confsOf p cf l).length ≤ 100000
  | [], cf, h => h
  | x :: l, cf, h => by
    unfold confsOf
    rw [List.foldl_cons]
    refine confsOf_len p l _ ?_
    split
    · exact Nat.le_trans (unionC_len _ _) (by omega)
    · exact h
theorem confsOf_snoc (p : Claim → Bool) (cf l : List Claim) (x : Claim) : confsOf p cf (l ++ [x]) = if p x = true then unionC (confsOf p cf l) [x] else confsOf p cf l := by
  unfold confsOf; rw [List.foldl_append]; rfl
def xid (b : Bool) : Nat := match b with | true => 5300 | false => 5000
set_option maxHeartbeats 2000000 in
theorem f182_ok (v : Voter) (hv : okV v) (hok : ∀ x ∈ v.accepts, x.ok = true) : C 182 [.agg (encV v)] (.agg (encV (settleS v))) := by
  have hc := viewS_small v.node v.trust v.heard hv.trust fun m hm => (hv.each m hm).1
  have h229 := f229_ok v.node v.trust v.heard hv.trust fun m hm => (hv.each m hm).1
  have hvh := hv.heard
  have h106 := f106_ok (v.heard.map encM) (by simp; omega)
  generalize hR : settleS v = R
  unfold settleS at hR
  dsimp only at hR
  generalize viewS v.node v.trust v.heard = c at *
  have h230 := fun (v : Voter) (hv : okV v) (hok : ∀ x ∈ v.accepts, x.ok = true) => f230_ok c v hc hv hok
  generalize hW : settleA c 129 v = W at hR
  obtain ⟨nd, sq, ⟨t, n, i⟩, vs, ac, cf, hd⟩ := v
  dsimp only at hvh h229 h106
  have hz : ∀ x : Option Claim, ∃ xt xv, claimD x = ⟨xt, xv⟩ := fun x => ⟨_, _, rfl⟩
  obtain ⟨xt, xv, hx0⟩ := hz (nextS c ⟨nd, sq, .mk t n i, vs, ac, cf, hd⟩)
  have h230a := h230 _ hv hok
  rw [hx0] at h230a
  refine fn_ok (G := G) tabOK hm pl182 Tryz.func182 rfl (by kernel_rfl) (by kernel_rfl) rfl rfl ?_
  repeat (first | refine And.intro (by rfl) ?_ | refine litA ?_ | refine litB ?_ | refine litC ?_ | refine litD ?_ | refine And.intro trivial ?_ | refine And.intro (keptI (by repeat' (first | refine And.intro ?_ ?_ | exact True.intro | rfl | (simp; done)))) ?_)
  refine ⟨_, _, h229, rfl, rfl, trivial, ?_⟩
  repeat (first | refine And.intro (by rfl) ?_ | refine litA ?_ | refine litB ?_ | refine litC ?_ | refine litD ?_ | refine And.intro trivial ?_ | refine And.intro (keptI (by repeat' (first | refine And.intro ?_ ?_ | exact True.intro | rfl | (simp; done)))) ?_)
  refine ⟨_, _, h230a, rfl, rfl, trivial, ?_⟩
  repeat (first | refine And.intro (by rfl) ?_ | refine litA ?_ | refine litB ?_ | refine litC ?_ | refine litD ?_ | refine And.intro trivial ?_ | refine And.intro (keptI (by repeat' (first | refine And.intro ?_ ?_ | exact True.intro | rfl | (simp; done)))) ?_)
  refine loop_ok (G := G) tabOK hm pl182 (α := {q : Bool × List Claim // okV ⟨nd, sq, .mk t n i, vs, q.2, cf, hd⟩ ∧ (∀ x ∈ q.2, x.ok = true) ∧ W = settleA c 129 ⟨nd, sq, .mk t n i, vs, q.2, cf, hd⟩}) (fun q => ⟨63, [(1, .loc 2000 0), (2, .loc 3000 0), (3, .loc 4000 0), (4, .loc (xid q.1.1) 0), (5, bval (nextS c ⟨nd, sq, .mk t n i, vs, q.1.2, cf, hd⟩).isSome)], [(xid q.1.1, .box (encC (claimD (nextS c ⟨nd, sq, .mk t n i, vs, q.1.2, cf, hd⟩))) false), (4000, .box [.sl none 4 (c.map encMb)] false), (3000, .box [I 0, I 0, I 0, .nils, .nils, .nils, .nils, .nils, .nils] false), (2000, .box (encV ⟨nd, sq, .mk t n i, vs, q.1.2, cf, hd⟩) false)]⟩) (fun q => leftA ⟨nd, sq, .mk t n i, vs, q.1.2, cf, hd⟩) (by kernel_rfl) ⟨(false, ac), hv, hok, hW.symm⟩ ?_ ?_
  · repeat' (first | refine fitE_ls rfl rfl ?_ | refine fitC_ls rfl ?_ | exact congrArg (fun m : Claim => I m.topic) hx0.symm | exact congrArg (fun m : Claim => I m.value) hx0.symm | refine And.intro ?_ ?_ | exact True.intro | rfl | exact ⟨_, _, rfl, rfl⟩ | exact ⟨_, _, rfl⟩ | decide | (simp [St.get, St.obj, look, lookD, unI, List.map_take]; done))
  clear hv hok hW h230a hx0 hz xt xv ac
  rintro ⟨⟨b, ac⟩, hv, hok, hx⟩
  dsimp only at hv hok hx
  have hva : ac.length ≤ 100000 := hv.accepts
  have h128 := f128_ok ⟨nd, sq, .mk t n i, vs, ac, cf, hd⟩
  have hcf : cf.length ≤ 100000 := hv.confirms
  have h231 : ∀ x, C 231 [.sl none 7 (hd.map encM ++ [encM (sayV ⟨nd, sq, .mk t n i, vs, ac, cf, hd⟩)]), .agg (encC x)] (I (sayP Message.accepts x (allV ⟨nd, sq, .mk t n i, vs, ac, cf, hd⟩) 0)) := fun x => by
    have := f231_ok (allV ⟨nd, sq, .mk t n i, vs, ac, cf, hd⟩) x
    rwa [encML, show (allV ⟨nd, sq, .mk t n i, vs, ac, cf, hd⟩).map encM = hd.map encM ++ [encM (sayV ⟨nd, sq, .mk t n i, vs, ac, cf, hd⟩)] by simp [allV]] at this
  have h100 := f100_ok ac (claimD (nextS c ⟨nd, sq, .mk t n i, vs, ac, cf, hd⟩)) (by omega)
  cases b
  · repeat' (first | refine And.intro (by rfl) ?_ | refine litA ?_ | refine litB ?_ | refine litC ?_ | refine litD ?_ | refine And.intro trivial ?_ | refine And.intro (keptI (by repeat' (first | refine And.intro ?_ ?_ | exact True.intro | rfl | (simp; done)))) ?_ | (refine And.intro ?_ ?_ <;> intro h))
    · obtain ⟨x, hn⟩ : ∃ x, nextS c ⟨nd, sq, .mk t n i, vs, ac, cf, hd⟩ = some x := Option.isSome_iff_exists.1 h
      rw [hn] at h100
      have hst := settleA_step hok hn
      rw [hst] at hx
      have hpv := hv.put x
      have hpo := putA_ok (v := ⟨nd, sq, .mk t n i, vs, ac, cf, hd⟩) (x := x)
      have hlt := leftA_put hok hn
      rw [hn]
      repeat (first | refine And.intro (by rfl) ?_ | refine litA ?_ | refine litB ?_ | refine litC ?_ | refine litD ?_ | refine And.intro trivial ?_ | refine And.intro (keptI (by repeat' (first | refine And.intro ?_ ?_ | exact True.intro | rfl | (simp; done)))) ?_)
      refine ⟨_, _, h100, rfl, rfl, trivial, ?_⟩
      repeat (first | refine And.intro (by rfl) ?_ | refine litA ?_ | refine litB ?_ | refine litC ?_ | refine litD ?_ | refine And.intro trivial ?_ | refine And.intro (keptI (by repeat' (first | refine And.intro ?_ ?_ | exact True.intro | rfl | (simp; done)))) ?_)
      refine ⟨_, _, h230 _ hpv hpo, rfl, rfl, trivial, ?_⟩
      repeat (first | refine And.intro (by rfl) ?_ | refine litA ?_ | refine litB ?_ | refine litC ?_ | refine litD ?_ | refine And.intro trivial ?_ | refine And.intro (keptI (by repeat' (first | refine And.intro ?_ ?_ | exact True.intro | rfl | (simp; done)))) ?_)
      refine ⟨⟨(true, unionC ac [x]), hpv, hpo, hx⟩, ?_, hlt⟩
      repeat' (first | refine fitE_ls rfl rfl ?_ | refine fitC_ls rfl ?_ | refine And.intro ?_ ?_ | exact True.intro | rfl | exact ⟨_, _, rfl, rfl⟩ | exact ⟨_, _, rfl⟩ | decide | (simp [St.get, St.obj, look, lookD, unI, List.map_take]; done))
    · have hn : nextS c ⟨nd, sq, .mk t n i, vs, ac, cf, hd⟩ = none := by simpa using h
      rw [settleA, hn] at hx
      dsimp only at hx
      subst hx
      have h203 := fun x => f203_ok c nd (sayP Message.accepts x (allV ⟨nd, sq, .mk t n i, vs, ac, cf, hd⟩) 0) hc
      have hp : ∀ x, confS c ⟨nd, sq, .mk t n i, vs, ac, cf, hd⟩ x = hasS (elim c (sayP Message.accepts x (allV ⟨nd, sq, .mk t n i, vs, ac, cf, hd⟩) 0)).1 nd := fun x => rfl
      dsimp only at hR
      generalize confS c ⟨nd, sq, .mk t n i, vs, ac, cf, hd⟩ = p at *
      clear h100
      refine ⟨_, _, h106, rfl, rfl, trivial, ?_⟩
      repeat (first | refine And.intro (by rfl) ?_ | refine litA ?_ | refine litB ?_ | refine litC ?_ | refine litD ?_ | refine And.intro trivial ?_ | refine And.intro (keptI (by repeat' (first | refine And.intro ?_ ?_ | exact True.intro | rfl | (simp; done)))) ?_)
      refine ⟨_, _, h128, rfl, rfl, trivial, ?_⟩
      repeat (first | refine And.intro (by rfl) ?_ | refine litA ?_ | refine litB ?_ | refine litC ?_ | refine litD ?_ | refine And.intro trivial ?_ | refine And.intro (keptI (by repeat' (first | refine And.intro ?_ ?_ | exact True.intro | rfl | (simp; done)))) ?_)
      refine ⟨by simp [chunks]; omega, rfl, ?_⟩
      repeat (first | refine And.intro (by rfl) ?_ | refine litA ?_ | refine litB ?_ | refine litC ?_ | refine litD ?_ | refine And.intro trivial ?_ | refine And.intro (keptI (by repeat' (first | refine And.intro ?_ ?_ | exact True.intro | rfl | (simp; done)))) ?_)
      refine loop_ok (G := G) tabOK hm pl182 (α := {q : Bool × Nat // q.2 ≤ ac.length}) (fun q => ⟨63, [(45, I q.1.2), (44, I (ac.map encC).length), (43, encCs ac), (6, .ls 38000 (hd.map encM).length.succ), (1, .loc 2000 0), (2, .loc 3000 0), (3, .loc 4000 0)], [(4000, .box [.sl none 4 (c.map encMb)] false), (3000, .box [I 0, I 0, I 0, .nils, .nils, .nils, .nils, .nils, .nils] false), (2000, .box (encV ⟨nd, sq, .mk t n i, vs, ac, confsOf p cf (ac.take q.1.2), hd⟩) false), (38000, .row 40 7 (hd.map encM ++ [encM (sayV ⟨nd, sq, .mk t n i, vs, ac, cf, hd⟩)]) q.1.1)]⟩) (fun q => ac.length - q.1.2) (by kernel_rfl) ⟨(false, 0), Nat.zero_le _⟩ ?_ ?_
      · repeat' (first | refine fitE_ls rfl rfl ?_ | refine fitC_ls rfl ?_ | refine And.intro ?_ ?_ | exact True.intro | rfl | exact ⟨_, _, rfl, rfl⟩ | exact ⟨_, _, rfl⟩ | decide | (simp [St.get, St.obj, look, lookD, unI, List.map_take]; done))
      rintro ⟨⟨f, k⟩, hk⟩
      dsimp only at hk
      have hck := confsOf_len p (ac.take k) cf hcf
      cases f
      · repeat (first | refine And.intro (by rfl) ?_ | refine litA ?_ | refine litB ?_ | refine litC ?_ | refine litD ?_ | refine And.intro trivial ?_ | refine And.intro (keptI (by repeat' (first | refine And.intro ?_ ?_ | exact True.intro | rfl | (simp; done)))) ?_)
        refine And.intro (fun h => ?_) (fun h => ?_)
        rotate_left
        · have hl : ac.length ≤ k := by simpa using h
          repeat (first | refine And.intro (by rfl) ?_ | refine litA ?_ | refine litB ?_ | refine litC ?_ | refine litD ?_ | refine And.intro trivial ?_ | refine And.intro (keptI (by repeat' (first | refine And.intro ?_ ?_ | exact True.intro | rfl | (simp; done)))) ?_)
          have ek : ac.take k = ac := List.take_of_length_le hl
          rw [ek]
          subst hR
          repeat' (first | refine And.intro ?_ ?_ | exact .inl rfl | rfl | exact .inr ⟨rfl, _, rfl⟩)
        have hk' : k < ac.length := by simpa using h
        obtain ⟨y, hy⟩ : ∃ y, ac[k]? = some y := ⟨_, List.getElem?_eq_getElem hk'⟩
        have e : IntKind.i64.wrap ((k : Int) + 1) = ((k + 1 : Nat) : Int) := by rw [wrap_id] <;> omega
        have et : ac.take (k + 1) = ac.take k ++ [y] := by rw [List.take_add_one, hy]; rfl
        have hcs := confsOf_snoc p cf (ac.take k) y
        rw [← et] at hcs
        have h100 := f100_ok (confsOf p cf (ac.take k)) y (by omega)
        repeat (first | refine And.intro (by rfl) ?_ | refine litA ?_ | refine litB ?_ | refine litC ?_ | refine litD ?_ | refine And.intro trivial ?_ | refine And.intro (keptI (by repeat' (first | refine And.intro ?_ ?_ | exact True.intro | rfl | (simp; done)))) ?_)
        refine ⟨by simp, encC y, by simp [hy], ?_⟩
        repeat (first | refine And.intro (by rfl) ?_ | refine litA ?_ | refine litB ?_ | refine litC ?_ | refine litD ?_ | refine And.intro trivial ?_ | refine And.intro (keptI (by repeat' (first | refine And.intro ?_ ?_ | exact True.intro | rfl | (simp; done)))) ?_)
        refine And.intro (by simp [chunks]) ?_
        refine ⟨_, _, h231 y, rfl, rfl, trivial, ?_⟩
        repeat (first | refine And.intro (by rfl) ?_ | refine litA ?_ | refine litB ?_ | refine litC ?_ | refine litD ?_ | refine And.intro trivial ?_ | refine And.intro (keptI (by repeat' (first | refine And.intro ?_ ?_ | exact True.intro | rfl | (simp; done)))) ?_)
        refine ⟨_, _, h203 y, rfl, rfl, trivial, ?_⟩
        repeat' (first | refine And.intro (by rfl) ?_ | refine litA ?_ | refine litB ?_ | refine litC ?_ | refine litD ?_ | refine And.intro trivial ?_ | refine And.intro (keptI (by repeat' (first | refine And.intro ?_ ?_ | exact True.intro | rfl | (simp; done)))) ?_ | (refine And.intro ?_ ?_ <;> intro h))
        · have hq : p y = true := by rw [hp]; exact h
          rw [if_pos hq] at hcs
          refine ⟨_, _, h100, rfl, rfl, trivial, ?_⟩
          repeat (first | refine And.intro (by rfl) ?_ | refine litA ?_ | refine litB ?_ | refine litC ?_ | refine litD ?_ | refine And.intro trivial ?_ | refine And.intro (keptI (by repeat' (first | refine And.intro ?_ ?_ | exact True.intro | rfl | (simp; done)))) ?_)
          refine ⟨⟨(true, k + 1), hk'⟩, ?_, ?_⟩
          · repeat' (first | refine fitE_ls rfl rfl ?_ | refine fitC_ls rfl ?_ | exact congrArg I e | exact congrArg encCs hcs.symm | refine And.intro ?_ ?_ | exact True.intro | rfl | exact ⟨_, _, rfl, rfl⟩ | exact ⟨_, _, rfl⟩ | decide | (simp [St.get, St.obj, look, lookD, unI, List.map_take]; done))
          · dsimp only; omega
        · have hq : ¬ p y = true := by rw [hp]; exact Bool.not_eq_true _ ▸ h
          rw [if_neg hq] at hcs
          refine ⟨⟨(true, k + 1), hk'⟩, ?_, ?_⟩
          · repeat' (first | refine fitE_ls rfl rfl ?_ | refine fitC_ls rfl ?_ | exact congrArg I e | exact congrArg encCs hcs.symm | refine And.intro ?_ ?_ | exact True.intro | rfl | exact ⟨_, _, rfl, rfl⟩ | exact ⟨_, _, rfl⟩ | decide | (simp [St.get, St.obj, look, lookD, unI, List.map_take]; done))
          · dsimp only; omega
      · repeat (first | refine And.intro (by rfl) ?_ | refine litA ?_ | refine litB ?_ | refine litC ?_ | refine litD ?_ | refine And.intro trivial ?_ | refine And.intro (keptI (by repeat' (first | refine And.intro ?_ ?_ | exact True.intro | rfl | (simp; done)))) ?_)
        refine And.intro (fun h => ?_) (fun h => ?_)
        rotate_left
        · have hl : ac.length ≤ k := by simpa using h
          repeat (first | refine And.intro (by rfl) ?_ | refine litA ?_ | refine litB ?_ | refine litC ?_ | refine litD ?_ | refine And.intro trivial ?_ | refine And.intro (keptI (by repeat' (first | refine And.intro ?_ ?_ | exact True.intro | rfl | (simp; done)))) ?_)
          have ek : ac.take k = ac := List.take_of_length_le hl
          rw [ek]
          subst hR
          repeat' (first | refine And.intro ?_ ?_ | exact .inl rfl | rfl | exact .inr ⟨rfl, _, rfl⟩)
        have hk' : k < ac.length := by simpa using h
        obtain ⟨y, hy⟩ : ∃ y, ac[k]? = some y := ⟨_, List.getElem?_eq_getElem hk'⟩
        have e : IntKind.i64.wrap ((k : Int) + 1) = ((k + 1 : Nat) : Int) := by rw [wrap_id] <;> omega
        have et : ac.take (k + 1) = ac.take k ++ [y] := by rw [List.take_add_one, hy]; rfl
        have hcs := confsOf_snoc p cf (ac.take k) y
        rw [← et] at hcs
        have h100 := f100_ok (confsOf p cf (ac.take k)) y (by omega)
        repeat (first | refine And.intro (by rfl) ?_ | refine litA ?_ | refine litB ?_ | refine litC ?_ | refine litD ?_ | refine And.intro trivial ?_ | refine And.intro (keptI (by repeat' (first | refine And.intro ?_ ?_ | exact True.intro | rfl | (simp; done)))) ?_)
        refine ⟨by simp, encC y, by simp [hy], ?_⟩
        repeat (first | refine And.intro (by rfl) ?_ | refine litA ?_ | refine litB ?_ | refine litC ?_ | refine litD ?_ | refine And.intro trivial ?_ | refine And.intro (keptI (by repeat' (first | refine And.intro ?_ ?_ | exact True.intro | rfl | (simp; done)))) ?_)
        refine And.intro (by simp [chunks]) ?_
        refine ⟨_, _, h231 y, rfl, rfl, trivial, ?_⟩
        repeat (first | refine And.intro (by rfl) ?_ | refine litA ?_ | refine litB ?_ | refine litC ?_ | refine litD ?_ | refine And.intro trivial ?_ | refine And.intro (keptI (by repeat' (first | refine And.intro ?_ ?_ | exact True.intro | rfl | (simp; done)))) ?_)
        refine ⟨_, _, h203 y, rfl, rfl, trivial, ?_⟩
        repeat' (first | refine And.intro (by rfl) ?_ | refine litA ?_ | refine litB ?_ | refine litC ?_ | refine litD ?_ | refine And.intro trivial ?_ | refine And.intro (keptI (by repeat' (first | refine And.intro ?_ ?_ | exact True.intro | rfl | (simp; done)))) ?_ | (refine And.intro ?_ ?_ <;> intro h))
        · have hq : p y = true := by rw [hp]; exact h
          rw [if_pos hq] at hcs
          refine ⟨_, _, h100, rfl, rfl, trivial, ?_⟩
          repeat (first | refine And.intro (by rfl) ?_ | refine litA ?_ | refine litB ?_ | refine litC ?_ | refine litD ?_ | refine And.intro trivial ?_ | refine And.intro (keptI (by repeat' (first | refine And.intro ?_ ?_ | exact True.intro | rfl | (simp; done)))) ?_)
          refine ⟨⟨(true, k + 1), hk'⟩, ?_, ?_⟩
          · repeat' (first | refine fitE_ls rfl rfl ?_ | refine fitC_ls rfl ?_ | exact congrArg I e | exact congrArg encCs hcs.symm | refine And.intro ?_ ?_ | exact True.intro | rfl | exact ⟨_, _, rfl, rfl⟩ | exact ⟨_, _, rfl⟩ | decide | (simp [St.get, St.obj, look, lookD, unI, List.map_take]; done))
          · dsimp only; omega
        · have hq : ¬ p y = true := by rw [hp]; exact Bool.not_eq_true _ ▸ h
          rw [if_neg hq] at hcs
          refine ⟨⟨(true, k + 1), hk'⟩, ?_, ?_⟩
          · repeat' (first | refine fitE_ls rfl rfl ?_ | refine fitC_ls rfl ?_ | exact congrArg I e | exact congrArg encCs hcs.symm | refine And.intro ?_ ?_ | exact True.intro | rfl | exact ⟨_, _, rfl, rfl⟩ | exact ⟨_, _, rfl⟩ | decide | (simp [St.get, St.obj, look, lookD, unI, List.map_take]; done))
          · dsimp only; omega
  · repeat' (first | refine And.intro (by rfl) ?_ | refine litA ?_ | refine litB ?_ | refine litC ?_ | refine litD ?_ | refine And.intro trivial ?_ | refine And.intro (keptI (by repeat' (first | refine And.intro ?_ ?_ | exact True.intro | rfl | (simp; done)))) ?_ | (refine And.intro ?_ ?_ <;> intro h))
    · obtain ⟨x, hn⟩ : ∃ x, nextS c ⟨nd, sq, .mk t n i, vs, ac, cf, hd⟩ = some x := Option.isSome_iff_exists.1 h
      rw [hn] at h100
      have hst := settleA_step hok hn
      rw [hst] at hx
      have hpv := hv.put x
      have hpo := putA_ok (v := ⟨nd, sq, .mk t n i, vs, ac, cf, hd⟩) (x := x)
      have hlt := leftA_put hok hn
      rw [hn]
      repeat (first | refine And.intro (by rfl) ?_ | refine litA ?_ | refine litB ?_ | refine litC ?_ | refine litD ?_ | refine And.intro trivial ?_ | refine And.intro (keptI (by repeat' (first | refine And.intro ?_ ?_ | exact True.intro | rfl | (simp; done)))) ?_)
      refine ⟨_, _, h100, rfl, rfl, trivial, ?_⟩
      repeat (first | refine And.intro (by rfl) ?_ | refine litA ?_ | refine litB ?_ | refine litC ?_ | refine litD ?_ | refine And.intro trivial ?_ | refine And.intro (keptI (by repeat' (first | refine And.intro ?_ ?_ | exact True.intro | rfl | (simp; done)))) ?_)
      refine ⟨_, _, h230 _ hpv hpo, rfl, rfl, trivial, ?_⟩
      repeat (first | refine And.intro (by rfl) ?_ | refine litA ?_ | refine litB ?_ | refine litC ?_ | refine litD ?_ | refine And.intro trivial ?_ | refine And.intro (keptI (by repeat' (first | refine And.intro ?_ ?_ | exact True.intro | rfl | (simp; done)))) ?_)
      refine ⟨⟨(false, unionC ac [x]), hpv, hpo, hx⟩, ?_, hlt⟩
      repeat' (first | refine fitE_ls rfl rfl ?_ | refine fitC_ls rfl ?_ | refine And.intro ?_ ?_ | exact True.intro | rfl | exact ⟨_, _, rfl, rfl⟩ | exact ⟨_, _, rfl⟩ | decide | (simp [St.get, St.obj, look, lookD, unI, List.map_take]; done))
    · have hn : nextS c ⟨nd, sq, .mk t n i, vs, ac, cf, hd⟩ = none := by simpa using h
      rw [settleA, hn] at hx
      dsimp only at hx
      subst hx
      have h203 := fun x => f203_ok c nd (sayP Message.accepts x (allV ⟨nd, sq, .mk t n i, vs, ac, cf, hd⟩) 0) hc
      have hp : ∀ x, confS c ⟨nd, sq, .mk t n i, vs, ac, cf, hd⟩ x = hasS (elim c (sayP Message.accepts x (allV ⟨nd, sq, .mk t n i, vs, ac, cf, hd⟩) 0)).1 nd := fun x => rfl
      dsimp only at hR
      generalize confS c ⟨nd, sq, .mk t n i, vs, ac, cf, hd⟩ = p at *
      clear h100
      refine ⟨_, _, h106, rfl, rfl, trivial, ?_⟩
      repeat (first | refine And.intro (by rfl) ?_ | refine litA ?_ | refine litB ?_ | refine litC ?_ | refine litD ?_ | refine And.intro trivial ?_ | refine And.intro (keptI (by repeat' (first | refine And.intro ?_ ?_ | exact True.intro | rfl | (simp; done)))) ?_)
      refine ⟨_, _, h128, rfl, rfl, trivial, ?_⟩
      repeat (first | refine And.intro (by rfl) ?_ | refine litA ?_ | refine litB ?_ | refine litC ?_ | refine litD ?_ | refine And.intro trivial ?_ | refine And.intro (keptI (by repeat' (first | refine And.intro ?_ ?_ | exact True.intro | rfl | (simp; done)))) ?_)
      refine ⟨by simp [chunks]; omega, rfl, ?_⟩
      repeat (first | refine And.intro (by rfl) ?_ | refine litA ?_ | refine litB ?_ | refine litC ?_ | refine litD ?_ | refine And.intro trivial ?_ | refine And.intro (keptI (by repeat' (first | refine And.intro ?_ ?_ | exact True.intro | rfl | (simp; done)))) ?_)
      refine loop_ok (G := G) tabOK hm pl182 (α := {q : Bool × Nat // q.2 ≤ ac.length}) (fun q => ⟨63, [(45, I q.1.2), (44, I (ac.map encC).length), (43, encCs ac), (6, .ls 38000 (hd.map encM).length.succ), (1, .loc 2000 0), (2, .loc 3000 0), (3, .loc 4000 0)], [(4000, .box [.sl none 4 (c.map encMb)] false), (3000, .box [I 0, I 0, I 0, .nils, .nils, .nils, .nils, .nils, .nils] false), (2000, .box (encV ⟨nd, sq, .mk t n i, vs, ac, confsOf p cf (ac.take q.1.2), hd⟩) false), (38000, .row 40 7 (hd.map encM ++ [encM (sayV ⟨nd, sq, .mk t n i, vs, ac, cf, hd⟩)]) q.1.1)]⟩) (fun q => ac.length - q.1.2) (by kernel_rfl) ⟨(false, 0), Nat.zero_le _⟩ ?_ ?_
      · repeat' (first | refine fitE_ls rfl rfl ?_ | refine fitC_ls rfl ?_ | refine And.intro ?_ ?_ | exact True.intro | rfl | exact ⟨_, _, rfl, rfl⟩ | exact ⟨_, _, rfl⟩ | decide | (simp [St.get, St.obj, look, lookD, unI, List.map_take]; done))
      rintro ⟨⟨f, k⟩, hk⟩
      dsimp only at hk
      have hck := confsOf_len p (ac.take k) cf hcf
      cases f
      · repeat (first | refine And.intro (by rfl) ?_ | refine litA ?_ | refine litB ?_ | refine litC ?_ | refine litD ?_ | refine And.intro trivial ?_ | refine And.intro (keptI (by repeat' (first | refine And.intro ?_ ?_ | exact True.intro | rfl | (simp; done)))) ?_)
        refine And.intro (fun h => ?_) (fun h => ?_)
        rotate_left
        · have hl : ac.length ≤ k := by simpa using h
          repeat (first | refine And.intro (by rfl) ?_ | refine litA ?_ | refine litB ?_ | refine litC ?_ | refine litD ?_ | refine And.intro trivial ?_ | refine And.intro (keptI (by repeat' (first | refine And.intro ?_ ?_ | exact True.intro | rfl | (simp; done)))) ?_)
          have ek : ac.take k = ac := List.take_of_length_le hl
          rw [ek]
          subst hR
          repeat' (first | refine And.intro ?_ ?_ | exact .inl rfl | rfl | exact .inr ⟨rfl, _, rfl⟩)
        have hk' : k < ac.length := by simpa using h
        obtain ⟨y, hy⟩ : ∃ y, ac[k]? = some y := ⟨_, List.getElem?_eq_getElem hk'⟩
        have e : IntKind.i64.wrap ((k : Int) + 1) = ((k + 1 : Nat) : Int) := by rw [wrap_id] <;> omega
        have et : ac.take (k + 1) = ac.take k ++ [y] := by rw [List.take_add_one, hy]; rfl
        have hcs := confsOf_snoc p cf (ac.take k) y
        rw [← et] at hcs
        have h100 := f100_ok (confsOf p cf (ac.take k)) y (by omega)
        repeat (first | refine And.intro (by rfl) ?_ | refine litA ?_ | refine litB ?_ | refine litC ?_ | refine litD ?_ | refine And.intro trivial ?_ | refine And.intro (keptI (by repeat' (first | refine And.intro ?_ ?_ | exact True.intro | rfl | (simp; done)))) ?_)
        refine ⟨by simp, encC y, by simp [hy], ?_⟩
        repeat (first | refine And.intro (by rfl) ?_ | refine litA ?_ | refine litB ?_ | refine litC ?_ | refine litD ?_ | refine And.intro trivial ?_ | refine And.intro (keptI (by repeat' (first | refine And.intro ?_ ?_ | exact True.intro | rfl | (simp; done)))) ?_)
        refine And.intro (by simp [chunks]) ?_
        refine ⟨_, _, h231 y, rfl, rfl, trivial, ?_⟩
        repeat (first | refine And.intro (by rfl) ?_ | refine litA ?_ | refine litB ?_ | refine litC ?_ | refine litD ?_ | refine And.intro trivial ?_ | refine And.intro (keptI (by repeat' (first | refine And.intro ?_ ?_ | exact True.intro | rfl | (simp; done)))) ?_)
        refine ⟨_, _, h203 y, rfl, rfl, trivial, ?_⟩
        repeat' (first | refine And.intro (by rfl) ?_ | refine litA ?_ | refine litB ?_ | refine litC ?_ | refine litD ?_ | refine And.intro trivial ?_ | refine And.intro (keptI (by repeat' (first | refine And.intro ?_ ?_ | exact True.intro | rfl | (simp; done)))) ?_ | (refine And.intro ?_ ?_ <;> intro h))
        · have hq : p y = true := by rw [hp]; exact h
          rw [if_pos hq] at hcs
          refine ⟨_, _, h100, rfl, rfl, trivial, ?_⟩
          repeat (first | refine And.intro (by rfl) ?_ | refine litA ?_ | refine litB ?_ | refine litC ?_ | refine litD ?_ | refine And.intro trivial ?_ | refine And.intro (keptI (by repeat' (first | refine And.intro ?_ ?_ | exact True.intro | rfl | (simp; done)))) ?_)
          refine ⟨⟨(true, k + 1), hk'⟩, ?_, ?_⟩
          · repeat' (first | refine fitE_ls rfl rfl ?_ | refine fitC_ls rfl ?_ | exact congrArg I e | exact congrArg encCs hcs.symm | refine And.intro ?_ ?_ | exact True.intro | rfl | exact ⟨_, _, rfl, rfl⟩ | exact ⟨_, _, rfl⟩ | decide | (simp [St.get, St.obj, look, lookD, unI, List.map_take]; done))
          · dsimp only; omega
        · have hq : ¬ p y = true := by rw [hp]; exact Bool.not_eq_true _ ▸ h
          rw [if_neg hq] at hcs
          refine ⟨⟨(true, k + 1), hk'⟩, ?_, ?_⟩
          · repeat' (first | refine fitE_ls rfl rfl ?_ | refine fitC_ls rfl ?_ | exact congrArg I e | exact congrArg encCs hcs.symm | refine And.intro ?_ ?_ | exact True.intro | rfl | exact ⟨_, _, rfl, rfl⟩ | exact ⟨_, _, rfl⟩ | decide | (simp [St.get, St.obj, look, lookD, unI, List.map_take]; done))
          · dsimp only; omega
      · repeat (first | refine And.intro (by rfl) ?_ | refine litA ?_ | refine litB ?_ | refine litC ?_ | refine litD ?_ | refine And.intro trivial ?_ | refine And.intro (keptI (by repeat' (first | refine And.intro ?_ ?_ | exact True.intro | rfl | (simp; done)))) ?_)
        refine And.intro (fun h => ?_) (fun h => ?_)
        rotate_left
        · have hl : ac.length ≤ k := by simpa using h
          repeat (first | refine And.intro (by rfl) ?_ | refine litA ?_ | refine litB ?_ | refine litC ?_ | refine litD ?_ | refine And.intro trivial ?_ | refine And.intro (keptI (by repeat' (first | refine And.intro ?_ ?_ | exact True.intro | rfl | (simp; done)))) ?_)
          have ek : ac.take k = ac := List.take_of_length_le hl
          rw [ek]
          subst hR
          repeat' (first | refine And.intro ?_ ?_ | exact .inl rfl | rfl | exact .inr ⟨rfl, _, rfl⟩)
        have hk' : k < ac.length := by simpa using h
        obtain ⟨y, hy⟩ : ∃ y, ac[k]? = some y := ⟨_, List.getElem?_eq_getElem hk'⟩
        have e : IntKind.i64.wrap ((k : Int) + 1) = ((k + 1 : Nat) : Int) := by rw [wrap_id] <;> omega
        have et : ac.take (k + 1) = ac.take k ++ [y] := by rw [List.take_add_one, hy]; rfl
        have hcs := confsOf_snoc p cf (ac.take k) y
        rw [← et] at hcs
        have h100 := f100_ok (confsOf p cf (ac.take k)) y (by omega)
        repeat (first | refine And.intro (by rfl) ?_ | refine litA ?_ | refine litB ?_ | refine litC ?_ | refine litD ?_ | refine And.intro trivial ?_ | refine And.intro (keptI (by repeat' (first | refine And.intro ?_ ?_ | exact True.intro | rfl | (simp; done)))) ?_)
        refine ⟨by simp, encC y, by simp [hy], ?_⟩
        repeat (first | refine And.intro (by rfl) ?_ | refine litA ?_ | refine litB ?_ | refine litC ?_ | refine litD ?_ | refine And.intro trivial ?_ | refine And.intro (keptI (by repeat' (first | refine And.intro ?_ ?_ | exact True.intro | rfl | (simp; done)))) ?_)
        refine And.intro (by simp [chunks]) ?_
        refine ⟨_, _, h231 y, rfl, rfl, trivial, ?_⟩
        repeat (first | refine And.intro (by rfl) ?_ | refine litA ?_ | refine litB ?_ | refine litC ?_ | refine litD ?_ | refine And.intro trivial ?_ | refine And.intro (keptI (by repeat' (first | refine And.intro ?_ ?_ | exact True.intro | rfl | (simp; done)))) ?_)
        refine ⟨_, _, h203 y, rfl, rfl, trivial, ?_⟩
        repeat' (first | refine And.intro (by rfl) ?_ | refine litA ?_ | refine litB ?_ | refine litC ?_ | refine litD ?_ | refine And.intro trivial ?_ | refine And.intro (keptI (by repeat' (first | refine And.intro ?_ ?_ | exact True.intro | rfl | (simp; done)))) ?_ | (refine And.intro ?_ ?_ <;> intro h))
        · have hq : p y = true := by rw [hp]; exact h
          rw [if_pos hq] at hcs
          refine ⟨_, _, h100, rfl, rfl, trivial, ?_⟩
          repeat (first | refine And.intro (by rfl) ?_ | refine litA ?_ | refine litB ?_ | refine litC ?_ | refine litD ?_ | refine And.intro trivial ?_ | refine And.intro (keptI (by repeat' (first | refine And.intro ?_ ?_ | exact True.intro | rfl | (simp; done)))) ?_)
          refine ⟨⟨(true, k + 1), hk'⟩, ?_, ?_⟩
          · repeat' (first | refine fitE_ls rfl rfl ?_ | refine fitC_ls rfl ?_ | exact congrArg I e | exact congrArg encCs hcs.symm | refine And.intro ?_ ?_ | exact True.intro | rfl | exact ⟨_, _, rfl, rfl⟩ | exact ⟨_, _, rfl⟩ | decide | (simp [St.get, St.obj, look, lookD, unI, List.map_take]; done))
          · dsimp only; omega
        · have hq : ¬ p y = true := by rw [hp]; exact Bool.not_eq_true _ ▸ h
          rw [if_neg hq] at hcs
          refine ⟨⟨(true, k + 1), hk'⟩, ?_, ?_⟩
          · repeat' (first | refine fitE_ls rfl rfl ?_ | refine fitC_ls rfl ?_ | exact congrArg I e | exact congrArg encCs hcs.symm | refine And.intro ?_ ?_ | exact True.intro | rfl | exact ⟨_, _, rfl, rfl⟩ | exact ⟨_, _, rfl⟩ | decide | (simp [St.get, St.obj, look, lookD, unI, List.map_take]; done))
          · dsimp only; omega
set_option maxRecDepth 10000
/-! turned, Vote, Declare -/
theorem settleA_shape (c : List Member) : ∀ (f : Nat) (v : Voter), settleA c f v = { v with accepts := (settleA c f v).accepts }
  | 0, v => rfl
  | f + 1, v => by
    rw [settleA]
    cases nextS c v with
    | none => rfl
    | some x => exact settleA_shape c f (putA v x)
theorem settleA_okV (c : List Member) : ∀ (f : Nat) (v : Voter), okV v → okV (settleA c f v)
  | 0, v, h => h
  | f + 1, v, h => by
    rw [settleA]
    cases nextS c v with
    | none => exact h
    | some x => exact settleA_okV c f _ (h.put x)
theorem settleS_shape (v : Voter) : settleS v = { v with accepts := (settleS v).accepts, confirms := (settleS v).confirms } := by
  unfold settleS
  dsimp only
  rw [settleA_shape]
theorem settleS_okV {v : Voter} (h : okV v) : okV (settleS v) := by
  have h1 := settleA_okV (viewS v.node v.trust v.heard) 129 v h
  exact ⟨h1.trust, h1.votes, h1.accepts, confsOf_len _ _ _ h1.confirms, h1.heard, h1.each⟩
theorem okV.smallV {v : Voter} (h : okV v) : smallV v :=
  ⟨h.trust, Nat.le_trans h.votes (by decide), Nat.le_trans h.accepts (by decide), Nat.le_trans h.confirms (by decide), Nat.le_trans h.heard (by decide), fun m hm => ⟨(h.each m hm).1, Nat.le_trans (h.each m hm).2.1 (by decide), Nat.le_trans (h.each m hm).2.2 (by decide)⟩⟩
noncomputable def turnS (vb v : Voter) : Voter := if vb.trust ≠ (settleS v).trust ∨ vb.votes ≠ (settleS v).votes ∨ vb.accepts ≠ (settleS v).accepts then { settleS v with seq := (settleS v).seq + 1 } else settleS v
theorem f101_ok (vb v : Voter) (hv : okV v) (hok : ∀ x ∈ v.accepts, x.ok = true) (hq : 0 ≤ v.seq ∧ v.seq ≤ 1000000) : C 101 [.agg (encV vb), .agg (encV v)] (.agg (encV (turnS vb v))) := by
  refine f101_of vb v (settleS v) (settleS_okV hv).smallV (f182_ok v hv hok) ?_
  rw [settleS_shape]
  exact ⟨hq.2, hq.1⟩
noncomputable def voteS (v : Voter) (x : Claim) : Voter × Int :=
  if validV v = true ∧ x.ok = true then
    if v.votes.any (contra x) = true ∨ v.accepts.any (contra x) = true then (zeroV, 14)
    else if x ∈ v.votes then (v, 0) else (turnS v { v with votes := unionC v.votes [x] }, 0)
  else (zeroV, 1)
theorem validV_seq {v : Voter} (h : validV v = true) : 1 ≤ v.seq ∧ v.seq ≤ 1000000 := by
  simp only [validV, Bool.and_eq_true, decide_eq_true_eq] at h
  exact h.1.1.1.1.1.1.1.1.2
theorem validV_accepts {v : Voter} (h : validV v = true) : ∀ x ∈ v.accepts, x.ok = true := by
  simp only [validV, Bool.and_eq_true, decide_eq_true_eq] at h
  exact plainL_ok h.1.1.1.1.1.2
theorem okV.votes' {v : Voter} (h : okV v) (l : List Claim) (hl : l.length ≤ 100000) : okV { v with votes := l } := ⟨h.trust, hl, h.accepts, h.confirms, h.heard, h.each⟩
theorem okV.trust' {v : Voter} (h : okV v) (t : Trust) (hl : smallT 1000000 t) : okV { v with trust := t } := ⟨hl, h.votes, h.accepts, h.confirms, h.heard, h.each⟩
set_option maxHeartbeats 1000000 in
theorem f16_ok (v : Voter) (x : Claim) (hv : okV v) : C 16 [.agg (encV v), .agg (encC x)] (.tup [.agg (encV (voteS v x).1), I (voteS v x).2]) := by
  have h39 := f39_ok v
  have h94 := f94_ok x
  by_cases hval : validV v = true
  · have h101 := f101_ok v { v with votes := unionC v.votes [x] } (hv.votes' _ (Nat.le_trans (unionC_len _ _) (by decide))) (show ∀ y ∈ v.accepts, y.ok = true from validV_accepts hval) ⟨Int.le_trans (by decide) (validV_seq hval).1, (validV_seq hval).2⟩
    have h99 := f99_ok v hv.smallV
    have h100 := f100_ok v.votes x (Nat.le_trans hv.votes (by decide))
    rw [hval] at h39
    generalize hR : voteS v x = R
    rw [voteS, hval] at hR
    obtain ⟨nd, sq, ⟨t, n, i⟩, vs, ac, cf, hd⟩ := v
    generalize turnS ⟨nd, sq, .mk t n i, vs, ac, cf, hd⟩ { (⟨nd, sq, .mk t n i, vs, ac, cf, hd⟩ : Voter) with votes := unionC vs [x] } = T at *
    obtain ⟨nd', sq', ⟨t', n', i'⟩, vs', ac', cf', hd'⟩ := T
    dsimp only at *
    have hA := f97r_ok vs 95 (encC x) (contra x) (f95_ok x)
    have hB := f97r_ok ac 95 (encC x) (contra x) (f95_ok x)
    have h98 := f98_ok vs x
    refine fn_ok (G := G) tabOK hm D0 Tryz.func16 rfl (by kernel_rfl) (by kernel_rfl) rfl rfl ?_
    repeat' (first | refine And.intro (by rfl) ?_ | refine litA ?_ | refine litB ?_ | refine litC ?_ | refine litD ?_ | refine And.intro trivial ?_ | refine And.intro (keptI (by repeat' (first | refine And.intro ?_ ?_ | exact True.intro | rfl | (simp; done)))) ?_ | refine ⟨_, _, h39, rfl, rfl, trivial, ?_⟩ | refine ⟨_, _, h94, rfl, rfl, trivial, ?_⟩ | refine ⟨_, _, hA, rfl, rfl, trivial, ?_⟩ | refine ⟨_, _, hB, rfl, rfl, trivial, ?_⟩ | refine ⟨_, _, h98, rfl, rfl, trivial, ?_⟩ | refine ⟨_, _, h99, rfl, rfl, trivial, ?_⟩ | refine ⟨_, _, h100, rfl, rfl, trivial, ?_⟩ | refine ⟨_, _, h101, rfl, rfl, trivial, ?_⟩ | (refine And.intro ?_ ?_ <;> intro h))
    all_goals clear hA hB h98 h39 h94 h99 h100 h101 hv hval
    · have e : R = (zeroV, 1) := by rw [← hR]; simp_all
      rw [e]; repeat' (first | refine And.intro ?_ ?_ | exact .inl rfl | rfl | exact .inr ⟨rfl, _, rfl⟩)
    · have e : R = (zeroV, 14) := by rw [← hR]; simp_all
      rw [e]; repeat' (first | refine And.intro ?_ ?_ | exact .inl rfl | rfl | exact .inr ⟨rfl, _, rfl⟩)
    · have e : R = (⟨nd, sq, .mk t n i, vs, ac, cf, hd⟩, 0) := by rw [← hR]; simp_all
      rw [e]; repeat' (first | refine And.intro ?_ ?_ | exact .inl rfl | rfl | exact .inr ⟨rfl, _, rfl⟩)
    · have e : R = (⟨nd', sq', .mk t' n' i', vs', ac', cf', hd'⟩, 0) := by rw [← hR]; simp_all
      rw [e]; repeat' (first | refine And.intro ?_ ?_ | exact .inl rfl | rfl | exact .inr ⟨rfl, _, rfl⟩)
    · have e : R = (zeroV, 14) := by rw [← hR]; simp_all
      rw [e]; repeat' (first | refine And.intro ?_ ?_ | exact .inl rfl | rfl | exact .inr ⟨rfl, _, rfl⟩)
  · have hval : validV v = false := by simpa using hval
    rw [hval] at h39
    have e : voteS v x = (zeroV, 1) := by rw [voteS, if_neg (by simp [hval])]
    rw [e]
    obtain ⟨nd, sq, ⟨t, n, i⟩, vs, ac, cf, hd⟩ := v
    refine fn_ok (G := G) tabOK hm D0 Tryz.func16 rfl (by kernel_rfl) (by kernel_rfl) rfl rfl ?_
    repeat' (first | refine And.intro (by rfl) ?_ | refine litA ?_ | refine litB ?_ | refine litC ?_ | refine litD ?_ | refine And.intro trivial ?_ | refine And.intro (keptI (by repeat' (first | refine And.intro ?_ ?_ | exact True.intro | rfl | (simp; done)))) ?_ | refine ⟨_, _, h39, rfl, rfl, trivial, ?_⟩ | (refine And.intro ?_ ?_ <;> intro h))
    all_goals repeat' (first | refine And.intro ?_ ?_ | exact .inl rfl | rfl | exact .inr ⟨rfl, _, rfl⟩)
noncomputable def declareS (v : Voter) (t : Trust) : Voter × Int :=
  if validV v = true then
    if validT t ≠ 0 then (zeroV, validT t)
    else if v.trust = t then (v, 0) else (turnS v { v with trust := t }, 0)
  else (zeroV, 1)
set_option maxHeartbeats 1000000 in
theorem f32_ok (v : Voter) (x : Trust) (hv : okV v) (hx : smallT 1000000 x) : C 32 [.agg (encV v), .agg (encT x)] (.tup [.agg (encV (declareS v x).1), I (declareS v x).2]) := by
  have h39 := f39_ok v
  have h90 := f90_ok x
  by_cases hval : validV v = true
  · have h101 := f101_ok v { v with trust := x } (hv.trust' _ hx) (show ∀ y ∈ v.accepts, y.ok = true from validV_accepts hval) ⟨Int.le_trans (by decide) (validV_seq hval).1, (validV_seq hval).2⟩
    have h99 := f99_ok v hv.smallV
    have h118 := f118_ok v.trust x
    rw [hval] at h39
    generalize hR : declareS v x = R
    rw [declareS, hval] at hR
    obtain ⟨nd, sq, ⟨t, n, i⟩, vs, ac, cf, hd⟩ := v
    obtain ⟨xt, xn, xi⟩ := x
    generalize turnS ⟨nd, sq, .mk t n i, vs, ac, cf, hd⟩ { (⟨nd, sq, .mk t n i, vs, ac, cf, hd⟩ : Voter) with trust := .mk xt xn xi } = T at *
    obtain ⟨nd', sq', ⟨t', n', i'⟩, vs', ac', cf', hd'⟩ := T
    dsimp only at *
    refine fn_ok (G := G) tabOK hm D0 Tryz.func32 rfl (by kernel_rfl) (by kernel_rfl) rfl rfl ?_
    repeat' (first | refine And.intro (by rfl) ?_ | refine litA ?_ | refine litB ?_ | refine litC ?_ | refine litD ?_ | refine And.intro trivial ?_ | refine And.intro (keptI (by repeat' (first | refine And.intro ?_ ?_ | exact True.intro | rfl | (simp; done)))) ?_ | refine ⟨_, _, h39, rfl, rfl, trivial, ?_⟩ | refine ⟨_, _, h90, rfl, rfl, trivial, ?_⟩ | refine ⟨_, _, h118, rfl, rfl, trivial, ?_⟩ | refine ⟨_, _, h99, rfl, rfl, trivial, ?_⟩ | refine ⟨_, _, h101, rfl, rfl, trivial, ?_⟩ | (refine And.intro ?_ ?_ <;> intro h))
    all_goals clear h39 h90 h118 h99 h101 hv hval hx
    · have e : R = (zeroV, validT (.mk xt xn xi)) := by rw [← hR]; simp_all
      rw [e]; repeat' (first | refine And.intro ?_ ?_ | exact .inl rfl | rfl | exact .inr ⟨rfl, _, rfl⟩)
    · have e : R = (⟨nd, sq, .mk t n i, vs, ac, cf, hd⟩, 0) := by rw [← hR, if_pos rfl, if_neg (by simp at *; assumption), if_pos (by simpa using h)]
      rw [e]; repeat' (first | refine And.intro ?_ ?_ | exact .inl rfl | rfl | exact .inr ⟨rfl, _, rfl⟩)
    · have e : R = (⟨nd', sq', .mk t' n' i', vs', ac', cf', hd'⟩, 0) := by rw [← hR, if_pos rfl, if_neg (by simp at *; assumption), if_neg (by simpa using h)]
      rw [e]; repeat' (first | refine And.intro ?_ ?_ | exact .inl rfl | rfl | exact .inr ⟨rfl, _, rfl⟩)
  · have hval : validV v = false := by simpa using hval
    rw [hval] at h39
    have e : declareS v x = (zeroV, 1) := by rw [declareS, if_neg (by simp [hval])]
    rw [e]
    obtain ⟨nd, sq, ⟨t, n, i⟩, vs, ac, cf, hd⟩ := v
    obtain ⟨xt, xn, xi⟩ := x
    refine fn_ok (G := G) tabOK hm D0 Tryz.func32 rfl (by kernel_rfl) (by kernel_rfl) rfl rfl ?_
    repeat' (first | refine And.intro (by rfl) ?_ | refine litA ?_ | refine litB ?_ | refine litC ?_ | refine litD ?_ | refine And.intro trivial ?_ | refine And.intro (keptI (by repeat' (first | refine And.intro ?_ ?_ | exact True.intro | rfl | (simp; done)))) ?_ | refine ⟨_, _, h39, rfl, rfl, trivial, ?_⟩ | (refine And.intro ?_ ?_ <;> intro h))
    all_goals repeat' (first | refine And.intro ?_ ?_ | exact .inl rfl | rfl | exact .inr ⟨rfl, _, rfl⟩)
end Go.Proofs.YtnkpakakgfkpbaaGreat.V
end
section
namespace Go.Vi
open Go.RowKit
section
variable {P : Program} {f : FuncId}

theorem consume_ok {e sz : Nat} {es es' : List (List PV)} {rest : List PV} (hen : ∀ args w, (callFunc f args).run P w = .ok (.enter f args) w) (hrest : ∀ p ∈ rest, plain p = true)
    (hsz : (∀ x ∈ es, x.length = sz) → ∀ x ∈ es', x.length = sz)
    (h : ∀ (rd : Rd) (v0 : Value) (vs : List Value) (w : World) (xs : List Value), w.ownsRow 0 e sz v0 es.length xs → All2 (RepP rd) es.flatten xs → (∀ x ∈ es, x.length = sz) → All2 (RepP rd) rest vs →
      (∀ p v, rd p = some v → w.cell? p = some v ∧ v.oneCell' = true ∧ p.spot = none) → (∀ b, v0.ownBlock = some b → ∀ p v, rd p = some v → p.block ≠ b) →
      Calls P f (v0 :: vs).toArray w fun e' w' => ∃ v', e' = .returned v' ∧ ∃ xs', w'.ownsRow 0 e sz v' es'.length xs' ∧ All2 (RepP rd) es'.flatten xs' ∧ w.grownBy w' v0.ownBlock ∧ w.drawn ≤ w'.drawn ∧
        ∀ b, v'.ownBlock = some b → v0.ownBlock = some b ∨ w.heap.size ≤ b) :
    CallOK P f (.sl (some e) sz es :: rest) (.sl (some e) sz es') [] := by
  refine ⟨hen, fun rd L w vs hw hv => ?_⟩
  have hA : adoptA 0 (.sl (some e) sz es :: rest) = (.ls 1500 es.length :: rest, [(1500, .row e sz es false)]) := by simp [adoptA, adopt1, plain_adopt hrest]
  have hR1 : (adopt3 0 (.sl (some e) sz es')).2 ++ outO [] = [(0, .row e sz es' false)] := rfl
  have hR2 : (adopt3 0 (.sl (some e) sz es')).1 = .ls 0 es'.length := rfl
  rw [hA] at hw hv
  dsimp only at hw hv
  have hs : look [(1500, Obj.row e sz es false)] 1500 = some (.row e sz es false) := by rw [look_one, if_pos rfl]
  obtain ⟨xs, k1, k2, k3, k4⟩ := hw.row _ _ _ _ _ hs
  cases hv with
  | cons h0 h1 =>
    rename_i v0 vs
    have h0 := h0.1 _ _ _ _ hs rfl
    subst h0
    have hvr : All2 (RepP rd) rest vs := by
      refine All2.of_get h1.len fun i p v hp hv => ?_
      obtain ⟨v', h3, h4⟩ := h1.get hp
      rw [hv] at h3
      cases h3
      exact plain_rep (hrest p (List.mem_of_getElem? hp)) h4
    have hno : ∀ b, (L.sv 1500).ownBlock = some b → ∀ p v, rd p = some v → p.block ≠ b := fun b hb p v hp hpb => by cases (k4 b hb p v hp hpb).1
    refine (h rd (L.sv 1500) vs w xs k1 k2 k3 hvr hw.hrd hno).mono fun e' w' hpost => ?_
    obtain ⟨v', he, xs', q1, q2, q3, q4, q5⟩ := hpost
    have hsv : (L.setSv 0 v').sv 0 = v' := by simp [Lay.setSv]
    have hs' : look [(0, Obj.row e sz es' false)] 0 = some (.row e sz es' false) := by rw [look_one, if_pos rfl]
    have hblkE : ∀ i b, blkOf (L.setSv 0 v') (look [(0, Obj.row e sz es' false)]) i = some b → i = 0 ∧ v'.ownBlock = some b := by
      intro i b hb
      simp only [blkOf, look_one] at hb
      by_cases hi : 0 = i
      · subst hi; rw [if_pos rfl] at hb; exact ⟨rfl, by simpa only [hsv] using hb⟩
      · rw [if_neg hi] at hb; cases hb
    have hnb : ∀ b, v'.ownBlock = some b → ∀ p v, rd p = some v → p.block ≠ b := fun b hb p v hp hpb => by
      rcases q5 b hb with h | h
      · exact hno b h p v hp hpb
      · have := block_lt_of_cell (hw.hrd p v hp).1; omega
    refine ⟨v', rd, L.setSv 0 v', he, ?_, ?_, ?_, ?_⟩
    · rw [hR1]
      refine ⟨fun p v hp => ?_, (fun id cs fr h => by rw [look_one] at h; split at h <;> cases h), fun id e1 sz1 es1 fr1 h => ?_, fun i j b hi hj => by rw [(hblkE i b hi).1, (hblkE j b hj).1]⟩
      · obtain ⟨c1, c2, c3⟩ := hw.hrd p v hp
        refine ⟨?_, c2, c3⟩
        rw [World.cell?_of_block (q3.block p.block (block_lt_of_cell c1) (fun hb => hno _ hb.symm p v hp rfl))]
        exact c1
      · rw [look_one] at h
        split at h
        · rename_i hi; subst hi; cases h
          rw [hsv]
          exact ⟨xs', q1, q2, hsz k3, fun b hb p v hp hpb => (hnb b hb p v hp hpb).elim⟩
        · cases h
    · rw [hR1, hR2]
      have : rep1 rd (L.setSv 0 v') (look [(0, Obj.row e sz es' false)]) (.ls 0 es'.length) v' := by
        refine ⟨fun _ _ _ _ _ _ => hsv.symm, fun e1 sz1 es1 fr1 h => ?_, ?_, by rw [hs']; simp⟩
        · rw [hs'] at h; cases h; exact Nat.le_refl _
        · rcases q1.2 with ⟨r1, r2⟩ | ⟨_, _, _, r1, _⟩
          · exact ⟨none, 0, by rw [r2]; exact r1⟩
          · exact ⟨_, _, r1⟩
      exact this
    · rw [hR1]
      have hMb : ∀ b, (L.sv 1500).ownBlock = some b → (callFr (.sl (some e) sz es :: rest) [] rd L w).M b := fun b hb => ⟨1500, by rw [hA]; simp only [blkOf, look_one, if_pos]; exact hb⟩
      refine ⟨q3.os, q3.tape, ⟨q3.output, q4⟩, q3.size, fun k hk hM => q3.block k hk fun hb => hM (hMb k hb.symm), fun _ _ h => h, fun _ _ h => .inl h, fun id b h => ?_, fun id hp => ?_, fun id hp _ _ _ _ h => ?_⟩
      · rcases q5 b (hblkE id b h).2 with h' | h'
        · exact .inl (hMb b h')
        · exact .inr h'
      · obtain ⟨cs, fr, hp⟩ := hp; cases hp
      · obtain ⟨cs, fr, hp⟩ := hp; cases hp
    · intro id _ _ _ _ h; cases h

theorem setRow_twice (w : World) (g : Nat) (a b : Array Value) : (w.setRow g a).setRow g b = w.setRow g b := by
  simp only [World.setRow]
  congr 1
  apply Array.ext_getElem?
  intro k
  simp only [Array.getElem?_modify]
  split
  · rename_i h
    cases w.heap[k]? with
    | none => rfl
    | some o => cases o <;> rfl
  · rfl

/-- 'copy' into a row. -/
theorem run_copy_k {w : World} (dT sT ty elem : TypeId) {size : Nat} {g p dLen dCap : Nat} {a : Addr} {sLen sCap : Nat} {vs : List Value} {cur : Array Value} {t : TypeId} {n : Nat}
    (hu : P.underlying dT = some (.slice elem)) (hs : ∃ i, P.info? elem = some i ∧ i.size = size) (hn : Nat.min sLen dLen = n) (hl : vs.length = n * size)
    (hsrc : ∀ j v, vs[j]? = some v → w.cell? (a.add j) = some v) (hg : w.heap[g]? = some (.cells cur t (0, 0))) (hfit : p + vs.length ≤ cur.size) (h1 : ∀ v ∈ vs, v.oneCell' = true) :
    (Builtin.copy_ #[dT, sT] ty #[.slice (some ⟨g, p, none⟩) dLen dCap, .slice (some a) sLen sCap]).run P w = .ok (goInt n) (w.setRow g (cur.toList.take p ++ vs ++ cur.toList.drop (p + vs.length)).toArray) := by
  obtain ⟨i, hi, rfl⟩ := hs
  have hf := run_firstCells_some (P := P) w i.size n a sLen sCap vs hl hsrc
  have hst := run_storeCells_at P g p t vs 0 cur w hg (by simpa using hfit) h1
  simp only [Nat.add_zero] at hst
  simp [Builtin.copy_, run_underlying hu, Builtin.lenOf, sizeOf, typeInfo, hi, hn, hf, hst]

/-- Slices of two blocks do not overlap, one of them an own row. -/
theorem run_overlaps_own {w : World} (tS tR e : TypeId) (ht : P.underlying tS = some (.slice e)) {size : Nat} (hz : ∀ w, (Go.sizeOf e).run P w = .ok size w)
    {a b : Addr} {la ca lb cb : Nat} (hne : a.block ≠ b.block) {va : Value} (ha : w.cell? a = some va) {cur : Array Value} {t : TypeId} (hb : w.heap[b.block]? = some (.cells cur t (0, 0))) :
    (Extern.SlicesOverlaps.overlaps #[tS, tS] #[tR] #[.slice (some a) la ca, .slice (some b) lb cb]).run P w = .ok (.bool false) w := by
  have hnb : (a.block != b.block) = true := by simpa using hne
  have hnb' : (a.block == b.block) = false := by simpa using hne
  obtain ⟨ca', tA, frA, hA, hA0⟩ : ∃ c tA fr, w.heap[a.block]? = some (.cells c tA fr) ∧ c.size ≠ 0 := by
    unfold World.cell? at ha
    cases hh : w.heap[a.block]? with
    | none => rw [hh] at ha; cases ha
    | some o =>
      rw [hh] at ha
      cases o with
      | cells c tA fr =>
        refine ⟨c, tA, fr, rfl, ?_⟩
        dsimp only at ha
        split at ha
        · cases ha
        · intro h0
          rw [Array.getElem?_eq_none (by omega)] at ha; cases ha
      | _ => cases ha
  have hsa : w.shape? a.block = some (tA, ca'.size) := by simp [World.shape?, hA]
  have hsb : w.shape? b.block = some (t, cur.size) := by simp [World.shape?, hb]
  have hfb : ∀ o s, w.frozen? ⟨b.block, o, s⟩ = false := fun o s => by simp [World.frozen?, hb]
  have hfb' : w.frozen? b = false := hfb _ _
  have key : (do
    let some t := (#[tS, tS] : Array TypeId)[0]? | stuck "slices.overlaps: no parameter types"
    let .slice elem ← underlying t | stuck "slices.overlaps: slice type expected"
    let size ← sizeOf elem
    match (some a : Option Addr), (some b : Option Addr) with
    | some a, some b =>
      if la = 0 ∨ lb = 0 ∨ size = 0 then pure (Value.bool false)
      else if a.block != b.block && (← frozen a) && (← frozen b) then unsupported .addressObserved
      else do
        if a.block != b.block then do
          noView a; noView b
          if ← mayBeOne a b then return Value.bool ((← choose (.extern "sameAddr.stringBytes" 2)) == 1)
        pure (Value.bool (a.block == b.block && a.off < b.off + lb * size && b.off < a.off + la * size))
    | _, _ => pure (Value.bool false) : Sem Value).run P w = .ok (.bool false) w := by
    by_cases h0 : la = 0 ∨ lb = 0 ∨ size = 0
    · simp [run_underlying ht, hz, h0]
    · obtain ⟨q, hq⟩ : ∃ q, ca'.size = q + 1 := ⟨ca'.size - 1, by omega⟩
      rw [hq] at hsa
      cases hfa : w.frozen? a <;> cases hfe : w.frozen? { block := a.block, off := q + 1 } <;>
        simp [run_underlying ht, hz, h0, hnb, hnb', frozen, noView, viewAt, mayBeOne, stringish, shape, Sem.run, hsa, hsb, hfa, hfb, hfb', hfe]
  exact key
end
end Go.Vi
end
