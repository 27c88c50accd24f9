import Derived.Test.YtnkpakakgfkpbaaGreatK4
import Derived.Maps.OwnSet
import Derived.Maps.OwnOps
import Derived.Maps.Views
import Derived.WalkKit
import Derived.WalkSpells
set_option linter.unusedVariables false
set_option linter.unusedSimpArgs false
section
namespace Go.Proofs.YtnkpakakgfkpbaaGreat.V
open Go.Vi
set_option maxRecDepth 10000
def orS (s k : Int) : Int := ((s.toNat ||| 2 ^ k.toNat : Nat) : Int)
theorem orS_lt {s k : Int} (h1 : 0 ≤ s) (h2 : s < 1024) (h3 : 0 ≤ k) (h4 : k < 10) : 0 ≤ orS s k ∧ orS s k < 1024 := by
  have hp : 2 ^ k.toNat < 2 ^ 10 := Nat.pow_lt_pow_right (by omega) (by omega)
  have := Nat.or_lt_two_pow (x := s.toNat) (y := 2 ^ k.toNat) (n := 10) (by omega) hp
  unfold orS
  omega
theorem or_pow {s k : Int} (h1 : 0 ≤ s) (h2 : s < 1024) (h3 : 0 ≤ k) (h4 : k < 10) :
    IntKind.i64.wrap ((BitVec.ofInt 64 s ||| BitVec.ofInt 64 (IntKind.i64.wrap (1 * 2 ^ min k.toNat 64))).toNat : Int) = orS s k := by
  have hb := orS_lt h1 h2 h3 h4
  obtain ⟨n, rfl⟩ := Int.eq_ofNat_of_zero_le h1
  obtain ⟨m, rfl⟩ := Int.eq_ofNat_of_zero_le h3
  unfold orS at hb ⊢
  have hm : m < 10 := by omega
  have hn : n < 1024 := by omega
  simp only [Int.toNat_natCast, Int.one_mul] at hb ⊢
  have e1 : min m 64 = m := by omega
  rw [e1]
  have e2 : ((2 : Int) ^ m) = ((2 ^ m : Nat) : Int) := by simp
  have hp : (2 : Nat) ^ m ≤ 512 := Nat.pow_le_pow_right (n := 2) (by omega) (show m ≤ 9 by omega)
  rw [e2]
  generalize (2 : Nat) ^ m = q at hp hb
  rw [wrap_id (n := (q : Int)) (by omega) (by omega)]
  have e3 : (BitVec.ofInt 64 (n : Int) ||| BitVec.ofInt 64 (q : Int)).toNat = n ||| q := by
    rw [BitVec.toNat_or, BitVec.ofInt_natCast, BitVec.ofInt_natCast, BitVec.toNat_ofNat, BitVec.toNat_ofNat, Nat.mod_eq_of_lt (by omega), Nat.mod_eq_of_lt (by omega)]
  rw [e3]
  exact wrap_id (by omega) (by omega)
def ofS : List Int → Int → Int × Int
  | [], s => (s, 0)
  | k :: l, s => if nodeS k = false then (0, 5) else if hasS s k = true then (0, 6) else ofS l (orS s k)
theorem drop_at {α : Type} {l : List α} {k : Nat} {y : α} (h : l[k]? = some y) : l.drop k = y :: l.drop (k + 1) := by
  obtain ⟨hk, rfl⟩ := List.getElem?_eq_some_iff.1 h
  rw [List.getElem_cons_drop]
theorem f224_ok (l : List Int) : C 224 [encI l] (.tup [I (ofS l 0).1, I (ofS l 0).2]) := by
  refine fn_real (G := G) tabOK hm D0 Tryz.func224 rfl (by kernel_rfl) (by kernel_rfl) rfl rfl fun hr => ?_
  have hlen := lenI (l := l) hr (by simp)
  repeat (first | refine And.intro (by rfl) ?_ | refine litA ?_ | refine litB ?_ | refine litC ?_ | refine litD ?_ | refine And.intro trivial ?_ | refine And.intro (keptI (by repeat' (first | refine And.intro ?_ ?_ | exact True.intro | rfl | (simp; done)))) ?_)
  refine loop_ok (G := G) tabOK hm D0 (α := {p : Nat × Int // p.1 ≤ l.length ∧ 0 ≤ p.2 ∧ p.2 < 1024 ∧ ofS l 0 = ofS (l.drop p.1) p.2}) (fun p => ⟨28, [(4, I p.1.2), (9, I p.1.1), (8, I (l.map fun x => [I x]).length), (7, encI l)], []⟩) (fun p => l.length - p.1.1) (by kernel_rfl) ⟨(0, 0), by simp⟩ ?_ ?_
  · repeat' (first | refine fitE_ls rfl rfl ?_ | refine fitC_ls rfl ?_ | refine And.intro ?_ ?_ | exact True.intro | rfl | exact ⟨_, _, rfl, rfl⟩ | exact ⟨_, _, rfl⟩ | decide | (simp [St.get, St.obj, look, lookD, unI, List.map_take]; done))
  rintro ⟨⟨k, s⟩, hk, h1, h2, hx⟩
  dsimp only at hk h1 h2 hx
  repeat (first | refine And.intro (by rfl) ?_ | refine litA ?_ | refine litB ?_ | refine litC ?_ | refine litD ?_ | refine And.intro trivial ?_ | refine And.intro (keptI (by repeat' (first | refine And.intro ?_ ?_ | exact True.intro | rfl | (simp; done)))) ?_)
  refine And.intro (fun h => ?_) (fun h => ?_)
  rotate_left
  · have hl : l.length ≤ k := by simpa using h
    rw [List.drop_of_length_le hl] at hx
    repeat (first | refine And.intro (by rfl) ?_ | refine litA ?_ | refine litB ?_ | refine litC ?_ | refine litD ?_ | refine And.intro trivial ?_ | refine And.intro (keptI (by repeat' (first | refine And.intro ?_ ?_ | exact True.intro | rfl | (simp; done)))) ?_)
    exact ⟨subI (congrArg Prod.fst hx).symm, subI (congrArg Prod.snd hx).symm, rfl⟩
  have hk' : k < l.length := by simpa using h
  obtain ⟨y, hy⟩ : ∃ y, l[k]? = some y := ⟨_, List.getElem?_eq_getElem hk'⟩
  rw [drop_at hy, ofS] at hx
  have e : IntKind.i64.wrap ((k : Int) + 1) = ((k + 1 : Nat) : Int) := by rw [wrap_id] <;> omega
  repeat (first | refine And.intro (by rfl) ?_ | refine litA ?_ | refine litB ?_ | refine litC ?_ | refine litD ?_ | refine And.intro trivial ?_ | refine And.intro (keptI (by repeat' (first | refine And.intro ?_ ?_ | exact True.intro | rfl | (simp; done)))) ?_)
  refine ⟨by simp, [I y], by simp [hy], ?_⟩
  repeat' (first | refine And.intro (by rfl) ?_ | refine litA ?_ | refine litB ?_ | refine litC ?_ | refine litD ?_ | refine And.intro trivial ?_ | refine And.intro (keptI (by repeat' (first | refine And.intro ?_ ?_ | exact True.intro | rfl | (simp; done)))) ?_ | (refine And.intro ?_ ?_ <;> intro h))
  · simp at h
    have hn : nodeS y = false := by simp [nodeS]; omega
    rw [if_pos hn] at hx
    exact ⟨subI (congrArg Prod.fst hx).symm, subI (congrArg Prod.snd hx).symm, rfl⟩
  rotate_left
  · simp at h
    have hn : nodeS y = false := by simp [nodeS]; omega
    rw [if_pos hn] at hx
    exact ⟨subI (congrArg Prod.fst hx).symm, subI (congrArg Prod.snd hx).symm, rfl⟩
  rename_i g1
  simp at h g1
  have hn : nodeS y = true := by simp [nodeS]; omega
  rw [hn, if_neg (by simp)] at hx
  refine ⟨_, _, f240_ok s y, rfl, rfl, trivial, ?_⟩
  repeat' (first | refine And.intro (by rfl) ?_ | refine litA ?_ | refine litB ?_ | refine litC ?_ | refine litD ?_ | refine And.intro trivial ?_ | refine And.intro (keptI (by repeat' (first | refine And.intro ?_ ?_ | exact True.intro | rfl | (simp; done)))) ?_ | (refine And.intro ?_ ?_ <;> intro h))
  · rw [if_pos (by simpa using h)] at hx
    exact ⟨subI (congrArg Prod.fst hx).symm, subI (congrArg Prod.snd hx).symm, rfl⟩
  rename_i g2
  rw [if_neg (by rw [show hasS s y = false from h]; simp)] at hx
  refine ⟨by omega, ?_⟩
  repeat (first | refine And.intro (by rfl) ?_ | refine litA ?_ | refine litB ?_ | refine litC ?_ | refine litD ?_ | refine And.intro trivial ?_ | refine And.intro (keptI (by repeat' (first | refine And.intro ?_ ?_ | exact True.intro | rfl | (simp; done)))) ?_)
  have hb := orS_lt h1 h2 g1 (by omega)
  refine ⟨⟨(k + 1, orS s y), hk', hb.1, hb.2, hx⟩, ?_, ?_⟩
  · repeat' (first | refine fitE_ls rfl rfl ?_ | refine fitC_ls rfl ?_ | exact congrArg I e | exact congrArg I (or_pow h1 h2 g1 (by omega)) | refine And.intro ?_ ?_ | exact True.intro | rfl | exact ⟨_, _, rfl, rfl⟩ | exact ⟨_, _, rfl⟩ | decide | (simp [St.get, St.obj, look, lookD, unI, List.map_take]; done))
  · dsimp only; omega
theorem f225_ok (l : List Int) : C 225 [encI l] (.tup [I (ofS l 0).1, I (ofS l 0).2]) := by
  refine fn_real (G := G) tabOK hm D0 Tryz.func225 rfl (by kernel_rfl) (by kernel_rfl) rfl rfl fun hr => ?_
  have hlen := lenI (l := l) hr (by simp)
  repeat (first | refine And.intro (by rfl) ?_ | refine litA ?_ | refine litB ?_ | refine litC ?_ | refine litD ?_ | refine And.intro trivial ?_ | refine And.intro (keptI (by repeat' (first | refine And.intro ?_ ?_ | exact True.intro | rfl | (simp; done)))) ?_)
  refine loop_ok (G := G) tabOK hm D0 (α := {p : Nat × Int // p.1 ≤ l.length ∧ 0 ≤ p.2 ∧ p.2 < 1024 ∧ ofS l 0 = ofS (l.drop p.1) p.2}) (fun p => ⟨28, [(4, I p.1.2), (9, I p.1.1), (8, I (l.map fun x => [I x]).length), (7, encI l)], []⟩) (fun p => l.length - p.1.1) (by kernel_rfl) ⟨(0, 0), by simp⟩ ?_ ?_
  · repeat' (first | refine fitE_ls rfl rfl ?_ | refine fitC_ls rfl ?_ | refine And.intro ?_ ?_ | exact True.intro | rfl | exact ⟨_, _, rfl, rfl⟩ | exact ⟨_, _, rfl⟩ | decide | (simp [St.get, St.obj, look, lookD, unI, List.map_take]; done))
  rintro ⟨⟨k, s⟩, hk, h1, h2, hx⟩
  dsimp only at hk h1 h2 hx
  repeat (first | refine And.intro (by rfl) ?_ | refine litA ?_ | refine litB ?_ | refine litC ?_ | refine litD ?_ | refine And.intro trivial ?_ | refine And.intro (keptI (by repeat' (first | refine And.intro ?_ ?_ | exact True.intro | rfl | (simp; done)))) ?_)
  refine And.intro (fun h => ?_) (fun h => ?_)
  rotate_left
  · have hl : l.length ≤ k := by simpa using h
    rw [List.drop_of_length_le hl] at hx
    repeat (first | refine And.intro (by rfl) ?_ | refine litA ?_ | refine litB ?_ | refine litC ?_ | refine litD ?_ | refine And.intro trivial ?_ | refine And.intro (keptI (by repeat' (first | refine And.intro ?_ ?_ | exact True.intro | rfl | (simp; done)))) ?_)
    exact ⟨subI (congrArg Prod.fst hx).symm, subI (congrArg Prod.snd hx).symm, rfl⟩
  have hk' : k < l.length := by simpa using h
  obtain ⟨y, hy⟩ : ∃ y, l[k]? = some y := ⟨_, List.getElem?_eq_getElem hk'⟩
  rw [drop_at hy, ofS] at hx
  have e : IntKind.i64.wrap ((k : Int) + 1) = ((k + 1 : Nat) : Int) := by rw [wrap_id] <;> omega
  repeat (first | refine And.intro (by rfl) ?_ | refine litA ?_ | refine litB ?_ | refine litC ?_ | refine litD ?_ | refine And.intro trivial ?_ | refine And.intro (keptI (by repeat' (first | refine And.intro ?_ ?_ | exact True.intro | rfl | (simp; done)))) ?_)
  refine ⟨by simp, [I y], by simp [hy], ?_⟩
  repeat' (first | refine And.intro (by rfl) ?_ | refine litA ?_ | refine litB ?_ | refine litC ?_ | refine litD ?_ | refine And.intro trivial ?_ | refine And.intro (keptI (by repeat' (first | refine And.intro ?_ ?_ | exact True.intro | rfl | (simp; done)))) ?_ | (refine And.intro ?_ ?_ <;> intro h))
  · simp at h
    have hn : nodeS y = false := by simp [nodeS]; omega
    rw [if_pos hn] at hx
    exact ⟨subI (congrArg Prod.fst hx).symm, subI (congrArg Prod.snd hx).symm, rfl⟩
  rotate_left
  · simp at h
    have hn : nodeS y = false := by simp [nodeS]; omega
    rw [if_pos hn] at hx
    exact ⟨subI (congrArg Prod.fst hx).symm, subI (congrArg Prod.snd hx).symm, rfl⟩
  rename_i g1
  simp at h g1
  have hn : nodeS y = true := by simp [nodeS]; omega
  rw [hn, if_neg (by simp)] at hx
  refine ⟨_, _, f61_ok s y, rfl, rfl, trivial, ?_⟩
  repeat' (first | refine And.intro (by rfl) ?_ | refine litA ?_ | refine litB ?_ | refine litC ?_ | refine litD ?_ | refine And.intro trivial ?_ | refine And.intro (keptI (by repeat' (first | refine And.intro ?_ ?_ | exact True.intro | rfl | (simp; done)))) ?_ | (refine And.intro ?_ ?_ <;> intro h))
  · rw [if_pos (by simpa using h)] at hx
    exact ⟨subI (congrArg Prod.fst hx).symm, subI (congrArg Prod.snd hx).symm, rfl⟩
  rename_i g2
  rw [if_neg (by rw [show hasS s y = false from h]; simp)] at hx
  refine ⟨by omega, ?_⟩
  repeat (first | refine And.intro (by rfl) ?_ | refine litA ?_ | refine litB ?_ | refine litC ?_ | refine litD ?_ | refine And.intro trivial ?_ | refine And.intro (keptI (by repeat' (first | refine And.intro ?_ ?_ | exact True.intro | rfl | (simp; done)))) ?_)
  have hb := orS_lt h1 h2 g1 (by omega)
  refine ⟨⟨(k + 1, orS s y), hk', hb.1, hb.2, hx⟩, ?_, ?_⟩
  · repeat' (first | refine fitE_ls rfl rfl ?_ | refine fitC_ls rfl ?_ | exact congrArg I e | exact congrArg I (or_pow h1 h2 g1 (by omega)) | refine And.intro ?_ ?_ | exact True.intro | rfl | exact ⟨_, _, rfl, rfl⟩ | exact ⟨_, _, rfl⟩ | decide | (simp [St.get, St.obj, look, lookD, unI, List.map_take]; done))
  · dsimp only; omega
set_option maxRecDepth 10000
mutual
def levelT : Trust → Int
  | .mk t n i => if t < 1 ∨ t > IntKind.i64.wrap ((n.length : Int) + i.length) then 4 else if n.any (fun k => !nodeS k) then 5 else if (ofS n 0).2 ≠ 0 then (ofS n 0).2 else levelL i
def levelL : List Trust → Int
  | [] => 0
  | x :: l => if levelT x ≠ 0 then levelT x else levelL l
end
theorem levelL_at {i : List Trust} {k : Nat} {y : Trust} (h : ∀ z ∈ i.take k, levelT z = 0) (hy : i[k]? = some y) (hp : levelT y ≠ 0) : levelL i = levelT y := by
  induction i generalizing k with
  | nil => simp at hy
  | cons x i ih =>
    cases k with
    | zero => simp at hy; subst hy; rw [levelL, if_pos hp]
    | succ k =>
      have hx : levelT x = 0 := h x (by simp)
      rw [levelL, if_neg (by simpa using hx)]
      exact ih (k := k) (fun z hz => h z (by simp [hz])) (by simpa using hy)
theorem levelL_zero {i : List Trust} (h : ∀ z ∈ i, levelT z = 0) : levelL i = 0 := by
  induction i with
  | nil => rfl
  | cons x i ih => rw [levelL, if_neg (by simpa using h x (by simp)), ih fun z hz => h z (by simp [hz])]
theorem f173_ok (x : Trust) : C 173 [.agg (encT x)] (I (levelT x)) := by
  induction x using Trust.ind with
  | h t n i ih =>
  refine fn_real (G := G) tabOK hm D0 Tryz.func173 rfl (by kernel_rfl) (by kernel_rfl) rfl rfl fun hr => ?_
  have hlen := (lenT (t := t) (n := n) (i := i) hr (by simp)).2
  repeat' (first | refine And.intro (by rfl) ?_ | refine litA ?_ | refine litB ?_ | refine litC ?_ | refine litD ?_ | refine And.intro trivial ?_ | refine And.intro (keptI (by repeat' (first | refine And.intro ?_ ?_ | exact True.intro | rfl | (simp; done)))) ?_ | (refine And.intro ?_ ?_ <;> intro h))
  · simp at h
    exact ⟨subI (by rw [levelT, if_pos (.inr (by simpa using h))]), rfl⟩
  rotate_left
  · simp at h
    exact ⟨subI (by rw [levelT, if_pos (.inl h)]), rfl⟩
  rename_i h0
  have ht : ¬ (t < 1 ∨ t > IntKind.i64.wrap ((n.length : Int) + i.length)) := by simp at h h0; simp; omega
  clear h h0
  refine ⟨_, _, f221_ok n 222 _ f222_ok, rfl, rfl, trivial, ?_⟩
  repeat' (first | refine And.intro (by rfl) ?_ | refine litA ?_ | refine litB ?_ | refine litC ?_ | refine litD ?_ | refine And.intro trivial ?_ | refine And.intro (keptI (by repeat' (first | refine And.intro ?_ ?_ | exact True.intro | rfl | (simp; done)))) ?_ | (refine And.intro ?_ ?_ <;> intro h))
  · exact ⟨subI (by rw [levelT, if_neg ht, if_pos h]), rfl⟩
  have h5 := h
  refine ⟨_, _, f224_ok n, rfl, rfl, trivial, ?_⟩
  repeat' (first | refine And.intro (by rfl) ?_ | refine litA ?_ | refine litB ?_ | refine litC ?_ | refine litD ?_ | refine And.intro trivial ?_ | refine And.intro (keptI (by repeat' (first | refine And.intro ?_ ?_ | exact True.intro | rfl | (simp; done)))) ?_ | (refine And.intro ?_ ?_ <;> intro h))
  · exact ⟨subI (by rw [levelT, if_neg ht, if_neg (by rw [show (n.any fun k => !nodeS k) = false from h5]; simp), if_pos (by simpa using h)]), rfl⟩
  have hv : levelT (.mk t n i) = levelL i := by rw [levelT, if_neg ht, if_neg (by rw [show (n.any fun k => !nodeS k) = false from h5]; simp), if_neg (by simpa using h)]
  refine loop_ok (G := G) tabOK hm D0 (α := {k : Nat // k ≤ i.length ∧ ∀ z ∈ i.take k, levelT z = 0}) (fun k => ⟨48, [(38, I k.1), (37, I (encTs i).length), (36, encTL i)], []⟩) (fun k => i.length - k.1) (by kernel_rfl) ⟨0, Nat.zero_le _, by first | rfl | simp⟩ ?_ ?_
  · repeat' (first | refine fitE_ls rfl rfl ?_ | refine fitC_ls rfl ?_ | refine And.intro ?_ ?_ | exact True.intro | rfl | exact ⟨_, _, rfl, rfl⟩ | exact ⟨_, _, rfl⟩ | decide | (simp [St.get, St.obj, look, lookD, unI, List.map_take]; done))
  rintro ⟨k, hk, hx⟩
  repeat (first | refine And.intro (by rfl) ?_ | refine litA ?_ | refine litB ?_ | refine litC ?_ | refine litD ?_ | refine And.intro trivial ?_ | refine And.intro (keptI (by repeat' (first | refine And.intro ?_ ?_ | exact True.intro | rfl | (simp; done)))) ?_)
  refine And.intro (fun h => ?_) (fun h => ?_)
  rotate_left
  · have hl : i.length ≤ k := by simpa using h
    repeat (first | refine And.intro (by rfl) ?_ | refine litA ?_ | refine litB ?_ | refine litC ?_ | refine litD ?_ | refine And.intro trivial ?_ | refine And.intro (keptI (by repeat' (first | refine And.intro ?_ ?_ | exact True.intro | rfl | (simp; done)))) ?_)
    have ek : i.take k = i := List.take_of_length_le hl
    try rw [ek] at hx
    exact ⟨subI (by rw [hv, levelL_zero hx]), rfl⟩
  have hk' : k < i.length := by simpa using h
  obtain ⟨y, hy⟩ : ∃ y, i[k]? = some y := ⟨_, List.getElem?_eq_getElem hk'⟩
  have e : IntKind.i64.wrap ((k : Int) + 1) = ((k + 1 : Nat) : Int) := by rw [wrap_id] <;> omega
  have et : i.take (k + 1) = i.take k ++ [y] := by rw [List.take_add_one, hy]; rfl
  repeat (first | refine And.intro (by rfl) ?_ | refine litA ?_ | refine litB ?_ | refine litC ?_ | refine litD ?_ | refine And.intro trivial ?_ | refine And.intro (keptI (by repeat' (first | refine And.intro ?_ ?_ | exact True.intro | rfl | (simp; done)))) ?_)
  obtain ⟨ty, ny, iy⟩ := y
  refine ⟨by simp, encT (.mk ty ny iy), by simpa using encTs_get hy, ?_⟩
  repeat (first | refine And.intro (by rfl) ?_ | refine litA ?_ | refine litB ?_ | refine litC ?_ | refine litD ?_ | refine And.intro trivial ?_ | refine And.intro (keptI (by repeat' (first | refine And.intro ?_ ?_ | exact True.intro | rfl | (simp; done)))) ?_)
  refine ⟨_, _, ih _ (List.mem_of_getElem? hy), rfl, rfl, trivial, ?_⟩
  repeat' (first | refine And.intro (by rfl) ?_ | refine litA ?_ | refine litB ?_ | refine litC ?_ | refine litD ?_ | refine And.intro trivial ?_ | refine And.intro (keptI (by repeat' (first | refine And.intro ?_ ?_ | exact True.intro | rfl | (simp; done)))) ?_ | (refine And.intro ?_ ?_ <;> intro h))
  · exact ⟨subI (by rw [hv, levelL_at hx hy (by simpa using h)]), rfl⟩
  · refine ⟨⟨k + 1, hk', (by rw [et]; exact all_snoc hx (by simpa using h))⟩, ?_, ?_⟩
    · repeat' (first | refine fitE_ls rfl rfl ?_ | refine fitC_ls rfl ?_ | exact congrArg I e | refine And.intro ?_ ?_ | exact True.intro | rfl | exact ⟨_, _, rfl, rfl⟩ | exact ⟨_, _, rfl⟩ | decide | (simp [St.get, St.obj, look, lookD, unI, List.map_take]; done))
    · dsimp only; omega
theorem f177_ok (x : Trust) : C 177 [.agg (encT x)] (I (levelT x)) := by
  induction x using Trust.ind with
  | h t n i ih =>
  refine fn_real (G := G) tabOK hm D0 Tryz.func177 rfl (by kernel_rfl) (by kernel_rfl) rfl rfl fun hr => ?_
  have hln := (lenT (t := t) (n := n) (i := i) hr (by simp)).1
  have hlen := (lenT (t := t) (n := n) (i := i) hr (by simp)).2
  repeat' (first | refine And.intro (by rfl) ?_ | refine litA ?_ | refine litB ?_ | refine litC ?_ | refine litD ?_ | refine And.intro trivial ?_ | refine And.intro (keptI (by repeat' (first | refine And.intro ?_ ?_ | exact True.intro | rfl | (simp; done)))) ?_ | (refine And.intro ?_ ?_ <;> intro h))
  · simp at h
    exact ⟨subI (by rw [levelT, if_pos (.inr (by simpa using h))]), rfl⟩
  rotate_left
  · simp at h
    exact ⟨subI (by rw [levelT, if_pos (.inl h)]), rfl⟩
  rename_i h0
  have ht : ¬ (t < 1 ∨ t > IntKind.i64.wrap ((n.length : Int) + i.length)) := by simp at h h0; simp; omega
  clear h h0
  refine loop_ok (G := G) tabOK hm D0 (α := {k : Nat // k ≤ n.length ∧ ∀ z ∈ n.take k, (!nodeS z) = false}) (fun k => ⟨61, [(28, I k.1), (27, I (n.map fun x => [I x]).length), (26, encI n), (1, .loc 2000 0)], [(2000, .box (encT (.mk t n i)) false)]⟩) (fun k => n.length - k.1) (by kernel_rfl) ⟨0, Nat.zero_le _, by first | rfl | simp⟩ ?_ ?_
  · repeat' (first | refine fitE_ls rfl rfl ?_ | refine fitC_ls rfl ?_ | refine And.intro ?_ ?_ | exact True.intro | rfl | exact ⟨_, _, rfl, rfl⟩ | exact ⟨_, _, rfl⟩ | decide | (simp [St.get, St.obj, look, lookD, unI, List.map_take]; done))
  rintro ⟨k, hk, hx⟩
  repeat (first | refine And.intro (by rfl) ?_ | refine litA ?_ | refine litB ?_ | refine litC ?_ | refine litD ?_ | refine And.intro trivial ?_ | refine And.intro (keptI (by repeat' (first | refine And.intro ?_ ?_ | exact True.intro | rfl | (simp; done)))) ?_)
  refine And.intro (fun h => ?_) (fun h => ?_)
  rotate_left
  · have hl : n.length ≤ k := by simpa using h
    repeat (first | refine And.intro (by rfl) ?_ | refine litA ?_ | refine litB ?_ | refine litC ?_ | refine litD ?_ | refine And.intro trivial ?_ | refine And.intro (keptI (by repeat' (first | refine And.intro ?_ ?_ | exact True.intro | rfl | (simp; done)))) ?_)
    have ek : n.take k = n := List.take_of_length_le hl
    try rw [ek] at hx
    have h5 : (n.any fun k => !nodeS k) = false := by rw [List.any_eq_false]; intro z hz; rw [hx z hz]; simp
    refine ⟨_, _, f225_ok n, rfl, rfl, trivial, ?_⟩
    repeat' (first | refine And.intro (by rfl) ?_ | refine litA ?_ | refine litB ?_ | refine litC ?_ | refine litD ?_ | refine And.intro trivial ?_ | refine And.intro (keptI (by repeat' (first | refine And.intro ?_ ?_ | exact True.intro | rfl | (simp; done)))) ?_ | (refine And.intro ?_ ?_ <;> intro h))
    · exact ⟨subI (by rw [levelT, if_neg ht, if_neg (by rw [h5]; simp), if_pos (by simpa using h)]), rfl⟩
    have hv : levelT (.mk t n i) = levelL i := by rw [levelT, if_neg ht, if_neg (by rw [h5]; simp), if_neg (by simpa using h)]
    refine loop_ok (G := G) tabOK hm D0 (α := {j : Nat // j ≤ i.length ∧ ∀ z ∈ i.take j, levelT z = 0}) (fun j => ⟨61, [(51, I j.1), (50, I (encTs i).length), (49, encTL i)], []⟩) (fun j => i.length - j.1) (by kernel_rfl) ⟨0, Nat.zero_le _, by first | rfl | simp⟩ ?_ ?_
    · repeat' (first | refine fitE_ls rfl rfl ?_ | refine fitC_ls rfl ?_ | refine And.intro ?_ ?_ | exact True.intro | rfl | exact ⟨_, _, rfl, rfl⟩ | exact ⟨_, _, rfl⟩ | decide | (simp [St.get, St.obj, look, lookD, unI, List.map_take]; done))
    rintro ⟨j, hj, hx2⟩
    repeat (first | refine And.intro (by rfl) ?_ | refine litA ?_ | refine litB ?_ | refine litC ?_ | refine litD ?_ | refine And.intro trivial ?_ | refine And.intro (keptI (by repeat' (first | refine And.intro ?_ ?_ | exact True.intro | rfl | (simp; done)))) ?_)
    refine And.intro (fun h => ?_) (fun h => ?_)
    rotate_left
    · have hl2 : i.length ≤ j := by simpa using h
      repeat (first | refine And.intro (by rfl) ?_ | refine litA ?_ | refine litB ?_ | refine litC ?_ | refine litD ?_ | refine And.intro trivial ?_ | refine And.intro (keptI (by repeat' (first | refine And.intro ?_ ?_ | exact True.intro | rfl | (simp; done)))) ?_)
      have ek2 : i.take j = i := List.take_of_length_le hl2
      try rw [ek2] at hx2
      exact ⟨subI (by rw [hv, levelL_zero hx2]), rfl⟩
    have hj' : j < i.length := by simpa using h
    obtain ⟨z, hz⟩ : ∃ z, i[j]? = some z := ⟨_, List.getElem?_eq_getElem hj'⟩
    have e2 : IntKind.i64.wrap ((j : Int) + 1) = ((j + 1 : Nat) : Int) := by rw [wrap_id] <;> omega
    have et2 : i.take (j + 1) = i.take j ++ [z] := by rw [List.take_add_one, hz]; rfl
    repeat (first | refine And.intro (by rfl) ?_ | refine litA ?_ | refine litB ?_ | refine litC ?_ | refine litD ?_ | refine And.intro trivial ?_ | refine And.intro (keptI (by repeat' (first | refine And.intro ?_ ?_ | exact True.intro | rfl | (simp; done)))) ?_)
    obtain ⟨ty, ny, iy⟩ := z
    refine ⟨by simp, encT (.mk ty ny iy), by simpa using encTs_get hz, ?_⟩
    repeat (first | refine And.intro (by rfl) ?_ | refine litA ?_ | refine litB ?_ | refine litC ?_ | refine litD ?_ | refine And.intro trivial ?_ | refine And.intro (keptI (by repeat' (first | refine And.intro ?_ ?_ | exact True.intro | rfl | (simp; done)))) ?_)
    refine ⟨_, _, ih _ (List.mem_of_getElem? hz), rfl, rfl, trivial, ?_⟩
    repeat' (first | refine And.intro (by rfl) ?_ | refine litA ?_ | refine litB ?_ | refine litC ?_ | refine litD ?_ | refine And.intro trivial ?_ | refine And.intro (keptI (by repeat' (first | refine And.intro ?_ ?_ | exact True.intro | rfl | (simp; done)))) ?_ | (refine And.intro ?_ ?_ <;> intro h))
    · exact ⟨subI (by rw [hv, levelL_at hx2 hz (by simpa using h)]), rfl⟩
    · refine ⟨⟨j + 1, hj', (by rw [et2]; exact all_snoc hx2 (by simpa using h))⟩, ?_, ?_⟩
      · repeat' (first | refine fitE_ls rfl rfl ?_ | refine fitC_ls rfl ?_ | exact congrArg I e2 | refine And.intro ?_ ?_ | exact True.intro | rfl | exact ⟨_, _, rfl, rfl⟩ | exact ⟨_, _, rfl⟩ | decide | (simp [St.get, St.obj, look, lookD, unI, List.map_take]; done))
      · dsimp only; omega
  have hk' : k < n.length := by simpa using h
  obtain ⟨y, hy⟩ : ∃ y, n[k]? = some y := ⟨_, List.getElem?_eq_getElem hk'⟩
  have e : IntKind.i64.wrap ((k : Int) + 1) = ((k + 1 : Nat) : Int) := by rw [wrap_id] <;> omega
  have et : n.take (k + 1) = n.take k ++ [y] := by rw [List.take_add_one, hy]; rfl
  repeat (first | refine And.intro (by rfl) ?_ | refine litA ?_ | refine litB ?_ | refine litC ?_ | refine litD ?_ | refine And.intro trivial ?_ | refine And.intro (keptI (by repeat' (first | refine And.intro ?_ ?_ | exact True.intro | rfl | (simp; done)))) ?_)
  have hany : nodeS y = false → levelT (.mk t n i) = 5 := fun hn => by
    rw [levelT, if_neg ht, if_pos]
    exact List.any_eq_true.2 ⟨y, List.mem_of_getElem? hy, by rw [hn]; rfl⟩
  refine ⟨by simp, [I y], by simp [hy], ?_⟩
  repeat' (first | refine And.intro (by rfl) ?_ | refine litA ?_ | refine litB ?_ | refine litC ?_ | refine litD ?_ | refine And.intro trivial ?_ | refine And.intro (keptI (by repeat' (first | refine And.intro ?_ ?_ | exact True.intro | rfl | (simp; done)))) ?_ | (refine And.intro ?_ ?_ <;> intro h))
  · exact ⟨subI (hany (by simp at h; simp [nodeS]; omega)).symm, rfl⟩
  · rename_i h1
    refine ⟨⟨k + 1, hk', (by rw [et]; exact all_snoc hx (by simp at h h1; simp [nodeS]; omega))⟩, ?_, ?_⟩
    · repeat' (first | refine fitE_ls rfl rfl ?_ | refine fitC_ls rfl ?_ | exact congrArg I e | refine And.intro ?_ ?_ | exact True.intro | rfl | exact ⟨_, _, rfl, rfl⟩ | exact ⟨_, _, rfl⟩ | decide | (simp [St.get, St.obj, look, lookD, unI, List.map_take]; done))
    · dsimp only; omega
  · exact ⟨subI (hany (by simp at h; simp [nodeS]; omega)).symm, rfl⟩
def validT (x : Trust) : Int := if depthT x > 4 ∨ sizeT x > 200 then 3 else levelT x
theorem f90_ok (x : Trust) : C 90 [.agg (encT x)] (I (validT x)) := by
  cases x with
  | mk t n i =>
  refine fn_ok (G := G) tabOK hm D0 Tryz.func90 rfl (by kernel_rfl) (by kernel_rfl) rfl rfl ?_
  repeat (first | refine And.intro (by rfl) ?_ | refine litA ?_ | refine litB ?_ | refine litC ?_ | refine litD ?_ | refine And.intro trivial ?_ | refine And.intro (keptI (by repeat' (first | refine And.intro ?_ ?_ | exact True.intro | rfl | (simp; done)))) ?_)
  refine ⟨_, _, f171_ok (.mk t n i), rfl, rfl, trivial, ?_⟩
  repeat' (first | refine And.intro (by rfl) ?_ | refine litA ?_ | refine litB ?_ | refine litC ?_ | refine litD ?_ | refine And.intro trivial ?_ | refine And.intro (keptI (by repeat' (first | refine And.intro ?_ ?_ | exact True.intro | rfl | (simp; done)))) ?_ | (refine And.intro ?_ ?_ <;> intro h))
  · refine ⟨_, _, f172_ok (.mk t n i), rfl, rfl, trivial, ?_⟩
    repeat' (first | refine And.intro (by rfl) ?_ | refine litA ?_ | refine litB ?_ | refine litC ?_ | refine litD ?_ | refine And.intro trivial ?_ | refine And.intro (keptI (by repeat' (first | refine And.intro ?_ ?_ | exact True.intro | rfl | (simp; done)))) ?_ | (refine And.intro ?_ ?_ <;> intro h))
    · exact ⟨subI (by rw [validT, if_pos (.inr (by simpa using h))]), rfl⟩
    rename_i h0
    refine ⟨_, _, f173_ok (.mk t n i), rfl, rfl, trivial, ?_⟩
    repeat (first | refine And.intro (by rfl) ?_ | refine litA ?_ | refine litB ?_ | refine litC ?_ | refine litD ?_ | refine And.intro trivial ?_ | refine And.intro (keptI (by repeat' (first | refine And.intro ?_ ?_ | exact True.intro | rfl | (simp; done)))) ?_)
    exact ⟨subI (by simp at h h0; rw [validT, if_neg (by omega)]), rfl⟩
  · exact ⟨subI (by rw [validT, if_pos (.inl (by simpa using h))]), rfl⟩
theorem f93_ok (x : Trust) : C 93 [.agg (encT x)] (I (validT x)) := by
  cases x with
  | mk t n i =>
  refine fn_ok (G := G) tabOK hm D0 Tryz.func93 rfl (by kernel_rfl) (by kernel_rfl) rfl rfl ?_
  repeat (first | refine And.intro (by rfl) ?_ | refine litA ?_ | refine litB ?_ | refine litC ?_ | refine litD ?_ | refine And.intro trivial ?_ | refine And.intro (keptI (by repeat' (first | refine And.intro ?_ ?_ | exact True.intro | rfl | (simp; done)))) ?_)
  refine ⟨_, _, f175_ok (.mk t n i), rfl, rfl, trivial, ?_⟩
  repeat' (first | refine And.intro (by rfl) ?_ | refine litA ?_ | refine litB ?_ | refine litC ?_ | refine litD ?_ | refine And.intro trivial ?_ | refine And.intro (keptI (by repeat' (first | refine And.intro ?_ ?_ | exact True.intro | rfl | (simp; done)))) ?_ | (refine And.intro ?_ ?_ <;> intro h))
  · refine ⟨_, _, f176_ok (.mk t n i), rfl, rfl, trivial, ?_⟩
    repeat' (first | refine And.intro (by rfl) ?_ | refine litA ?_ | refine litB ?_ | refine litC ?_ | refine litD ?_ | refine And.intro trivial ?_ | refine And.intro (keptI (by repeat' (first | refine And.intro ?_ ?_ | exact True.intro | rfl | (simp; done)))) ?_ | (refine And.intro ?_ ?_ <;> intro h))
    · exact ⟨subI (by rw [validT, if_pos (.inr (by simpa using h))]), rfl⟩
    rename_i h0
    refine ⟨_, _, f177_ok (.mk t n i), rfl, rfl, trivial, ?_⟩
    repeat (first | refine And.intro (by rfl) ?_ | refine litA ?_ | refine litB ?_ | refine litC ?_ | refine litD ?_ | refine And.intro trivial ?_ | refine And.intro (keptI (by repeat' (first | refine And.intro ?_ ?_ | exact True.intro | rfl | (simp; done)))) ?_)
    exact ⟨subI (by simp at h h0; rw [validT, if_neg (by omega)]), rfl⟩
  · exact ⟨subI (by rw [validT, if_pos (.inl (by simpa using h))]), rfl⟩
set_option maxRecDepth 10000
noncomputable instance : DecidableEq Trust := fun _ _ => Classical.propDecidable _
theorem f191_ok (a b : List Trust) (hg : ∀ x ∈ a, ∀ y, C 118 [.agg (encT x), .agg (encT y)] (bval (decide (x = y)))) : C 191 [encTL a, encTL b, .fn 118 []] (bval (decide (a = b))) := by
  refine fn_real (G := G) tabOK hm D0 Tryz.func191 rfl (by kernel_rfl) (by kernel_rfl) rfl rfl fun hr => ?_
  have hla : (a.length : Int) ≤ 9223372036854775807 := by simpa using RealA.len hr (sz := 3) (es := encTs a) (by simp)
  repeat' (first | refine And.intro (by rfl) ?_ | refine litA ?_ | refine litB ?_ | refine litC ?_ | refine litD ?_ | refine And.intro trivial ?_ | refine And.intro (keptI (by repeat' (first | refine And.intro ?_ ?_ | exact True.intro | rfl | (simp; done)))) ?_ | (refine And.intro ?_ ?_ <;> intro h))
  · exact ⟨subB (by simp at h; simp; intro e; exact h (by rw [e])), rfl⟩
  have hab : a.length = b.length := by simp at h; omega
  refine loop_ok (G := G) tabOK hm D0 (α := {k : Nat // k ≤ a.length ∧ a.take k = b.take k}) (fun k => ⟨32, [(17, I k.1), (16, I (encTs a).length), (15, encTL a), (1, encTL b), (2, .fn 118 [])], []⟩) (fun k => a.length - k.1) (by kernel_rfl) ⟨0, Nat.zero_le _, by first | rfl | simp⟩ ?_ ?_
  · repeat' (first | refine fitE_ls rfl rfl ?_ | refine fitC_ls rfl ?_ | refine And.intro ?_ ?_ | exact True.intro | rfl | exact ⟨_, _, rfl, rfl⟩ | exact ⟨_, _, rfl⟩ | decide | (simp [St.get, St.obj, look, lookD, unI, List.map_take]; done))
  rintro ⟨k, hk, hx⟩
  repeat (first | refine And.intro (by rfl) ?_ | refine litA ?_ | refine litB ?_ | refine litC ?_ | refine litD ?_ | refine And.intro trivial ?_ | refine And.intro (keptI (by repeat' (first | refine And.intro ?_ ?_ | exact True.intro | rfl | (simp; done)))) ?_)
  refine And.intro (fun h => ?_) (fun h => ?_)
  rotate_left
  · have hl : a.length ≤ k := by simpa using h
    repeat (first | refine And.intro (by rfl) ?_ | refine litA ?_ | refine litB ?_ | refine litC ?_ | refine litD ?_ | refine And.intro trivial ?_ | refine And.intro (keptI (by repeat' (first | refine And.intro ?_ ?_ | exact True.intro | rfl | (simp; done)))) ?_)
    have ek : a.take k = a := List.take_of_length_le hl
    try rw [ek] at hx
    exact ⟨subB (by rw [hab] at hl; rw [List.take_of_length_le (by omega)] at hx; simp [hx]), rfl⟩
  have hk' : k < a.length := by simpa using h
  obtain ⟨y, hy⟩ : ∃ y, a[k]? = some y := ⟨_, List.getElem?_eq_getElem hk'⟩
  have e : IntKind.i64.wrap ((k : Int) + 1) = ((k + 1 : Nat) : Int) := by rw [wrap_id] <;> omega
  have et : a.take (k + 1) = a.take k ++ [y] := by rw [List.take_add_one, hy]; rfl
  repeat (first | refine And.intro (by rfl) ?_ | refine litA ?_ | refine litB ?_ | refine litC ?_ | refine litD ?_ | refine And.intro trivial ?_ | refine And.intro (keptI (by repeat' (first | refine And.intro ?_ ?_ | exact True.intro | rfl | (simp; done)))) ?_)
  obtain ⟨z, hz⟩ : ∃ z, b[k]? = some z := ⟨_, List.getElem?_eq_getElem (by omega)⟩
  obtain ⟨ty, ny, iy⟩ := y
  obtain ⟨tz, nz, iz⟩ := z
  refine ⟨by simp, encT (.mk ty ny iy), by simpa using encTs_get hy, ?_⟩
  repeat (first | refine And.intro (by rfl) ?_ | refine litA ?_ | refine litB ?_ | refine litC ?_ | refine litD ?_ | refine And.intro trivial ?_ | refine And.intro (keptI (by repeat' (first | refine And.intro ?_ ?_ | exact True.intro | rfl | (simp; done)))) ?_)
  refine ⟨by simp, encT (.mk tz nz iz), by simpa using encTs_get hz, ?_⟩
  repeat (first | refine And.intro (by rfl) ?_ | refine litA ?_ | refine litB ?_ | refine litC ?_ | refine litD ?_ | refine And.intro trivial ?_ | refine And.intro (keptI (by repeat' (first | refine And.intro ?_ ?_ | exact True.intro | rfl | (simp; done)))) ?_)
  refine ⟨_, _, hg (.mk ty ny iy) (List.mem_of_getElem? hy) (.mk tz nz iz), rfl, rfl, trivial, ?_⟩
  repeat' (first | refine And.intro (by rfl) ?_ | refine litA ?_ | refine litB ?_ | refine litC ?_ | refine litD ?_ | refine And.intro trivial ?_ | refine And.intro (keptI (by repeat' (first | refine And.intro ?_ ?_ | exact True.intro | rfl | (simp; done)))) ?_ | (refine And.intro ?_ ?_ <;> intro h))
  · have h := of_decide_eq_false (by simpa only [Bool.not_eq_true'] using h)
    exact ⟨subB (by rw [eq_comm, decide_eq_false_iff_not]; intro e; rw [e, hz] at hy; exact h (Option.some.inj hy).symm), rfl⟩
  · refine ⟨⟨k + 1, hk', (by rw [et, List.take_add_one, hz, hx]; simp at h; simp [h])⟩, ?_, ?_⟩
    · repeat' (first | refine fitE_ls rfl rfl ?_ | refine fitC_ls rfl ?_ | exact congrArg I e | refine And.intro ?_ ?_ | exact True.intro | rfl | exact ⟨_, _, rfl, rfl⟩ | exact ⟨_, _, rfl⟩ | decide | (simp [St.get, St.obj, look, lookD, unI, List.map_take]; done))
    · dsimp only; omega
theorem f118_ok (a b : Trust) : C 118 [.agg (encT a), .agg (encT b)] (bval (decide (a = b))) := by
  induction a using Trust.ind generalizing b with
  | h t n i ih =>
  obtain ⟨t', n', i'⟩ := b
  refine fn_ok (G := G) tabOK hm D0 Tryz.func118 rfl (by kernel_rfl) (by kernel_rfl) rfl rfl ?_
  repeat' (first | refine And.intro (by rfl) ?_ | refine litA ?_ | refine litB ?_ | refine litC ?_ | refine litD ?_ | refine And.intro trivial ?_ | refine And.intro (keptI (by repeat' (first | refine And.intro ?_ ?_ | exact True.intro | rfl | (simp; done)))) ?_ | (refine And.intro ?_ ?_ <;> intro h))
  · refine ⟨_, _, f190_ok n n', rfl, rfl, trivial, ?_⟩
    repeat' (first | refine And.intro (by rfl) ?_ | refine litA ?_ | refine litB ?_ | refine litC ?_ | refine litD ?_ | refine And.intro trivial ?_ | refine And.intro (keptI (by repeat' (first | refine And.intro ?_ ?_ | exact True.intro | rfl | (simp; done)))) ?_ | (refine And.intro ?_ ?_ <;> intro h))
    · refine ⟨_, _, f191_ok i i' ih, rfl, rfl, trivial, ?_⟩
      repeat (first | refine And.intro (by rfl) ?_ | refine litA ?_ | refine litB ?_ | refine litC ?_ | refine litD ?_ | refine And.intro trivial ?_ | refine And.intro (keptI (by repeat' (first | refine And.intro ?_ ?_ | exact True.intro | rfl | (simp; done)))) ?_)
      rename_i ht
      exact ⟨subB (by simp at ht h; simp [ht, h]), rfl⟩
    · exact ⟨subB (by simp at h; simp [h]), rfl⟩
  · exact ⟨subB (by simp at h; simp [h]), rfl⟩
/-! messages and voters -/
structure Message where
  node : Int
  seq : Int
  trust : Trust
  votes : List Claim
  accepts : List Claim
def encM (m : Message) : List PV := [I m.node, I m.seq] ++ encT m.trust ++ [encCs m.votes, encCs m.accepts]
abbrev encML (l : List Message) : PV := .sl none 7 (l.map encM)
def plainM (m : Message) : Bool := nodeS m.node && decide (m.seq ≥ 1) && decide (validT m.trust = 0) && plainL m.votes && plainL m.accepts
theorem f102_ok (m : Message) : C 102 [.agg (encM m)] (bval (plainM m)) := by
  obtain ⟨nd, sq, ⟨t, n, i⟩, vs, ac⟩ := m
  refine fn_ok (G := G) tabOK hm D0 Tryz.func102 rfl (by kernel_rfl) (by kernel_rfl) rfl rfl ?_
  repeat' (first | refine And.intro (by rfl) ?_ | refine litA ?_ | refine litB ?_ | refine litC ?_ | refine litD ?_ | refine And.intro trivial ?_ | refine And.intro (keptI (by repeat' (first | refine And.intro ?_ ?_ | exact True.intro | rfl | (simp; done)))) ?_ | refine ⟨_, _, f183_ok nd, rfl, rfl, trivial, ?_⟩ | refine ⟨_, _, f90_ok (.mk t n i), rfl, rfl, trivial, ?_⟩ | refine ⟨_, _, f123_ok vs, rfl, rfl, trivial, ?_⟩ | refine ⟨_, _, f123_ok ac, rfl, rfl, trivial, ?_⟩ | (refine And.intro ?_ ?_ <;> intro h))
  all_goals exact ⟨subB (by simp [plainM]; simp_all; try omega), rfl⟩
theorem f116_ok (m : Message) : C 116 [.agg (encM m)] (bval (plainM m)) := by
  obtain ⟨nd, sq, ⟨t, n, i⟩, vs, ac⟩ := m
  refine fn_ok (G := G) tabOK hm D0 Tryz.func116 rfl (by kernel_rfl) (by kernel_rfl) rfl rfl ?_
  repeat' (first | refine And.intro (by rfl) ?_ | refine litA ?_ | refine litB ?_ | refine litC ?_ | refine litD ?_ | refine And.intro trivial ?_ | refine And.intro (keptI (by repeat' (first | refine And.intro ?_ ?_ | exact True.intro | rfl | (simp; done)))) ?_ | refine ⟨_, _, f93_ok (.mk t n i), rfl, rfl, trivial, ?_⟩ | refine ⟨_, _, f126_ok vs, rfl, rfl, trivial, ?_⟩ | refine ⟨_, _, f126_ok ac, rfl, rfl, trivial, ?_⟩ | (refine And.intro ?_ ?_ <;> intro h))
  all_goals exact ⟨subB (by simp [plainM, nodeS]; simp_all; try omega), rfl⟩
structure Voter where
  node : Int
  seq : Int
  trust : Trust
  votes : List Claim
  accepts : List Claim
  confirms : List Claim
  heard : List Message
def encV (v : Voter) : List PV := [I v.node, I v.seq] ++ encT v.trust ++ [encCs v.votes, encCs v.accepts, encCs v.confirms, encML v.heard]
set_option maxRecDepth 10000
/-! slices.Clone -/
theorem f174_ok (es : List (List PV)) (hb : es.length ≤ 1073741824) : C 174 [.sl none 1 es] (.sl (some 3) 1 es) := by
  refine fn_ok (G := G) tabOK hm D0 Tryz.func174 rfl (by kernel_rfl) (by kernel_rfl) rfl rfl ?_
  repeat (first | refine And.intro (by rfl) ?_ | refine litA ?_ | refine litB ?_ | refine litC ?_ | refine litD ?_ | refine And.intro trivial ?_ | refine And.intro (keptI (by repeat' (first | refine And.intro ?_ ?_ | exact True.intro | rfl | (simp; done)))) ?_)
  intro b hb0
  repeat' (first | refine And.intro (by rfl) ?_ | refine litA ?_ | refine litB ?_ | refine litC ?_ | refine litD ?_ | refine And.intro trivial ?_ | refine And.intro (keptI (by repeat' (first | refine And.intro ?_ ?_ | exact True.intro | rfl | (simp; done)))) ?_ | (refine And.intro ?_ ?_ <;> intro h))
  · have he : es = [] := by
      cases es with
      | nil => rfl
      | cons x l => have := hb0 (by simp); rw [h] at this; cases this
    exact ⟨he, rfl⟩
  · refine ⟨by simp; omega, rfl, ?_⟩
    repeat (first | refine And.intro (by rfl) ?_ | refine litA ?_ | refine litB ?_ | refine litC ?_ | refine litD ?_ | refine And.intro trivial ?_ | refine And.intro (keptI (by repeat' (first | refine And.intro ?_ ?_ | exact True.intro | rfl | (simp; done)))) ?_)
    exact ⟨by simp [chunks], by simp [chunks], rfl⟩
theorem f180_ok (es : List (List PV)) (hb : es.length ≤ 1073741824) : C 180 [.sl none 2 es] (.sl (some 38) 2 es) := by
  refine fn_ok (G := G) tabOK hm D0 Tryz.func180 rfl (by kernel_rfl) (by kernel_rfl) rfl rfl ?_
  repeat (first | refine And.intro (by rfl) ?_ | refine litA ?_ | refine litB ?_ | refine litC ?_ | refine litD ?_ | refine And.intro trivial ?_ | refine And.intro (keptI (by repeat' (first | refine And.intro ?_ ?_ | exact True.intro | rfl | (simp; done)))) ?_)
  intro b hb0
  repeat' (first | refine And.intro (by rfl) ?_ | refine litA ?_ | refine litB ?_ | refine litC ?_ | refine litD ?_ | refine And.intro trivial ?_ | refine And.intro (keptI (by repeat' (first | refine And.intro ?_ ?_ | exact True.intro | rfl | (simp; done)))) ?_ | (refine And.intro ?_ ?_ <;> intro h))
  · have he : es = [] := by
      cases es with
      | nil => rfl
      | cons x l => have := hb0 (by simp); rw [h] at this; cases this
    exact ⟨he, rfl⟩
  · refine ⟨by simp; omega, rfl, ?_⟩
    repeat (first | refine And.intro (by rfl) ?_ | refine litA ?_ | refine litB ?_ | refine litC ?_ | refine litD ?_ | refine And.intro trivial ?_ | refine And.intro (keptI (by repeat' (first | refine And.intro ?_ ?_ | exact True.intro | rfl | (simp; done)))) ?_)
    exact ⟨by simp [chunks], by simp [chunks], rfl⟩
theorem f106_ok (es : List (List PV)) (hb : es.length ≤ 1073741824) : C 106 [.sl none 7 es] (.sl (some 40) 7 es) := by
  refine fn_ok (G := G) tabOK hm D0 Tryz.func106 rfl (by kernel_rfl) (by kernel_rfl) rfl rfl ?_
  repeat (first | refine And.intro (by rfl) ?_ | refine litA ?_ | refine litB ?_ | refine litC ?_ | refine litD ?_ | refine And.intro trivial ?_ | refine And.intro (keptI (by repeat' (first | refine And.intro ?_ ?_ | exact True.intro | rfl | (simp; done)))) ?_)
  intro b hb0
  repeat' (first | refine And.intro (by rfl) ?_ | refine litA ?_ | refine litB ?_ | refine litC ?_ | refine litD ?_ | refine And.intro trivial ?_ | refine And.intro (keptI (by repeat' (first | refine And.intro ?_ ?_ | exact True.intro | rfl | (simp; done)))) ?_ | (refine And.intro ?_ ?_ <;> intro h))
  · have he : es = [] := by
      cases es with
      | nil => rfl
      | cons x l => have := hb0 (by simp); rw [h] at this; cases this
    exact ⟨he, rfl⟩
  · refine ⟨by simp; omega, rfl, ?_⟩
    repeat (first | refine And.intro (by rfl) ?_ | refine litA ?_ | refine litB ?_ | refine litC ?_ | refine litD ?_ | refine And.intro trivial ?_ | refine And.intro (keptI (by repeat' (first | refine And.intro ?_ ?_ | exact True.intro | rfl | (simp; done)))) ?_)
    exact ⟨by simp [chunks], by simp [chunks], rfl⟩
set_option maxRecDepth 10000
/-! trusts and messages that share nothing -/
theorem sameE_refl (σ : St) : ∀ l, sameE σ σ l
  | [] => trivial
  | (_, _) :: r => ⟨rfl, sameE_refl σ r⟩
theorem sameO_refl (σ : St) : ∀ l, sameO σ σ l
  | [] => trivial
  | (_, _) :: r => ⟨rfl, sameO_refl σ r⟩
theorem Same.refl (σ : St) : Same σ σ := ⟨rfl, sameE_refl σ _, sameE_refl σ _, sameO_refl σ _, sameO_refl σ _⟩
theorem Trust.eta (t : Trust) : t = .mk t.thr t.nodes t.inner := by cases t; rfl
def okT (b : Nat) : Trust → Prop := fun x => ∀ t n i, x = .mk t n i → n.length ≤ b ∧ i.length ≤ b
mutual
/-- No list of a trust is longer than that. -/
def smallT (b : Nat) : Trust → Prop
  | .mk _ n i => n.length ≤ b ∧ i.length ≤ b ∧ smallTs b i
def smallTs (b : Nat) : List Trust → Prop
  | [] => True
  | x :: l => smallT b x ∧ smallTs b l
end
theorem smallTs_mem {b : Nat} {l : List Trust} (h : smallTs b l) : ∀ x ∈ l, smallT b x := by
  induction l with
  | nil => intro x hx; cases hx
  | cons y l ih =>
    intro x hx
    rcases List.mem_cons.1 hx with rfl | hx
    · exact h.1
    · exact ih h.2 x hx
theorem encTs_append (a b : List Trust) : encTs (a ++ b) = encTs a ++ encTs b := by
  induction a with
  | nil => rfl
  | cons x a ih => simp [encTs, ih]
theorem f91_ok (x : Trust) (hs : smallT 1000000 x) : C 91 [.agg (encT x)] (.agg (encT x)) := by
  induction x using Trust.ind with
  | h t n i ih =>
  obtain ⟨hn, hi, hsi⟩ := hs
  have hl : (encTs i).length = i.length := encTs_len i
  refine fn_ok (G := G) tabOK hm pl91 Tryz.func91 rfl (by kernel_rfl) (by kernel_rfl) rfl rfl ?_
  repeat (first | refine And.intro (by rfl) ?_ | refine litA ?_ | refine litB ?_ | refine litC ?_ | refine litD ?_ | refine And.intro trivial ?_ | refine And.intro (keptI (by repeat' (first | refine And.intro ?_ ?_ | exact True.intro | rfl | (simp; done)))) ?_)
  have hc := f174_ok (n.map fun x => [I x]) (by simp; omega)
  apply Exists.intro
  refine And.intro ?_ (And.intro ?_ ?_)
  · repeat (first | refine And.intro (by rfl) ?_ | refine litA ?_ | refine litB ?_ | refine litC ?_ | refine litD ?_ | refine And.intro trivial ?_ | refine And.intro (keptI (by repeat' (first | refine And.intro ?_ ?_ | exact True.intro | rfl | (simp; done)))) ?_)
    refine ⟨_, _, hc, rfl, rfl, trivial, ?_⟩
    repeat (first | refine And.intro (by rfl) ?_ | refine litA ?_ | refine litB ?_ | refine litC ?_ | refine litD ?_ | refine And.intro trivial ?_ | refine And.intro (keptI (by repeat' (first | refine And.intro ?_ ?_ | exact True.intro | rfl | (simp; done)))) ?_)
    repeat' (first | refine fitE_ls rfl rfl ?_ | refine fitC_ls rfl ?_ | refine And.intro ?_ ?_ | exact True.intro | rfl | exact ⟨_, _, rfl, rfl⟩ | exact ⟨_, _, rfl⟩ | decide | (simp [St.get, St.obj, look, lookD, unI, List.map_take]; done))
  · repeat (first | refine And.intro (by rfl) ?_ | refine litA ?_ | refine litB ?_ | refine litC ?_ | refine litD ?_ | refine And.intro trivial ?_ | refine And.intro (keptI (by repeat' (first | refine And.intro ?_ ?_ | exact True.intro | rfl | (simp; done)))) ?_)
    refine ⟨_, _, hc, rfl, rfl, trivial, ?_⟩
    repeat (first | refine And.intro (by rfl) ?_ | refine litA ?_ | refine litB ?_ | refine litC ?_ | refine litD ?_ | refine And.intro trivial ?_ | refine And.intro (keptI (by repeat' (first | refine And.intro ?_ ?_ | exact True.intro | rfl | (simp; done)))) ?_)
    repeat' (first | refine fitE_ls rfl rfl ?_ | refine fitC_ls rfl ?_ | refine And.intro ?_ ?_ | exact True.intro | rfl | exact ⟨_, _, rfl, rfl⟩ | exact ⟨_, _, rfl⟩ | decide | (simp [St.get, St.obj, look, lookD, unI, List.map_take]; done))
  · repeat (first | refine And.intro (by rfl) ?_ | refine litA ?_ | refine litB ?_ | refine litC ?_ | refine litD ?_ | refine And.intro trivial ?_ | refine And.intro (keptI (by repeat' (first | refine And.intro ?_ ?_ | exact True.intro | rfl | (simp; done)))) ?_)
    refine loop_ok (G := G) tabOK hm pl91 (α := {k : Nat // k ≤ i.length ∧ True}) (fun k => ⟨28, [(15, I k.1), (14, I (encTs i).length), (13, encTL i), (3, .loc 4000 0), (2, .loc 3000 0)], [(4000, .box [I t, .ls 11000 (n.map fun x => [I x]).length, .ls 25000 k.1] false), (3000, .box [I 0, .nils, .nils] false), (11000, .row 3 1 (n.map fun x => [I x]) false), (25000, .row 27 3 (encTs (i.take k.1)) false)]⟩) (fun k => i.length - k.1) (by kernel_rfl) ⟨0, Nat.zero_le _, by first | rfl | simp⟩ ?_ ?_
    · repeat' (first | refine fitE_ls rfl rfl ?_ | refine fitC_ls rfl ?_ | refine And.intro ?_ ?_ | exact True.intro | rfl | exact ⟨_, _, rfl, rfl⟩ | exact ⟨_, _, rfl⟩ | decide | (simp [St.get, St.obj, look, lookD, unI, List.map_take]; done))
    rintro ⟨k, hk, hx⟩
    repeat (first | refine And.intro (by rfl) ?_ | refine litA ?_ | refine litB ?_ | refine litC ?_ | refine litD ?_ | refine And.intro trivial ?_ | refine And.intro (keptI (by repeat' (first | refine And.intro ?_ ?_ | exact True.intro | rfl | (simp; done)))) ?_)
    refine And.intro (fun h => ?_) (fun h => ?_)
    rotate_left
    · have hl : i.length ≤ k := by simpa using h
      repeat (first | refine And.intro (by rfl) ?_ | refine litA ?_ | refine litB ?_ | refine litC ?_ | refine litD ?_ | refine And.intro trivial ?_ | refine And.intro (keptI (by repeat' (first | refine And.intro ?_ ?_ | exact True.intro | rfl | (simp; done)))) ?_)
      have ek : i.take k = i := List.take_of_length_le hl
      try rw [ek] at hx
      exact ⟨.inl rfl, rfl, .inl rfl, by dsimp only; rw [ek, encTs_len]; omega, .inl (by rw [ek]), rfl⟩
    have hk' : k < i.length := by simpa using h
    obtain ⟨y, hy⟩ : ∃ y, i[k]? = some y := ⟨_, List.getElem?_eq_getElem hk'⟩
    have e : IntKind.i64.wrap ((k : Int) + 1) = ((k + 1 : Nat) : Int) := by rw [wrap_id] <;> omega
    have et : i.take (k + 1) = i.take k ++ [y] := by rw [List.take_add_one, hy]; rfl
    repeat (first | refine And.intro (by rfl) ?_ | refine litA ?_ | refine litB ?_ | refine litC ?_ | refine litD ?_ | refine And.intro trivial ?_ | refine And.intro (keptI (by repeat' (first | refine And.intro ?_ ?_ | exact True.intro | rfl | (simp; done)))) ?_)
    obtain ⟨ty, ny, iy⟩ := y
    refine ⟨by simp, encT (.mk ty ny iy), by simpa using encTs_get hy, ?_⟩
    repeat (first | refine And.intro (by rfl) ?_ | refine litA ?_ | refine litB ?_ | refine litC ?_ | refine litD ?_ | refine And.intro trivial ?_ | refine And.intro (keptI (by repeat' (first | refine And.intro ?_ ?_ | exact True.intro | rfl | (simp; done)))) ?_)
    refine ⟨_, _, ih _ (List.mem_of_getElem? hy) (smallTs_mem hsi _ (List.mem_of_getElem? hy)), rfl, rfl, trivial, ?_⟩
    repeat (first | refine And.intro (by rfl) ?_ | refine litA ?_ | refine litB ?_ | refine litC ?_ | refine litD ?_ | refine And.intro trivial ?_ | refine And.intro (keptI (by repeat' (first | refine And.intro ?_ ?_ | exact True.intro | rfl | (simp; done)))) ?_)
    refine ⟨by simp; omega, (show k + 1 ≤ 1073741824 by omega), rfl, ?_⟩
    repeat (first | refine And.intro (by rfl) ?_ | refine litA ?_ | refine litB ?_ | refine litC ?_ | refine litD ?_ | refine And.intro trivial ?_ | refine And.intro (keptI (by repeat' (first | refine And.intro ?_ ?_ | exact True.intro | rfl | (simp; done)))) ?_)
    have eo : encTs (i.take k) ++ [encT (.mk ty ny iy)] = encTs (i.take (k + 1)) := by rw [et, encTs_append]; rfl
    refine ⟨⟨k + 1, hk', trivial⟩, ?_, ?_⟩
    · repeat' (first | refine fitE_ls rfl rfl ?_ | refine fitC_ls rfl ?_ | exact congrArg I e | exact congrArg (fun m => Obj.row 27 3 m false) eo | refine And.intro ?_ ?_ | exact True.intro | rfl | exact ⟨_, _, rfl, rfl⟩ | exact ⟨_, _, rfl⟩ | decide | (simp [St.get, St.obj, look, lookD, unI, List.map_take]; done))
    · dsimp only; omega
theorem f127_ok (m : Message) (hs : smallT 1000000 m.trust) (hv : m.votes.length ≤ 1000000) (ha : m.accepts.length ≤ 1000000) : C 127 [.agg (encM m)] (.agg (encM m)) := by
  obtain ⟨nd, sq, ⟨t, n, i⟩, vs, ac⟩ := m
  have h1 := f180_ok (vs.map encC) (by simp at hv ⊢; omega)
  have h2 := f180_ok (ac.map encC) (by simp at ha ⊢; omega)
  refine fn_ok (G := G) tabOK hm pl127 Tryz.func127 rfl (by kernel_rfl) (by kernel_rfl) rfl rfl ?_
  repeat' (first | refine And.intro (by rfl) ?_ | refine litA ?_ | refine litB ?_ | refine litC ?_ | refine litD ?_ | refine And.intro trivial ?_ | refine And.intro (keptI (by repeat' (first | refine And.intro ?_ ?_ | exact True.intro | rfl | (simp; done)))) ?_ | refine ⟨_, _, f91_ok (.mk t n i) hs, rfl, rfl, trivial, ?_⟩ | refine ⟨_, _, h1, rfl, rfl, trivial, ?_⟩ | refine ⟨_, _, h2, rfl, rfl, trivial, ?_⟩ | (refine And.intro ?_ ?_ <;> intro h))
  repeat' (first | refine And.intro ?_ ?_ | exact .inl rfl | rfl | exact .inr ⟨rfl, _, rfl⟩)
set_option maxRecDepth 10000
def smallM (m : Message) : Prop := smallT 1000000 m.trust ∧ m.votes.length ≤ 1000000 ∧ m.accepts.length ≤ 1000000
def smallV (v : Voter) : Prop := smallT 1000000 v.trust ∧ v.votes.length ≤ 1000000 ∧ v.accepts.length ≤ 1000000 ∧ v.confirms.length ≤ 1000000 ∧ v.heard.length ≤ 1000000 ∧ ∀ m ∈ v.heard, smallM m
def sayV (v : Voter) : Message := ⟨v.node, v.seq, v.trust, v.votes, v.accepts⟩
theorem f128_ok (v : Voter) : C 128 [.agg (encV v)] (.agg (encM (sayV v))) := by
  obtain ⟨nd, sq, ⟨t, n, i⟩, vs, ac, cf, hd⟩ := v
  refine fn_ok (G := G) tabOK hm D0 Tryz.func128 rfl (by kernel_rfl) (by kernel_rfl) rfl rfl ?_
  repeat (first | refine And.intro (by rfl) ?_ | refine litA ?_ | refine litB ?_ | refine litC ?_ | refine litD ?_ | refine And.intro trivial ?_ | refine And.intro (keptI (by repeat' (first | refine And.intro ?_ ?_ | exact True.intro | rfl | (simp; done)))) ?_)
  repeat' (first | refine And.intro ?_ ?_ | exact .inl rfl | rfl | exact .inr ⟨rfl, _, rfl⟩)
theorem f42_ok (v : Voter) (hs : smallV v) : C 42 [.agg (encV v)] (.agg (encM (sayV v))) := by
  obtain ⟨nd, sq, ⟨t, n, i⟩, vs, ac, cf, hd⟩ := v
  refine fn_ok (G := G) tabOK hm D0 Tryz.func42 rfl (by kernel_rfl) (by kernel_rfl) rfl rfl ?_
  repeat' (first | refine And.intro (by rfl) ?_ | refine litA ?_ | refine litB ?_ | refine litC ?_ | refine litD ?_ | refine And.intro trivial ?_ | refine And.intro (keptI (by repeat' (first | refine And.intro ?_ ?_ | exact True.intro | rfl | (simp; done)))) ?_ | refine ⟨_, _, f128_ok ⟨nd, sq, .mk t n i, vs, ac, cf, hd⟩, rfl, rfl, trivial, ?_⟩ | refine ⟨_, _, f127_ok ⟨nd, sq, .mk t n i, vs, ac⟩ hs.1 hs.2.1 hs.2.2.1, rfl, rfl, trivial, ?_⟩ | (refine And.intro ?_ ?_ <;> intro h))
  repeat' (first | refine And.intro ?_ ?_ | exact .inl rfl | rfl | exact .inr ⟨rfl, _, rfl⟩)
def zeroV : Voter := ⟨0, 0, .mk 0 [] [], [], [], [], []⟩
def startV (nd : Int) (t : Trust) : Voter × Int := if nodeS nd = false then (zeroV, 5) else if validT t ≠ 0 then (zeroV, validT t) else (⟨nd, 1, t, [], [], [], []⟩, 0)
theorem f14_ok (nd : Int) (t : Trust) (hs : smallT 1000000 t) : C 14 [I nd, .agg (encT t)] (.tup [.agg (encV (startV nd t).1), I (startV nd t).2]) := by
  obtain ⟨t, n, i⟩ := t
  refine fn_ok (G := G) tabOK hm D0 Tryz.func14 rfl (by kernel_rfl) (by kernel_rfl) rfl rfl ?_
  repeat' (first | refine And.intro (by rfl) ?_ | refine litA ?_ | refine litB ?_ | refine litC ?_ | refine litD ?_ | refine And.intro trivial ?_ | refine And.intro (keptI (by repeat' (first | refine And.intro ?_ ?_ | exact True.intro | rfl | (simp; done)))) ?_ | refine ⟨_, _, f90_ok (.mk t n i), rfl, rfl, trivial, ?_⟩ | refine ⟨_, _, f91_ok (.mk t n i) hs, rfl, rfl, trivial, ?_⟩ | (refine And.intro ?_ ?_ <;> intro h))
  · have hn : nodeS nd = false := by simp at *; simp [nodeS]; omega
    have e : startV nd (.mk t n i) = (zeroV, 5) := by rw [startV, if_pos hn]
    rw [e]
    repeat' (first | refine And.intro ?_ ?_ | exact .inl rfl | rfl | exact .inr ⟨rfl, _, rfl⟩)
  · rename_i g1 g2
    have hn : ¬ nodeS nd = false := by simp at g1 g2; simp [nodeS]; omega
    have e : startV nd (.mk t n i) = (zeroV, validT (.mk t n i)) := by rw [startV, if_neg hn, if_pos (by simpa using h)]
    rw [e]
    repeat' (first | refine And.intro ?_ ?_ | exact .inl rfl | rfl | exact .inr ⟨rfl, _, rfl⟩)
  · rename_i g1 g2
    have hn : ¬ nodeS nd = false := by simp at g1 g2; simp [nodeS]; omega
    have e : startV nd (.mk t n i) = (⟨nd, 1, .mk t n i, [], [], [], []⟩, 0) := by rw [startV, if_neg hn, if_neg (by simpa using h)]
    rw [e]
    repeat' (first | refine And.intro ?_ ?_ | exact .inl rfl | rfl | exact .inr ⟨rfl, _, rfl⟩)
  · have hn : nodeS nd = false := by simp at *; simp [nodeS]; omega
    have e : startV nd (.mk t n i) = (zeroV, 5) := by rw [startV, if_pos hn]
    rw [e]
    repeat' (first | refine And.intro ?_ ?_ | exact .inl rfl | rfl | exact .inr ⟨rfl, _, rfl⟩)
theorem f99_ok (v : Voter) (hs : smallV v) : C 99 [.agg (encV v)] (.agg (encV v)) := by
  obtain ⟨nd, sq, ⟨t, n, i⟩, vs, ac, cf, hd⟩ := v
  obtain ⟨s1, s2, s3, s4, s5, s6⟩ := hs
  dsimp only at s1 s2 s3 s4 s5 s6
  have h1 := f180_ok (vs.map encC) (by simp at s2 ⊢; omega)
  have h2 := f180_ok (ac.map encC) (by simp at s3 ⊢; omega)
  have h3 := f180_ok (cf.map encC) (by simp at s4 ⊢; omega)
  refine fn_ok (G := G) tabOK hm pl99 Tryz.func99 rfl (by kernel_rfl) (by kernel_rfl) rfl rfl ?_
  repeat' (first | refine And.intro (by rfl) ?_ | refine litA ?_ | refine litB ?_ | refine litC ?_ | refine litD ?_ | refine And.intro trivial ?_ | refine And.intro (keptI (by repeat' (first | refine And.intro ?_ ?_ | exact True.intro | rfl | (simp; done)))) ?_ | refine ⟨_, _, f91_ok (.mk t n i) s1, rfl, rfl, trivial, ?_⟩ | refine ⟨_, _, h1, rfl, rfl, trivial, ?_⟩ | refine ⟨_, _, h2, rfl, rfl, trivial, ?_⟩ | refine ⟨_, _, h3, rfl, rfl, trivial, ?_⟩ | (refine And.intro ?_ ?_ <;> intro h))
  refine loop_ok (G := G) tabOK hm pl99 (α := {k : Nat // k ≤ hd.length ∧ True}) (fun k => ⟨40, [(27, I k.1), (26, I (hd.map encM).length), (25, encML hd), (1, .loc 2000 0), (2, .loc 3000 0)], [(2000, .box [I nd, I sq, I t, encI n, encTL i, .ls 12000 (vs.map encC).length, .ls 15000 (ac.map encC).length, .ls 18000 (cf.map encC).length, .ls 37000 k.1] false), (3000, .box [I 0, I 0, I 0, .nils, .nils, .nils, .nils, .nils, .nils] false), (12000, .row 38 2 (vs.map encC) false), (15000, .row 38 2 (ac.map encC) false), (18000, .row 38 2 (cf.map encC) false), (37000, .row 40 7 ((hd.take k.1).map encM) false)]⟩) (fun k => hd.length - k.1) (by kernel_rfl) ⟨0, Nat.zero_le _, by first | rfl | simp⟩ ?_ ?_
  · repeat' (first | refine fitE_ls rfl rfl ?_ | refine fitC_ls rfl ?_ | refine And.intro ?_ ?_ | exact True.intro | rfl | exact ⟨_, _, rfl, rfl⟩ | exact ⟨_, _, rfl⟩ | decide | (simp [St.get, St.obj, look, lookD, unI, List.map_take]; done))
  rintro ⟨k, hk, hx⟩
  repeat (first | refine And.intro (by rfl) ?_ | refine litA ?_ | refine litB ?_ | refine litC ?_ | refine litD ?_ | refine And.intro trivial ?_ | refine And.intro (keptI (by repeat' (first | refine And.intro ?_ ?_ | exact True.intro | rfl | (simp; done)))) ?_)
  refine And.intro (fun h => ?_) (fun h => ?_)
  rotate_left
  · have hl : hd.length ≤ k := by simpa using h
    repeat (first | refine And.intro (by rfl) ?_ | refine litA ?_ | refine litB ?_ | refine litC ?_ | refine litD ?_ | refine And.intro trivial ?_ | refine And.intro (keptI (by repeat' (first | refine And.intro ?_ ?_ | exact True.intro | rfl | (simp; done)))) ?_)
    have ek : hd.take k = hd := List.take_of_length_le hl
    try rw [ek] at hx
    have hkl : k = ((hd.take k).map encM).length := by simp; omega
    repeat' (first | refine And.intro ?_ ?_ | exact .inl rfl | rfl | exact hkl | exact .inl (by rw [ek]))
  have hk' : k < hd.length := by simpa using h
  obtain ⟨y, hy⟩ : ∃ y, hd[k]? = some y := ⟨_, List.getElem?_eq_getElem hk'⟩
  have e : IntKind.i64.wrap ((k : Int) + 1) = ((k + 1 : Nat) : Int) := by rw [wrap_id] <;> omega
  have et : hd.take (k + 1) = hd.take k ++ [y] := by rw [List.take_add_one, hy]; rfl
  repeat (first | refine And.intro (by rfl) ?_ | refine litA ?_ | refine litB ?_ | refine litC ?_ | refine litD ?_ | refine And.intro trivial ?_ | refine And.intro (keptI (by repeat' (first | refine And.intro ?_ ?_ | exact True.intro | rfl | (simp; done)))) ?_)
  have hsm := s6 y (List.mem_of_getElem? hy)
  obtain ⟨mn, ms, ⟨mt, mnn, mi⟩, mv, ma⟩ := y
  refine ⟨by simp, encM ⟨mn, ms, .mk mt mnn mi, mv, ma⟩, by simp only [Int.toNat_natCast, List.getElem?_map, hy]; rfl, ?_⟩
  repeat (first | refine And.intro (by rfl) ?_ | refine litA ?_ | refine litB ?_ | refine litC ?_ | refine litD ?_ | refine And.intro trivial ?_ | refine And.intro (keptI (by repeat' (first | refine And.intro ?_ ?_ | exact True.intro | rfl | (simp; done)))) ?_)
  refine ⟨_, _, f127_ok ⟨mn, ms, .mk mt mnn mi, mv, ma⟩ hsm.1 hsm.2.1 hsm.2.2, rfl, rfl, trivial, ?_⟩
  repeat (first | refine And.intro (by rfl) ?_ | refine litA ?_ | refine litB ?_ | refine litC ?_ | refine litD ?_ | refine And.intro trivial ?_ | refine And.intro (keptI (by repeat' (first | refine And.intro ?_ ?_ | exact True.intro | rfl | (simp; done)))) ?_)
  refine ⟨by simp; omega, (show k + 1 ≤ 1073741824 by omega), rfl, ?_⟩
  repeat (first | refine And.intro (by rfl) ?_ | refine litA ?_ | refine litB ?_ | refine litC ?_ | refine litD ?_ | refine And.intro trivial ?_ | refine And.intro (keptI (by repeat' (first | refine And.intro ?_ ?_ | exact True.intro | rfl | (simp; done)))) ?_)
  have eo : (hd.take k).map encM ++ [encM ⟨mn, ms, .mk mt mnn mi, mv, ma⟩] = (hd.take (k + 1)).map encM := by rw [et, List.map_append]; rfl
  refine ⟨⟨k + 1, hk', trivial⟩, ?_, ?_⟩
  · repeat' (first | refine fitE_ls rfl rfl ?_ | refine fitC_ls rfl ?_ | exact congrArg I e | exact congrArg (fun m => Obj.row 40 7 m false) eo | refine And.intro ?_ ?_ | exact True.intro | rfl | exact ⟨_, _, rfl, rfl⟩ | exact ⟨_, _, rfl⟩ | decide | (simp [St.get, St.obj, look, lookD, unI, List.map_take]; done))
  · dsimp only; omega
set_option maxRecDepth 10000
/-! the tape -/
structure Tape where
  l : List Int
  at_ : Nat
def encTp (t : Tape) : List PV := [encI t.l, I t.at_]
def Tape.n (t : Tape) (n : Int) : Int × Tape := match t.l[t.at_]? with
  | none => (0, t)
  | some x => (x % n, ⟨t.l, t.at_ + 1⟩)
theorem Tape.n_range (t : Tape) {n : Int} (h : 0 < n) : 0 ≤ (t.n n).1 ∧ (t.n n).1 < n := by
  unfold Tape.n
  split
  · exact ⟨Int.le_refl _, h⟩
  · exact ⟨Int.emod_nonneg _ (by omega), Int.emod_lt_of_pos _ h⟩
theorem f13_ok (l : List Int) : C 13 [encI l] (.mp (encTp ⟨l.take 400, 0⟩)) := by
  refine fn_real (G := G) tabOK hm D0 Tryz.func13 rfl (by kernel_rfl) (by kernel_rfl) rfl rfl fun hr => ?_
  have hlen := lenI (l := l) hr (by simp)
  repeat (first | refine And.intro (by rfl) ?_ | refine litA ?_ | refine litB ?_ | refine litC ?_ | refine litD ?_ | refine And.intro trivial ?_ | refine And.intro (keptI (by repeat' (first | refine And.intro ?_ ?_ | exact True.intro | rfl | (simp; done)))) ?_)
  refine ⟨by decide, by simp; omega, by simp; omega, ?_⟩
  repeat (first | refine And.intro (by rfl) ?_ | refine litA ?_ | refine litB ?_ | refine litC ?_ | refine litD ?_ | refine And.intro trivial ?_ | refine And.intro (keptI (by repeat' (first | refine And.intro ?_ ?_ | exact True.intro | rfl | (simp; done)))) ?_)
  have es : List.drop (Int.toNat 0) (List.take (min (((l.map fun x => [I x]).length : Nat) : Int) 400).toNat (l.map fun x => [I x])) = (l.take 400).map fun x => [I x] := by
    have e1 : (min (((l.map fun x => [I x]).length : Nat) : Int) 400).toNat = min l.length 400 := by simp; omega
    rw [e1, List.map_take]
    simp [List.take_eq_take_iff]; omega
  exact ⟨congrArg (fun m => [PV.sl none 1 m, I 0]) es, rfl, rfl⟩
theorem tmod_neg {x n : Int} (hn : 0 < n) (h : x.tmod n < 0) : x.tmod n + n = x % n := by
  have h1 := Int.tmod_eq_emod (a := x) (b := n)
  have h2 := Int.emod_lt_of_pos x hn
  have h3 := Int.emod_nonneg x (show n ≠ 0 by omega)
  split at h1
  · omega
  · have : ((n.natAbs : Nat) : Int) = n := by omega
    omega
theorem tmod_pos {x n : Int} (hn : 0 < n) (h : ¬ x.tmod n < 0) : x.tmod n = x % n := by
  have h1 := Int.tmod_eq_emod (a := x) (b := n)
  have h2 := Int.emod_lt_of_pos x hn
  have h3 := Int.emod_nonneg x (show n ≠ 0 by omega)
  split at h1
  · omega
  · have : ((n.natAbs : Nat) : Int) = n := by omega
    omega
theorem f17_ok (t : Tape) (n : Int) (h1 : 0 < n) (h2 : n ≤ 9223372036854775807) : C 17 [.mp (encTp t), I n] (I (t.n n).1) [(0, .box (encTp (t.n n).2) false)] := by
  obtain ⟨l, k⟩ := t
  refine fn_real (G := G) tabOK hm pl17 Tryz.func17 rfl (by kernel_rfl) (by kernel_rfl) rfl rfl fun hr => ?_
  have hlen : (l.length : Int) ≤ 9223372036854775807 := by simpa using (hr (.mp (encTp ⟨l, k⟩)) (by simp) (encI l) (by simp [acells, encTp]) rfl).len
  repeat' (first | refine And.intro (by rfl) ?_ | refine litA ?_ | refine litB ?_ | refine litC ?_ | refine litD ?_ | refine And.intro trivial ?_ | refine And.intro (keptI (by repeat' (first | refine And.intro ?_ ?_ | exact True.intro | rfl | (simp; done)))) ?_ | (refine And.intro ?_ ?_ <;> intro h))
  · have hk : l[k]? = none := by simp at h; simp; omega
    have e : Tape.n ⟨l, k⟩ n = (0, ⟨l, k⟩) := by simp only [Tape.n, hk]
    rw [e]
    repeat' (first | refine And.intro ?_ ?_ | exact .inl rfl | rfl | exact .inr ⟨rfl, _, rfl⟩)
  · have hk : k < l.length := by simp at h; omega
    obtain ⟨x, hx⟩ : ∃ x, l[k]? = some x := ⟨_, List.getElem?_eq_getElem hk⟩
    have e : Tape.n ⟨l, k⟩ n = (x % n, ⟨l, k + 1⟩) := by simp only [Tape.n, hx]
    have ew : IntKind.i64.wrap ((k : Int) + 1) = ((k + 1 : Nat) : Int) := by rw [wrap_id] <;> omega
    rw [e]
    refine ⟨by simp, [I x], by simp [hx], ?_⟩
    repeat (first | refine And.intro (by rfl) ?_ | refine litA ?_ | refine litB ?_ | refine litC ?_ | refine litD ?_ | refine And.intro trivial ?_ | refine And.intro (keptI (by repeat' (first | refine And.intro ?_ ?_ | exact True.intro | rfl | (simp; done)))) ?_)
    refine ⟨by omega, ?_⟩
    repeat' (first | refine And.intro (by rfl) ?_ | refine litA ?_ | refine litB ?_ | refine litC ?_ | refine litD ?_ | refine And.intro trivial ?_ | refine And.intro (keptI (by repeat' (first | refine And.intro ?_ ?_ | exact True.intro | rfl | (simp; done)))) ?_ | (refine And.intro ?_ ?_ <;> intro h))
    · have h : x.tmod n < 0 := by simpa using h
      have hp := tmod_neg h1 h
      have := Int.emod_lt_of_pos x h1
      have := Int.emod_nonneg x (show n ≠ 0 by omega)
      exact ⟨subI (by rw [wrap_id] <;> omega), congrArg (fun m => [encI l, I m]) ew, rfl, rfl⟩
    · have h : ¬ x.tmod n < 0 := by simpa using h
      exact ⟨subI (tmod_pos h1 h), congrArg (fun m => [encI l, I m]) ew, rfl, rfl⟩
theorem f50_ok (t : Tape) (a b : Int) (h1 : -1000000000000 ≤ a) (h2 : a ≤ b) (h3 : b ≤ 1000000000000) : C 50 [.mp (encTp t), I a, I b] (I (a + (t.n (b - a + 1)).1)) [(0, .box (encTp (t.n (b - a + 1)).2) false)] := by
  obtain ⟨l, k⟩ := t
  have hN : C 17 [.mp (encTp ⟨l, k⟩), I (IntKind.i64.wrap (IntKind.i64.wrap (b - a) + 1))] (I (Tape.n ⟨l, k⟩ (b - a + 1)).1) [(0, .box (encTp (Tape.n ⟨l, k⟩ (b - a + 1)).2) false)] := by
    rw [wrap_id (n := b - a) (by omega) (by omega), wrap_id (by omega) (by omega)]
    exact f17_ok _ _ (by omega) (by omega)
  have hr := Tape.n_range ⟨l, k⟩ (n := b - a + 1) (by omega)
  refine fn_ok (G := G) tabOK hm D0 Tryz.func50 rfl (by kernel_rfl) (by kernel_rfl) rfl rfl ?_
  repeat (first | refine And.intro (by rfl) ?_ | refine litA ?_ | refine litB ?_ | refine litC ?_ | refine litD ?_ | refine And.intro trivial ?_ | refine And.intro (keptI (by repeat' (first | refine And.intro ?_ ?_ | exact True.intro | rfl | (simp; done)))) ?_)
  refine ⟨_, _, hN, rfl, rfl, ⟨⟨rfl, rfl⟩, trivial⟩, ?_⟩
  repeat (first | refine And.intro (by rfl) ?_ | refine litA ?_ | refine litB ?_ | refine litC ?_ | refine litD ?_ | refine And.intro trivial ?_ | refine And.intro (keptI (by repeat' (first | refine And.intro ?_ ?_ | exact True.intro | rfl | (simp; done)))) ?_)
  exact ⟨subI (wrap_id (by omega) (by omega)), rfl, rfl, rfl⟩
def Tape.pick (t : Tape) (l : List Int) : Int × Tape := (l.getD (t.n l.length).1.toNat 0, (t.n l.length).2)
theorem f56_ok (t : Tape) (l : List Int) (h : l ≠ []) : C 56 [.mp (encTp t), encI l] (I (t.pick l).1) [(0, .box (encTp (t.pick l).2) false)] := by
  obtain ⟨tl, k⟩ := t
  have hl : 0 < l.length := List.length_pos_iff.2 h
  refine fn_real (G := G) tabOK hm D0 Tryz.func56 rfl (by kernel_rfl) (by kernel_rfl) rfl rfl fun hr => ?_
  have hlen := lenI (l := l) hr (by simp)
  have hN : C 17 [.mp (encTp ⟨tl, k⟩), I ((l.map fun x => [I x]).length : Nat)] (I (Tape.n ⟨tl, k⟩ l.length).1) [(0, .box (encTp (Tape.n ⟨tl, k⟩ l.length).2) false)] := by
    rw [List.length_map]
    exact f17_ok _ _ (by omega) (by omega)
  have hr := Tape.n_range ⟨tl, k⟩ (n := l.length) (by omega)
  repeat (first | refine And.intro (by rfl) ?_ | refine litA ?_ | refine litB ?_ | refine litC ?_ | refine litD ?_ | refine And.intro trivial ?_ | refine And.intro (keptI (by repeat' (first | refine And.intro ?_ ?_ | exact True.intro | rfl | (simp; done)))) ?_)
  refine ⟨_, _, hN, rfl, rfl, ⟨⟨rfl, rfl⟩, trivial⟩, ?_⟩
  have hg : l[(Tape.n ⟨tl, k⟩ l.length).1.toNat]? = some (l.getD (Tape.n ⟨tl, k⟩ l.length).1.toNat 0) := by
    rw [List.getD_eq_getElem?_getD, List.getElem?_eq_getElem (by omega)]; rfl
  repeat (first | refine And.intro (by rfl) ?_ | refine litA ?_ | refine litB ?_ | refine litC ?_ | refine litD ?_ | refine And.intro trivial ?_ | refine And.intro (keptI (by repeat' (first | refine And.intro ?_ ?_ | exact True.intro | rfl | (simp; done)))) ?_)
  refine ⟨hr.1, _, by rw [List.getElem?_map, hg]; rfl, ?_⟩
  repeat (first | refine And.intro (by rfl) ?_ | refine litA ?_ | refine litB ?_ | refine litC ?_ | refine litD ?_ | refine And.intro trivial ?_ | refine And.intro (keptI (by repeat' (first | refine And.intro ?_ ?_ | exact True.intro | rfl | (simp; done)))) ?_)
  repeat' (first | refine And.intro ?_ ?_ | exact .inl rfl | rfl | exact .inr ⟨rfl, _, rfl⟩)
set_option maxRecDepth 10000
def claimT (t : Tape) : Claim × Tape :=
  if (t.n 30).1 = 29 then
    (⟨((t.n 30).2.pick [-1, 0, 7, 8]).1, (((t.n 30).2.pick [-1, 0, 7, 8]).2.pick [-1, 0, 15, 16]).1⟩, (((t.n 30).2.pick [-1, 0, 7, 8]).2.pick [-1, 0, 15, 16]).2)
  else (⟨((t.n 30).2.n 3).1, (((t.n 30).2.n 3).2.n 3).1⟩, (((t.n 30).2.n 3).2.n 3).2)
theorem f44_ok (t : Tape) : C 44 [.mp (encTp t)] (.agg (encC (claimT t).1)) [(0, .box (encTp (claimT t).2) false)] := by
  refine fn_ok (G := G) tabOK hm D0 Tryz.func44 rfl (by kernel_rfl) (by kernel_rfl) rfl rfl ?_
  repeat (first | refine And.intro (by rfl) ?_ | refine litA ?_ | refine litB ?_ | refine litC ?_ | refine litD ?_ | refine And.intro trivial ?_ | refine And.intro (keptI (by repeat' (first | refine And.intro ?_ ?_ | exact True.intro | rfl | (simp; done)))) ?_)
  refine ⟨_, _, f17_ok t 30 (by decide) (by decide), rfl, rfl, ⟨⟨rfl, rfl⟩, trivial⟩, ?_⟩
  repeat' (first | refine And.intro (by rfl) ?_ | refine litA ?_ | refine litB ?_ | refine litC ?_ | refine litD ?_ | refine And.intro trivial ?_ | refine And.intro (keptI (by repeat' (first | refine And.intro ?_ ?_ | exact True.intro | rfl | (simp; done)))) ?_ | (refine And.intro ?_ ?_ <;> intro h))
  · have e : claimT t = (⟨((t.n 30).2.pick [-1, 0, 7, 8]).1, (((t.n 30).2.pick [-1, 0, 7, 8]).2.pick [-1, 0, 15, 16]).1⟩, (((t.n 30).2.pick [-1, 0, 7, 8]).2.pick [-1, 0, 15, 16]).2) := by rw [claimT, if_pos (by simpa using h)]
    rw [e]
    refine ⟨_, _, f56_ok (t.n 30).2 [-1, 0, 7, 8] (by simp), rfl, rfl, ⟨⟨rfl, rfl⟩, trivial⟩, ?_⟩
    repeat (first | refine And.intro (by rfl) ?_ | refine litA ?_ | refine litB ?_ | refine litC ?_ | refine litD ?_ | refine And.intro trivial ?_ | refine And.intro (keptI (by repeat' (first | refine And.intro ?_ ?_ | exact True.intro | rfl | (simp; done)))) ?_)
    refine ⟨_, _, f56_ok ((t.n 30).2.pick [-1, 0, 7, 8]).2 [-1, 0, 15, 16] (by simp), rfl, rfl, ⟨⟨rfl, rfl⟩, trivial⟩, ?_⟩
    repeat (first | refine And.intro (by rfl) ?_ | refine litA ?_ | refine litB ?_ | refine litC ?_ | refine litD ?_ | refine And.intro trivial ?_ | refine And.intro (keptI (by repeat' (first | refine And.intro ?_ ?_ | exact True.intro | rfl | (simp; done)))) ?_)
    repeat' (first | refine And.intro ?_ ?_ | exact .inl rfl | rfl | exact .inr ⟨rfl, _, rfl⟩)
  · have e : claimT t = (⟨((t.n 30).2.n 3).1, (((t.n 30).2.n 3).2.n 3).1⟩, (((t.n 30).2.n 3).2.n 3).2) := by rw [claimT, if_neg (by simpa using h)]
    rw [e]
    refine ⟨_, _, f17_ok (t.n 30).2 3 (by decide) (by decide), rfl, rfl, ⟨⟨rfl, rfl⟩, trivial⟩, ?_⟩
    repeat (first | refine And.intro (by rfl) ?_ | refine litA ?_ | refine litB ?_ | refine litC ?_ | refine litD ?_ | refine And.intro trivial ?_ | refine And.intro (keptI (by repeat' (first | refine And.intro ?_ ?_ | exact True.intro | rfl | (simp; done)))) ?_)
    refine ⟨_, _, f17_ok ((t.n 30).2.n 3).2 3 (by decide) (by decide), rfl, rfl, ⟨⟨rfl, rfl⟩, trivial⟩, ?_⟩
    repeat (first | refine And.intro (by rfl) ?_ | refine litA ?_ | refine litB ?_ | refine litC ?_ | refine litD ?_ | refine And.intro trivial ?_ | refine And.intro (keptI (by repeat' (first | refine And.intro ?_ ?_ | exact True.intro | rfl | (simp; done)))) ?_)
    repeat' (first | refine And.intro ?_ ?_ | exact .inl rfl | rfl | exact .inr ⟨rfl, _, rfl⟩)
/-- That many claims. -/
def claimsT (t : Tape) : Nat → List Claim × Tape
  | 0 => ([], t)
  | n + 1 => ((claimsT t n).1 ++ [(claimT (claimsT t n).2).1], (claimT (claimsT t n).2).2)
theorem claimsT_len (t : Tape) (n : Nat) : (claimsT t n).1.length = n := by
  induction n with
  | zero => rfl
  | succ n ih => simp [claimsT, ih]
theorem f117_ok (t : Tape) (n : Int) (h1 : 0 ≤ n) (h2 : n ≤ 1000000) : C 117 [.mp (encTp t), I n] (encCs (claimsT (t.n (n + 1)).2 (t.n (n + 1)).1.toNat).1) [(0, .box (encTp (claimsT (t.n (n + 1)).2 (t.n (n + 1)).1.toNat).2) false)] := by
  have hN : C 17 [.mp (encTp t), I (IntKind.i64.wrap (n + 1))] (I (t.n (n + 1)).1) [(0, .box (encTp (t.n (n + 1)).2) false)] := by
    rw [wrap_id (by omega) (by omega)]
    exact f17_ok _ _ (by omega) (by omega)
  have hr := t.n_range (n := n + 1) (by omega)
  generalize ht : (t.n (n + 1)).2 = u at hN ⊢
  obtain ⟨m, hmm⟩ := Int.eq_ofNat_of_zero_le hr.1
  rw [hmm] at hN hr ⊢
  simp only [Int.toNat_natCast]
  refine fn_ok (G := G) tabOK hm D0 Tryz.func117 rfl (by kernel_rfl) (by kernel_rfl) rfl rfl ?_
  repeat (first | refine And.intro (by rfl) ?_ | refine litA ?_ | refine litB ?_ | refine litC ?_ | refine litD ?_ | refine And.intro trivial ?_ | refine And.intro (keptI (by repeat' (first | refine And.intro ?_ ?_ | exact True.intro | rfl | (simp; done)))) ?_)
  refine ⟨_, _, hN, rfl, rfl, ⟨⟨rfl, rfl⟩, trivial⟩, ?_⟩
  repeat (first | refine And.intro (by rfl) ?_ | refine litA ?_ | refine litB ?_ | refine litC ?_ | refine litD ?_ | refine And.intro trivial ?_ | refine And.intro (keptI (by repeat' (first | refine And.intro ?_ ?_ | exact True.intro | rfl | (simp; done)))) ?_)
  refine loop_ok (G := G) tabOK hm D0 (α := {k : Nat // k ≤ m}) (fun k => ⟨21, [(6, I ((m - k.1 : Nat) : Int)), (5, .ls 20000 k.1), (0, .loc 1500 0)], [(1500, .box (encTp (claimsT u k.1).2) false), (20000, .row 38 2 ((claimsT u k.1).1.map encC) false)]⟩) (fun k => m - k.1) (by kernel_rfl) ⟨0, Nat.zero_le _⟩ ?_ ?_
  · repeat' (first | refine fitE_ls rfl rfl ?_ | refine fitC_ls rfl ?_ | refine And.intro ?_ ?_ | exact True.intro | rfl | exact ⟨_, _, rfl, rfl⟩ | exact ⟨_, _, rfl⟩ | decide | (simp [St.get, St.obj, look, lookD, unI, List.map_take]; done))
  rintro ⟨k, hk⟩
  repeat (first | refine And.intro (by rfl) ?_ | refine litA ?_ | refine litB ?_ | refine litC ?_ | refine litD ?_ | refine And.intro trivial ?_ | refine And.intro (keptI (by repeat' (first | refine And.intro ?_ ?_ | exact True.intro | rfl | (simp; done)))) ?_)
  refine And.intro (fun h => ?_) (fun h => ?_)
  rotate_left
  · have : k = m := by simp at h; omega
    subst this
    repeat (first | refine And.intro (by rfl) ?_ | refine litA ?_ | refine litB ?_ | refine litC ?_ | refine litD ?_ | refine And.intro trivial ?_ | refine And.intro (keptI (by repeat' (first | refine And.intro ?_ ?_ | exact True.intro | rfl | (simp; done)))) ?_)
    repeat' (first | refine And.intro ?_ ?_ | exact .inl rfl | rfl | (simp [claimsT_len]; done))
  have hk' : k < m := by simp at h; omega
  repeat (first | refine And.intro (by rfl) ?_ | refine litA ?_ | refine litB ?_ | refine litC ?_ | refine litD ?_ | refine And.intro trivial ?_ | refine And.intro (keptI (by repeat' (first | refine And.intro ?_ ?_ | exact True.intro | rfl | (simp; done)))) ?_)
  refine ⟨_, _, f44_ok (claimsT u k).2, rfl, rfl, ⟨⟨rfl, rfl⟩, trivial⟩, ?_⟩
  repeat (first | refine And.intro (by rfl) ?_ | refine litA ?_ | refine litB ?_ | refine litC ?_ | refine litD ?_ | refine And.intro trivial ?_ | refine And.intro (keptI (by repeat' (first | refine And.intro ?_ ?_ | exact True.intro | rfl | (simp; done)))) ?_)
  refine ⟨by simp [claimsT_len], (show k + 1 ≤ 1073741824 by omega), rfl, ?_⟩
  repeat (first | refine And.intro (by rfl) ?_ | refine litA ?_ | refine litB ?_ | refine litC ?_ | refine litD ?_ | refine And.intro trivial ?_ | refine And.intro (keptI (by repeat' (first | refine And.intro ?_ ?_ | exact True.intro | rfl | (simp; done)))) ?_)
  have e : IntKind.i64.wrap (((m - k : Nat) : Int) - 1) = ((m - (k + 1) : Nat) : Int) := by rw [wrap_id] <;> omega
  have eo : (claimsT u k).1.map encC ++ [encC (claimT (claimsT u k).2).1] = (claimsT u (k + 1)).1.map encC := by rw [claimsT, List.map_append]; rfl
  refine ⟨⟨k + 1, hk'⟩, ?_, ?_⟩
  · repeat' (first | refine fitE_ls rfl rfl ?_ | refine fitC_ls rfl ?_ | exact congrArg I e | exact congrArg (fun m => Obj.row 38 2 m false) eo | refine And.intro ?_ ?_ | exact True.intro | rfl | exact ⟨_, _, rfl, rfl⟩ | exact ⟨_, _, rfl⟩ | decide | (simp [St.get, St.obj, look, lookD, unI, List.map_take]; done))
  · dsimp only; omega
set_option maxRecDepth 10000
/-! voting.Valid, ref19.Valid -/
def nodesUp : List Message → Bool
  | [] => true
  | x :: l => (match l with | [] => true | y :: _ => decide (x.node < y.node)) && nodesUp l
def heardOK (nd : Int) (l : List Message) : Bool := l.all (fun m => plainM m && decide (m.node ≠ nd)) && nodesUp l
def validV (v : Voter) : Bool :=
  nodeS v.node && decide (1 ≤ v.seq ∧ v.seq ≤ 1000000) && decide (validT v.trust = 0) && plainL v.votes && plainL v.accepts && plainL v.confirms && consL v.votes && consL v.accepts &&
  v.confirms.all (fun x => decide (x ∈ v.accepts)) && heardOK v.node v.heard
theorem f125_ok (x : Claim) (v : Voter) : C 125 [.agg (encC x), .rp (encV v)] (bval (!decide (x ∈ v.accepts))) := by
  obtain ⟨nd, sq, ⟨t, n, i⟩, vs, ac, cf, hd⟩ := v
  refine fn_ok (G := G) tabOK hm D0 Tryz.func125 rfl (by kernel_rfl) (by kernel_rfl) rfl rfl ?_
  repeat (first | refine And.intro (by rfl) ?_ | refine litA ?_ | refine litB ?_ | refine litC ?_ | refine litD ?_ | refine And.intro trivial ?_ | refine And.intro (keptI (by repeat' (first | refine And.intro ?_ ?_ | exact True.intro | rfl | (simp; done)))) ?_)
  refine ⟨_, _, f98_ok ac x, rfl, rfl, trivial, ?_⟩
  repeat (first | refine And.intro (by rfl) ?_ | refine litA ?_ | refine litB ?_ | refine litC ?_ | refine litD ?_ | refine And.intro trivial ?_ | refine And.intro (keptI (by repeat' (first | refine And.intro ?_ ?_ | exact True.intro | rfl | (simp; done)))) ?_)
  repeat' (first | refine And.intro ?_ ?_ | exact .inl rfl | rfl | exact .inr ⟨rfl, _, rfl⟩)
theorem f95_ok (x y : Claim) : C 95 [.agg (encC y), .rp (encC x)] (bval (contra x y)) := by
  refine fn_ok (G := G) tabOK hm D0 Tryz.func95 rfl (by kernel_rfl) (by kernel_rfl) rfl rfl ?_
  repeat (first | refine And.intro (by rfl) ?_ | refine litA ?_ | refine litB ?_ | refine litC ?_ | refine litD ?_ | refine And.intro trivial ?_ | refine And.intro (keptI (by repeat' (first | refine And.intro ?_ ?_ | exact True.intro | rfl | (simp; done)))) ?_)
  refine ⟨_, _, f96_ok x y, rfl, rfl, trivial, ?_⟩
  repeat (first | refine And.intro (by rfl) ?_ | refine litA ?_ | refine litB ?_ | refine litC ?_ | refine litD ?_ | refine And.intro trivial ?_ | refine And.intro (keptI (by repeat' (first | refine And.intro ?_ ?_ | exact True.intro | rfl | (simp; done)))) ?_)
  repeat' (first | refine And.intro ?_ ?_ | exact .inl rfl | rfl | exact .inr ⟨rfl, _, rfl⟩)
theorem nodesUp_snoc (l : List Message) (y : Message) : nodesUp (l ++ [y]) = (nodesUp l && (match l.getLast? with | none => true | some z => decide (z.node < y.node))) := by
  induction l with
  | nil => rfl
  | cons x l ih =>
    have hc : ∀ x l, nodesUp (x :: l) = ((match l with | [] => true | y :: _ => decide (x.node < y.node)) && nodesUp l) := fun _ _ => rfl
    rw [List.cons_append, hc, hc, ih]
    cases l with
    | nil => simp [nodesUp]
    | cons z l => simp [Bool.and_assoc]
theorem nodesUp_prefix (a b : List Message) (h : nodesUp (a ++ b) = true) : nodesUp a = true := by
  have hc : ∀ x l, nodesUp (x :: l) = ((match l with | [] => true | y :: _ => decide (x.node < y.node)) && nodesUp l) := fun _ _ => rfl
  induction a with
  | nil => rfl
  | cons x a ih =>
    rw [List.cons_append, hc, Bool.and_eq_true] at h
    rw [hc, ih h.2]
    cases a with
    | nil => rfl
    | cons z a => simpa using h.1
theorem heardOK_take {nd : Int} {l : List Message} {k : Nat} (h : heardOK nd (l.take k) = false) : heardOK nd l = false := by
  cases hp : heardOK nd l with
  | false => rfl
  | true =>
    rw [← List.take_append_drop k l] at hp
    unfold heardOK at h hp
    rw [List.all_append, Bool.and_eq_true, Bool.and_eq_true] at hp
    rw [hp.1.1, nodesUp_prefix _ _ hp.2] at h
    cases h
theorem heardOK_snoc (nd : Int) (l : List Message) (y : Message) : heardOK nd (l ++ [y]) = (heardOK nd l && (plainM y && decide (y.node ≠ nd)) && (match l.getLast? with | none => true | some z => decide (z.node < y.node))) := by
  unfold heardOK
  rw [List.all_append, nodesUp_snoc]
  simp only [List.all_cons, List.all_nil, Bool.and_true]
  cases l.all (fun m => plainM m && decide (m.node ≠ nd)) <;> cases nodesUp l <;> simp
theorem last_takeM {l : List Message} {k : Nat} {z : Message} (hk : k < l.length) (h0 : 0 < k) (hz : l[k - 1]? = some z) : (l.take k).getLast? = some z := by
  rw [List.getLast?_eq_getElem?, List.length_take, Nat.min_eq_left (by omega), List.getElem?_take, if_pos (by omega), hz]
theorem f40_ok (v : Voter) : C 40 [.agg (encV v)] (bval (validV v)) := by
  obtain ⟨nd, sq, ⟨t, n, i⟩, vs, ac, cf, hd⟩ := v
  refine fn_real (G := G) tabOK hm pl40 Tryz.func40 rfl (by kernel_rfl) (by kernel_rfl) rfl rfl fun hr => ?_
  have hlc : (cf.length : Int) ≤ 9223372036854775807 := by simpa using (hr (.agg (encV ⟨nd, sq, .mk t n i, vs, ac, cf, hd⟩)) (by simp) (encCs cf) (by simp [acells, encV]) rfl).len
  have hlh : (hd.length : Int) ≤ 9223372036854775807 := by simpa using (hr (.agg (encV ⟨nd, sq, .mk t n i, vs, ac, cf, hd⟩)) (by simp) (encML hd) (by simp [acells, encV]) rfl).len
  clear hr
  repeat' (first | refine And.intro (by rfl) ?_ | refine litA ?_ | refine litB ?_ | refine litC ?_ | refine litD ?_ | refine And.intro trivial ?_ | refine And.intro (keptI (by repeat' (first | refine And.intro ?_ ?_ | exact True.intro | rfl | (simp; done)))) ?_ | refine ⟨_, _, f93_ok (.mk t n i), rfl, rfl, trivial, ?_⟩ | refine ⟨_, _, f126_ok vs, rfl, rfl, trivial, ?_⟩ | refine ⟨_, _, f126_ok ac, rfl, rfl, trivial, ?_⟩ | refine ⟨_, _, f126_ok cf, rfl, rfl, trivial, ?_⟩ | refine ⟨_, _, f109_ok vs, rfl, rfl, trivial, ?_⟩ | refine ⟨_, _, f109_ok ac, rfl, rfl, trivial, ?_⟩ | (refine And.intro ?_ ?_ <;> intro h))
  all_goals try exact ⟨subB (by simp only [validV, nodeS]; simp at *; simp_all; try omega), rfl⟩
  rotate_left
  · have h : nd < 0 := by simpa using h
    have hn : nodeS nd = false := by simp [nodeS]; omega
    exact ⟨subB (by simp [validV, hn]), rfl⟩
  have hv : validV ⟨nd, sq, .mk t n i, vs, ac, cf, hd⟩ = (cf.all (fun x => decide (x ∈ ac)) && heardOK nd hd) := by
    simp only [validV, nodeS]; simp at *; simp_all
  rw [hv]
  clear hv
  rename_i q0 q1 q2 q3 q4 q5 q6 q7 q8
  clear q0 q1 q2 q3 q4 q5 q6 q7 q8 h
  refine loop_ok (G := G) tabOK hm pl40 (α := {k : Nat // k ≤ cf.length ∧ ∀ x ∈ cf.take k, decide (x ∈ ac) = true}) (fun k => ⟨107, [(62, I k.1), (61, I (cf.map encC).length), (60, encCs cf), (1, .loc 2000 0)], [(2000, .box (encV ⟨nd, sq, .mk t n i, vs, ac, cf, hd⟩) false)]⟩) (fun k => cf.length - k.1) (by kernel_rfl) ⟨0, Nat.zero_le _, by first | rfl | simp⟩ ?_ ?_
  · repeat' (first | refine fitE_ls rfl rfl ?_ | refine fitC_ls rfl ?_ | refine And.intro ?_ ?_ | exact True.intro | rfl | exact ⟨_, _, rfl, rfl⟩ | exact ⟨_, _, rfl⟩ | decide | (simp [St.get, St.obj, look, lookD, unI, List.map_take]; done))
  rintro ⟨k, hk, hx⟩
  repeat (first | refine And.intro (by rfl) ?_ | refine litA ?_ | refine litB ?_ | refine litC ?_ | refine litD ?_ | refine And.intro trivial ?_ | refine And.intro (keptI (by repeat' (first | refine And.intro ?_ ?_ | exact True.intro | rfl | (simp; done)))) ?_)
  refine And.intro (fun h => ?_) (fun h => ?_)
  rotate_left
  · have hl : cf.length ≤ k := by simpa using h
    repeat (first | refine And.intro (by rfl) ?_ | refine litA ?_ | refine litB ?_ | refine litC ?_ | refine litD ?_ | refine And.intro trivial ?_ | refine And.intro (keptI (by repeat' (first | refine And.intro ?_ ?_ | exact True.intro | rfl | (simp; done)))) ?_)
    have ek : cf.take k = cf := List.take_of_length_le hl
    try rw [ek] at hx
    have hc : cf.all (fun x => decide (x ∈ ac)) = true := by rw [List.all_eq_true]; exact hx
    rw [hc, Bool.true_and]
    refine loop_ok (G := G) tabOK hm pl40 (α := {j : Nat // j ≤ hd.length ∧ heardOK nd (hd.take j) = true}) (fun j => ⟨107, [(75, I j.1), (74, I (hd.map encM).length), (73, encML hd), (1, .loc 2000 0)], [(2000, .box (encV ⟨nd, sq, .mk t n i, vs, ac, cf, hd⟩) false)]⟩) (fun j => hd.length - j.1) (by kernel_rfl) ⟨0, Nat.zero_le _, by first | rfl | simp⟩ ?_ ?_
    · repeat' (first | refine fitE_ls rfl rfl ?_ | refine fitC_ls rfl ?_ | refine And.intro ?_ ?_ | exact True.intro | rfl | exact ⟨_, _, rfl, rfl⟩ | exact ⟨_, _, rfl⟩ | decide | (simp [St.get, St.obj, look, lookD, unI, List.map_take]; done))
    rintro ⟨j, hj, hx2⟩
    repeat (first | refine And.intro (by rfl) ?_ | refine litA ?_ | refine litB ?_ | refine litC ?_ | refine litD ?_ | refine And.intro trivial ?_ | refine And.intro (keptI (by repeat' (first | refine And.intro ?_ ?_ | exact True.intro | rfl | (simp; done)))) ?_)
    refine And.intro (fun h => ?_) (fun h => ?_)
    rotate_left
    · have hl2 : hd.length ≤ j := by simpa using h
      repeat (first | refine And.intro (by rfl) ?_ | refine litA ?_ | refine litB ?_ | refine litC ?_ | refine litD ?_ | refine And.intro trivial ?_ | refine And.intro (keptI (by repeat' (first | refine And.intro ?_ ?_ | exact True.intro | rfl | (simp; done)))) ?_)
      have ek2 : hd.take j = hd := List.take_of_length_le hl2
      try rw [ek2] at hx2
      exact ⟨subB hx2.symm, rfl⟩
    have hj' : j < hd.length := by simpa using h
    obtain ⟨z, hz⟩ : ∃ z, hd[j]? = some z := ⟨_, List.getElem?_eq_getElem hj'⟩
    have e2 : IntKind.i64.wrap ((j : Int) + 1) = ((j + 1 : Nat) : Int) := by rw [wrap_id] <;> omega
    have et2 : hd.take (j + 1) = hd.take j ++ [z] := by rw [List.take_add_one, hz]; rfl
    repeat (first | refine And.intro (by rfl) ?_ | refine litA ?_ | refine litB ?_ | refine litC ?_ | refine litD ?_ | refine And.intro trivial ?_ | refine And.intro (keptI (by repeat' (first | refine And.intro ?_ ?_ | exact True.intro | rfl | (simp; done)))) ?_)
    have snoc := heardOK_snoc nd (hd.take j) z
    rw [hx2, Bool.true_and, ← et2] at snoc
    have hno : heardOK nd (hd.take (j + 1)) = false → false = heardOK nd hd := fun h => (heardOK_take h).symm
    obtain ⟨mn, ms, ⟨mt, mnn, mi⟩, mv, ma⟩ := z
    refine ⟨by simp, encM ⟨mn, ms, .mk mt mnn mi, mv, ma⟩, by simp only [Int.toNat_natCast, List.getElem?_map, hz]; rfl, ?_⟩
    repeat' (first | refine And.intro (by rfl) ?_ | refine litA ?_ | refine litB ?_ | refine litC ?_ | refine litD ?_ | refine And.intro trivial ?_ | refine And.intro (keptI (by repeat' (first | refine And.intro ?_ ?_ | exact True.intro | rfl | (simp; done)))) ?_ | refine ⟨_, _, f116_ok ⟨mn, ms, .mk mt mnn mi, mv, ma⟩, rfl, rfl, trivial, ?_⟩ | (refine And.intro ?_ ?_ <;> intro h))
    · rename_i hp hne
      simp at hp hne h
      obtain ⟨z, hzz⟩ : ∃ z, hd[j - 1]? = some z := ⟨_, List.getElem?_eq_getElem (by omega)⟩
      have e1 : IntKind.i64.wrap ((j : Int) - 1) = ((j - 1 : Nat) : Int) := by rw [wrap_id] <;> omega
      rw [last_takeM hj' h hzz, hp, Bool.true_and] at snoc
      obtain ⟨zn, zs, ⟨zt, znn, zi⟩, zv, za⟩ := z
      refine ⟨by rw [e1]; omega, encM ⟨zn, zs, .mk zt znn zi, zv, za⟩, by rw [e1]; simp only [Int.toNat_natCast, List.getElem?_map, hzz]; rfl, ?_⟩
      repeat' (first | refine And.intro (by rfl) ?_ | refine litA ?_ | refine litB ?_ | refine litC ?_ | refine litD ?_ | refine And.intro trivial ?_ | refine And.intro (keptI (by repeat' (first | refine And.intro ?_ ?_ | exact True.intro | rfl | (simp; done)))) ?_ | (refine And.intro ?_ ?_ <;> intro h))
      · exact ⟨subB (hno (by rw [snoc]; simp at h; simp; omega)), rfl⟩
      · refine ⟨⟨j + 1, hj', (by rw [snoc]; simp at h; simp; omega)⟩, ?_, ?_⟩
        · repeat' (first | refine fitE_ls rfl rfl ?_ | refine fitC_ls rfl ?_ | exact congrArg I e2 | refine And.intro ?_ ?_ | exact True.intro | rfl | exact ⟨_, _, rfl, rfl⟩ | exact ⟨_, _, rfl⟩ | decide | (simp [St.get, St.obj, look, lookD, unI, List.map_take]; done))
        · dsimp only; omega
    · rename_i hp hne
      simp at hp hne h
      have hj0 : j = 0 := by omega
      refine ⟨⟨j + 1, hj', (by subst hj0; rw [snoc, hp]; simp [hne])⟩, ?_, ?_⟩
      · repeat' (first | refine fitE_ls rfl rfl ?_ | refine fitC_ls rfl ?_ | exact congrArg I e2 | refine And.intro ?_ ?_ | exact True.intro | rfl | exact ⟨_, _, rfl, rfl⟩ | exact ⟨_, _, rfl⟩ | decide | (simp [St.get, St.obj, look, lookD, unI, List.map_take]; done))
      · dsimp only; omega
    · rename_i hp
      simp at hp h
      exact ⟨subB (hno (by rw [snoc]; simp [h])), rfl⟩
    · simp at h
      exact ⟨subB (hno (by rw [snoc, h]; simp)), rfl⟩
  have hk' : k < cf.length := by simpa using h
  obtain ⟨y, hy⟩ : ∃ y, cf[k]? = some y := ⟨_, List.getElem?_eq_getElem hk'⟩
  have e : IntKind.i64.wrap ((k : Int) + 1) = ((k + 1 : Nat) : Int) := by rw [wrap_id] <;> omega
  have et : cf.take (k + 1) = cf.take k ++ [y] := by rw [List.take_add_one, hy]; rfl
  repeat (first | refine And.intro (by rfl) ?_ | refine litA ?_ | refine litB ?_ | refine litC ?_ | refine litD ?_ | refine And.intro trivial ?_ | refine And.intro (keptI (by repeat' (first | refine And.intro ?_ ?_ | exact True.intro | rfl | (simp; done)))) ?_)
  refine ⟨by simp, encC y, by simp [hy], ?_⟩
  repeat (first | refine And.intro (by rfl) ?_ | refine litA ?_ | refine litB ?_ | refine litC ?_ | refine litD ?_ | refine And.intro trivial ?_ | refine And.intro (keptI (by repeat' (first | refine And.intro ?_ ?_ | exact True.intro | rfl | (simp; done)))) ?_)
  refine ⟨_, _, f30_ok ac y, rfl, rfl, trivial, ?_⟩
  repeat' (first | refine And.intro (by rfl) ?_ | refine litA ?_ | refine litB ?_ | refine litC ?_ | refine litD ?_ | refine And.intro trivial ?_ | refine And.intro (keptI (by repeat' (first | refine And.intro ?_ ?_ | exact True.intro | rfl | (simp; done)))) ?_ | (refine And.intro ?_ ?_ <;> intro h))
  · refine ⟨subB ?_, rfl⟩
    have : cf.all (fun x => decide (x ∈ ac)) = false := by
      rw [Bool.eq_false_iff]; intro ha
      have := List.all_eq_true.1 ha y (List.mem_of_getElem? hy)
      simp at h this; exact h this
    rw [this, Bool.false_and]
  · refine ⟨⟨k + 1, hk', (by rw [et]; exact all_snoc hx (by simpa using h))⟩, ?_, ?_⟩
    · repeat' (first | refine fitE_ls rfl rfl ?_ | refine fitC_ls rfl ?_ | exact congrArg I e | refine And.intro ?_ ?_ | exact True.intro | rfl | exact ⟨_, _, rfl, rfl⟩ | exact ⟨_, _, rfl⟩ | decide | (simp [St.get, St.obj, look, lookD, unI, List.map_take]; done))
    · dsimp only; omega
end Go.Proofs.YtnkpakakgfkpbaaGreat.V
end
section
namespace Go.Vi
open Go.RowKit
section
variable {P : Program} {f : FuncId}

theorem ext_ok {args : List PV} {res : PV} {u : Value} (hen : ∀ args w, (callFunc f args).run P w = .ok (.enter f args) w) (hp : ∀ p ∈ args, plain2 p = true) (hres : scR res = true) (hu : ∀ rd L s, rep3 rd L s res u)
    (h : ∀ (rd : Rd) (L : Lay) (vs : List Value) (w : World), All2 (rep2 rd L (look [])) args vs → (∀ p v, rd p = some v → w.cell? p = some v ∧ v.oneCell' = true ∧ p.spot = none) →
      Calls P f vs.toArray w fun e' w' => e' = .returned u ∧ Below w.heap.size w w' ∧ w.drawn ≤ w'.drawn) :
    CallOK P f args res [] := by
  refine ⟨hen, fun rd L w vs hw hv => ?_⟩
  have hB := plain2_adopt hp 0
  rw [hB] at hw hv
  refine (h rd L vs w hv hw.hrd).mono fun e' w' hpost => ?_
  obtain ⟨he, hb, hd⟩ := hpost
  obtain ⟨ha1, ha2⟩ := scR_adopt hres
  have hnone : ∀ id, look ((adopt3 0 res).2 ++ outO []) id = none := fun id => by rw [ha1]; rfl
  refine ⟨u, rd, L, he, ?_, ?_, ?_, ?_⟩
  · refine ⟨fun p v hp => ?_, (fun id cs fr h => by rw [hnone] at h; cases h), (fun id e1 sz1 es1 fr1 h => by rw [hnone] at h; cases h), fun i j b hi => by simp [blkOf, hnone] at hi⟩
    obtain ⟨c1, c2, c3⟩ := hw.hrd p v hp
    refine ⟨?_, c2, c3⟩
    rw [World.cell?_of_block (hb.block p.block (block_lt_of_cell c1))]
    exact c1
  · rw [ha2]; exact hu _ _ _
  · refine ⟨hb.os, hb.tape, ⟨hb.output, hd⟩, hb.size, fun k hk _ => hb.block k hk, fun _ _ h => h, fun _ _ h => .inl h, (fun id b h => by simp [blkOf, hnone] at h), fun _ _ => ⟨rfl, rfl⟩, fun id hp _ _ _ _ h => by rw [hnone] at h; cases h⟩
  · intro id e sz es fr h
    cases h
end
end Go.Vi
end
section
namespace Go.Proofs.YtnkpakakgfkpbaaGreat.V
open Go.Vi
set_option maxRecDepth 10000
open Go.RowKit Go.Maps
/-! claims.Consistent: its map -/
theorem und172 : PG.underlying 172 = some (.map 3 3) := by kernel_rfl
theorem und3 : PG.underlying 3 = some (.int .i64) := by kernel_rfl
theorem und28 : PG.underlying 28 = some (.slice 38) := by kernel_rfl
theorem law3 : Keyed PG 3 := int_keyed und3
theorem zero3 (w : World) : (zeroValue 3).run PG w = .ok (.int .i64 0) w := by kernel_rfl
theorem agg38 (w : World) : (isAgg 38).run PG w = .ok true w := by kernel_rfl
theorem size38 (w : World) : (Go.sizeOf 38).run PG w = .ok 2 w := by kernel_rfl
theorem wf64 {n : Int} (h : 0 ≤ n ∧ n ≤ 1000) : (Lit.int .i64 n).wf = true := by
  simp [Lit.wf, IntKind.min, IntKind.max, IntKind.bits, IntKind.signed]; omega
/-- What the map holds behind some claims. -/
structure MapOf (D : DataW Unit) (l : List Claim) : Prop where
  map : IsMap D
  has : ∀ t : Int, Maps.has D (.int .i64 t) = l.any fun y => decide (y.topic = t)
  at_ : ∀ y ∈ l, D.atKey (.int .i64 y.topic) (.lit (.int .i64 0)) = .lit (.int .i64 y.value)
theorem MapOf.put {D : DataW Unit} {A : List Claim} {y : Claim} (h : MapOf D A) (hs : ∀ z ∈ A, z.topic = y.topic → z.value = y.value) :
    MapOf (D.put (.int .i64 y.topic) (.lit (.int .i64 y.value))) (A ++ [y]) := by
  have hk : WideAt.IsKeyLit (.int .i64 y.topic) := trivial
  refine ⟨h.map.put _ _, fun t => ?_, fun z hz => ?_⟩
  · by_cases ht : t = y.topic
    · subst ht
      rw [has_put_same h.map hk]
      simp
    · rw [has_put_other (by intro e; injection e with _ e; exact ht e), h.has t]
      simp [Ne.symm ht]
  · by_cases ht : z.topic = y.topic
    · have hv : z.value = y.value := by
        rcases List.mem_append.1 hz with hz | hz
        · exact hs z hz ht
        · rw [List.mem_singleton.1 hz]
      rw [ht, hv, atKey_put_same h.map hk]
    · have hzA : z ∈ A := by
        rcases List.mem_append.1 hz with hz | hz
        · exact hz
        · exact absurd (by rw [List.mem_singleton.1 hz]) ht
      rw [atKey_put_other (by intro e; injection e with _ e; exact ht e)]
      exact h.at_ z hzA
theorem cons_ok {A : List Claim} {y : Claim} (hc : consL A = true) (hs : ∀ z ∈ A, z.topic = y.topic → z.value = y.value) : consL (A ++ [y]) = true := by
  rw [consL_snoc, hc, Bool.true_and, List.all_eq_true]
  intro z hz
  simp only [contra, Bool.not_eq_true', decide_eq_false_iff_not]
  rintro ⟨h1, h2⟩
  exact h2 (hs z hz h1.symm).symm
theorem w124 (l : List Claim) (hok : ∀ x ∈ l, x.ok = true) (b off c : Nat) (W : World) (hb : b < W.heap.size) (hl : l.length ≤ 9223372036854775807)
    (hc0 : ∀ (j : Nat) y, l[j]? = some y → W.cell? ⟨b, off + j * 2, none⟩ = some (.int .i64 y.topic)) (hc1 : ∀ (j : Nat) y, l[j]? = some y → W.cell? ⟨b, off + j * 2 + 1, none⟩ = some (.int .i64 y.value)) :
    Calls PG 124 #[.slice (some ⟨b, off, none⟩) l.length c] W fun e w' => e = .returned (.bool (consL l)) ∧ Below W.heap.size W w' ∧ W.drawn ≤ w'.drawn := by
  have hmm := @run_makeMap PG
  have h28 := und28
  have ha38 := agg38
  have hs38 := size38
  go_enter Tryz.func124, Tryz.ntmps124
  go_wp2
  go_loopw [11] (fun i wr => ∃ k : Nat, k ≤ l.length ∧ i = .int .i64 k ∧ consL (l.take k) = true ∧ (∃ D, wr.ownsMap PG 3 (plainElem PG 3) W.heap.size k D ∧ MapOf D (l.take k)) ∧ Below W.heap.size W wr ∧ W.drawn ≤ wr.drawn)
    (fun i _ => l.length - (intOf i).toNat)
  case atStart => exact ⟨0, Nat.zero_le _, rfl, rfl, ⟨.map [], World.ownsMap_made _ _ _ _, isMap_empty, fun _ => rfl, fun y hy => by simp at hy⟩, (Below.refl _ _).alloc (Nat.le_refl _) _, Nat.le_refl _⟩
  case round =>
    obtain ⟨k, hk, rfl, hcons, ⟨D, hown, hD⟩, hnx, hdr⟩ := hrel
    by_cases hlt : k < l.length
    · obtain ⟨y, hy⟩ : ∃ y, l[k]? = some y := ⟨_, List.getElem?_eq_getElem hlt⟩
      have hyok := hok y (List.mem_of_getElem? hy)
      have hyr : (0 ≤ y.topic ∧ y.topic ≤ 1000) ∧ (0 ≤ y.value ∧ y.value ≤ 1000) := by simp [Claim.ok] at hyok; omega
      have hx0 : wr.cell? ⟨b, off + k * 2, none⟩ = some (.int .i64 y.topic) := (hnx.cell hb).trans (hc0 k y hy)
      have hx1 : wr.cell? ⟨b, off + k * 2 + 1, none⟩ = some (.int .i64 y.value) := (hnx.cell hb).trans (hc1 k y hy)
      have hkey : keyOf PG 3 (.int .i64 y.topic) = some (.int .i64 y.topic) := keyOf_int_mk und3 (wf64 hyr.1)
      have hel : plainElem (H := Unit) PG 3 (.int .i64 y.value) = some (.lit (.int .i64 y.value), []) := plainElem_int und3 (wf64 hyr.2)
      go_wp2_with (first
        | (at_lookup; refine wpList_lookup_own_ok_int _ rfl _ _ 172 rfl 3 3 .i64 law3 und172 und3 (zero3 _) W.heap.size k _ rfl (hown.alloc _) _ _ rfl hkey ?_; intro c hat hwc)
        | (at_mapUpdate; refine wpList_mapUpdate_in _ rfl _ _ _ 172 rfl 3 3 law3 und172 _ W.heap.size k _ rfl (hown.alloc _) (by unfold maxLen; omega) _ _ _ rfl rfl hkey _ [] hel ?_; intro w1 hown1 hturn1)
        | go_in)
      · have hhas : Maps.has D (.int .i64 y.topic) = true := by assumption
        have hne : (c != y.value) = true := by assumption
        go_ret
        refine ⟨?_, hnx.alloc hnx.size _, hdr⟩
        rw [hD.has] at hhas
        obtain ⟨z, hz, hzt⟩ := List.any_eq_true.1 hhas
        have hzt : z.topic = y.topic := by simpa using hzt
        have hzv := hD.at_ z hz
        rw [hzt, hat] at hzv
        have hzc : c = z.value := by injection hzv with hzv; injection hzv
        have hfl : consL l = false := by
          refine consL_take (k := k + 1) ?_
          rw [show l.take (k + 1) = l.take k ++ [y] by rw [List.take_add_one, hy]; rfl, consL_snoc (l.take k) y, hcons, Bool.true_and, Bool.eq_false_iff]
          intro hall
          have := List.all_eq_true.1 hall z hz
          simp [contra, hzt] at this
          simp [hzc, this] at hne
        rw [hfl]; rfl
      · have hhas : Maps.has D (.int .i64 y.topic) = true := by assumption
        have hne : (c != y.value) = false := by assumption
        have hs : ∀ z ∈ l.take k, z.topic = y.topic → z.value = y.value := fun z hz hzt => by
          have hzv := hD.at_ z hz
          rw [hzt, hat] at hzv
          have hzc : c = z.value := by injection hzv with hzv; injection hzv
          rw [← hzc]; simpa using hne
        have et : l.take (k + 1) = l.take k ++ [y] := by rw [List.take_add_one, hy]; rfl
        refine ⟨⟨k + 1, hlt, rfl, by rw [et]; exact cons_ok hcons hs, ⟨_, hown1, by rw [et]; exact hD.put hs⟩, (hnx.alloc hnx.size _).grown hturn1.grown (by simpa using Nat.le_succ_of_le hnx.size) (fun j hj => by cases hj; exact Nat.le_refl _), by obtain ⟨_, _, _, _, _, rfl⟩ := hturn1; exact hdr⟩, ?_⟩
        simp [intOf]; omega
      · have hhas : ¬ Maps.has D (.int .i64 y.topic) = true := by assumption
        rw [Bool.not_eq_true] at hhas
        have hs : ∀ z ∈ l.take k, z.topic = y.topic → z.value = y.value := fun z hz hzt => by
          rw [hD.has] at hhas
          have := List.any_eq_false.1 hhas z hz
          simp [hzt] at this
        have et : l.take (k + 1) = l.take k ++ [y] := by rw [List.take_add_one, hy]; rfl
        refine ⟨⟨k + 1, hlt, rfl, by rw [et]; exact cons_ok hcons hs, ⟨_, hown1, by rw [et]; exact hD.put hs⟩, (hnx.alloc hnx.size _).grown hturn1.grown (by simpa using Nat.le_succ_of_le hnx.size) (fun j hj => by cases hj; exact Nat.le_refl _), by obtain ⟨_, _, _, _, _, rfl⟩ := hturn1; exact hdr⟩, ?_⟩
        simp [intOf]; omega
    · have hkl : k = l.length := by omega
      go_wp2
      go_ret
      rw [hkl, List.take_length] at hcons
      exact ⟨by rw [hcons]; rfl, hnx, hdr⟩
theorem w124_none (a : Option Addr) (c : Nat) (W : World) : Calls PG 124 #[.slice a 0 c] W fun e w' => e = .returned (.bool true) ∧ Below W.heap.size W w' ∧ W.drawn ≤ w'.drawn := by
  have hmm := @run_makeMap PG
  go_enter Tryz.func124, Tryz.ntmps124
  go_wp2
  refine wp_loop_rounds 1 ?_
  rw [rounds_succ]
  go_wp2
  go_ret
  exact ⟨rfl, (Below.refl _ _).alloc (Nat.le_refl _) _, Nat.le_refl _⟩
theorem f124_ok (l : List Claim) (h : ∀ x ∈ l, x.ok = true) : C 124 [encCs l] (bval (consL l)) := by
  refine ext_ok (u := .bool (consL l)) (callFunc_enter Tryz.func124 rfl (by kernel_rfl)) (by simp [plain2, plain]) rfl (fun _ _ _ => .sc rfl) ?_
  intro rd L vs w hv hrd
  cases hv with
  | cons h0 h1 =>
    cases h1
    rename_i v
    have h0 : RepP rd (.sl none 2 (l.map encC)) v := h0
    generalize hpp : PV.sl none 2 (l.map encC) = pp at h0
    cases h0 with
    | sl hcap hmax hnone ha hsz hr hrep =>
      rename_i own sz es a cap b o u
      cases hpp
      rw [List.length_map]
      by_cases hl : l = []
      · subst hl
        exact w124_none a cap w
      · have ha := ha (by simpa using hl)
        subst ha
        have cell : ∀ (j : Nat) y, l[j]? = some y → w.cell? ⟨b, o + j * 2, none⟩ = some (.int .i64 y.topic) ∧ w.cell? ⟨b, o + j * 2 + 1, none⟩ = some (.int .i64 y.value) := by
          intro j y hy
          have he : (l.map encC)[j]? = some (encC y) := by rw [List.getElem?_map, hy]; rfl
          have r0 := hr j (encC y) 0 _ he rfl
          have r1 := hr j (encC y) 1 _ he rfl
          have p0 := hrep j (encC y) 0 _ he rfl
          have p1 := hrep j (encC y) 1 _ he rfl
          have c0 := (hrd _ _ r0).1
          have c1 := (hrd _ _ r1).1
          generalize u j 0 = u0 at *
          generalize u j 1 = u1 at *
          cases p0
          cases p1
          exact ⟨c0, by rw [Nat.add_assoc]; exact c1⟩
        obtain ⟨y, hy⟩ : ∃ y, l[0]? = some y := by
          cases l with
          | nil => exact absurd rfl hl
          | cons y l => exact ⟨y, rfl⟩
        have hlt := block_lt_of_cell (cell 0 y hy).1
        have hlen : l.length ≤ 9223372036854775807 := by simp [maxLen] at hcap hmax; omega
        exact w124 l h b o cap w hlt hlen (fun j y hy => (cell j y hy).1) (fun j y hy => (cell j y hy).2)
    | _ => cases hpp
set_option maxRecDepth 10000
theorem plainL_ok {l : List Claim} (h : plainL l = true) : ∀ x ∈ l, x.ok = true := by
  induction l with
  | nil => intro x hx; cases hx
  | cons y l ih =>
    rw [plainL_cons] at h
    simp only [Bool.and_eq_true] at h
    intro x hx
    rcases List.mem_cons.1 hx with rfl | hx
    · exact h.1.1
    · exact ih h.2 x hx
theorem plain_not {l : List Claim} (h : (!plainL l) = false) : ∀ x ∈ l, x.ok = true := plainL_ok (by simpa using h)
theorem f39_ok (v : Voter) : C 39 [.agg (encV v)] (bval (validV v)) := by
  obtain ⟨nd, sq, ⟨t, n, i⟩, vs, ac, cf, hd⟩ := v
  refine fn_real (G := G) tabOK hm pl39 Tryz.func39 rfl (by kernel_rfl) (by kernel_rfl) rfl rfl fun hr => ?_
  have hlc : (cf.length : Int) ≤ 9223372036854775807 := by simpa using (hr (.agg (encV ⟨nd, sq, .mk t n i, vs, ac, cf, hd⟩)) (by simp) (encCs cf) (by simp [acells, encV]) rfl).len
  have hlh : (hd.length : Int) ≤ 9223372036854775807 := by simpa using (hr (.agg (encV ⟨nd, sq, .mk t n i, vs, ac, cf, hd⟩)) (by simp) (encML hd) (by simp [acells, encV]) rfl).len
  clear hr
  have h97 := f97r_ok cf 125 (encV ⟨nd, sq, .mk t n i, vs, ac, cf, hd⟩) (fun x => !decide (x ∈ ac)) (fun x => f125_ok x ⟨nd, sq, .mk t n i, vs, ac, cf, hd⟩)
  repeat' (first | refine And.intro (by rfl) ?_ | refine litA ?_ | refine litB ?_ | refine litC ?_ | refine litD ?_ | refine And.intro trivial ?_ | refine And.intro (keptI (by repeat' (first | refine And.intro ?_ ?_ | exact True.intro | rfl | (simp; done)))) ?_ | refine ⟨_, _, f90_ok (.mk t n i), rfl, rfl, trivial, ?_⟩ | refine ⟨_, _, f123_ok vs, rfl, rfl, trivial, ?_⟩ | refine ⟨_, _, f123_ok ac, rfl, rfl, trivial, ?_⟩ | refine ⟨_, _, f123_ok cf, rfl, rfl, trivial, ?_⟩ | refine ⟨_, _, f124_ok vs (plain_not ‹_›), rfl, rfl, trivial, ?_⟩ | refine ⟨_, _, f124_ok ac (plain_not ‹_›), rfl, rfl, trivial, ?_⟩ | refine ⟨_, _, h97, rfl, rfl, trivial, ?_⟩ | (refine And.intro ?_ ?_ <;> intro h))
  all_goals try exact ⟨subB (by simp only [validV, nodeS]; simp at *; simp_all; try first | omega | (intro g; obtain ⟨x, g1, g2⟩ := h; exact absurd (g x g1) g2)), rfl⟩
  rotate_left
  · have h : nd < 0 := by simpa using h
    have hn : nodeS nd = false := by simp [nodeS]; omega
    exact ⟨subB (by simp [validV, hn]), rfl⟩
  have hv : validV ⟨nd, sq, .mk t n i, vs, ac, cf, hd⟩ = heardOK nd hd := by
    simp only [validV, nodeS]; simp at *; simp_all
  rw [hv]
  clear hv
  rename_i q0 q1 q2 q3 q4 q5 q6 q7 q8 q9
  clear q0 q1 q2 q3 q4 q5 q6 q7 q8 q9 h
  refine loop_ok (G := G) tabOK hm pl39 (α := {j : Nat // j ≤ hd.length ∧ heardOK nd (hd.take j) = true}) (fun j => ⟨96, [(64, I j.1), (63, I (hd.map encM).length), (62, encML hd), (1, .loc 2000 0)], [(2000, .box (encV ⟨nd, sq, .mk t n i, vs, ac, cf, hd⟩) true)]⟩) (fun j => hd.length - j.1) (by kernel_rfl) ⟨0, Nat.zero_le _, by first | rfl | simp⟩ ?_ ?_
  · repeat' (first | refine fitE_ls rfl rfl ?_ | refine fitC_ls rfl ?_ | refine And.intro ?_ ?_ | exact True.intro | rfl | exact ⟨_, _, rfl, rfl⟩ | exact ⟨_, _, rfl⟩ | decide | (simp [St.get, St.obj, look, lookD, unI, List.map_take]; done))
  rintro ⟨j, hj, hx2⟩
  repeat (first | refine And.intro (by rfl) ?_ | refine litA ?_ | refine litB ?_ | refine litC ?_ | refine litD ?_ | refine And.intro trivial ?_ | refine And.intro (keptI (by repeat' (first | refine And.intro ?_ ?_ | exact True.intro | rfl | (simp; done)))) ?_)
  refine And.intro (fun h => ?_) (fun h => ?_)
  rotate_left
  · have hl2 : hd.length ≤ j := by simpa using h
    repeat (first | refine And.intro (by rfl) ?_ | refine litA ?_ | refine litB ?_ | refine litC ?_ | refine litD ?_ | refine And.intro trivial ?_ | refine And.intro (keptI (by repeat' (first | refine And.intro ?_ ?_ | exact True.intro | rfl | (simp; done)))) ?_)
    have ek2 : hd.take j = hd := List.take_of_length_le hl2
    try rw [ek2] at hx2
    exact ⟨subB hx2.symm, rfl⟩
  have hj' : j < hd.length := by simpa using h
  obtain ⟨z, hz⟩ : ∃ z, hd[j]? = some z := ⟨_, List.getElem?_eq_getElem hj'⟩
  have e2 : IntKind.i64.wrap ((j : Int) + 1) = ((j + 1 : Nat) : Int) := by rw [wrap_id] <;> omega
  have et2 : hd.take (j + 1) = hd.take j ++ [z] := by rw [List.take_add_one, hz]; rfl
  repeat (first | refine And.intro (by rfl) ?_ | refine litA ?_ | refine litB ?_ | refine litC ?_ | refine litD ?_ | refine And.intro trivial ?_ | refine And.intro (keptI (by repeat' (first | refine And.intro ?_ ?_ | exact True.intro | rfl | (simp; done)))) ?_)
  have snoc := heardOK_snoc nd (hd.take j) z
  rw [hx2, Bool.true_and, ← et2] at snoc
  have hno : heardOK nd (hd.take (j + 1)) = false → false = heardOK nd hd := fun h => (heardOK_take h).symm
  obtain ⟨mn, ms, ⟨mt, mnn, mi⟩, mv, ma⟩ := z
  refine ⟨by simp, encM ⟨mn, ms, .mk mt mnn mi, mv, ma⟩, by simp only [Int.toNat_natCast, List.getElem?_map, hz]; rfl, ?_⟩
  repeat' (first | refine And.intro (by rfl) ?_ | refine litA ?_ | refine litB ?_ | refine litC ?_ | refine litD ?_ | refine And.intro trivial ?_ | refine And.intro (keptI (by repeat' (first | refine And.intro ?_ ?_ | exact True.intro | rfl | (simp; done)))) ?_ | refine ⟨_, _, f102_ok ⟨mn, ms, .mk mt mnn mi, mv, ma⟩, rfl, rfl, trivial, ?_⟩ | (refine And.intro ?_ ?_ <;> intro h))
  · rename_i hp hne
    simp at hp hne h
    obtain ⟨z, hzz⟩ : ∃ z, hd[j - 1]? = some z := ⟨_, List.getElem?_eq_getElem (by omega)⟩
    have e1 : IntKind.i64.wrap ((j : Int) - 1) = ((j - 1 : Nat) : Int) := by rw [wrap_id] <;> omega
    rw [last_takeM hj' h hzz, hp, Bool.true_and] at snoc
    obtain ⟨zn, zs, ⟨zt, znn, zi⟩, zv, za⟩ := z
    refine ⟨by rw [e1]; omega, encM ⟨zn, zs, .mk zt znn zi, zv, za⟩, by rw [e1]; simp only [Int.toNat_natCast, List.getElem?_map, hzz]; rfl, ?_⟩
    repeat' (first | refine And.intro (by rfl) ?_ | refine litA ?_ | refine litB ?_ | refine litC ?_ | refine litD ?_ | refine And.intro trivial ?_ | refine And.intro (keptI (by repeat' (first | refine And.intro ?_ ?_ | exact True.intro | rfl | (simp; done)))) ?_ | (refine And.intro ?_ ?_ <;> intro h))
    · exact ⟨subB (hno (by rw [snoc]; simp at h; simp; omega)), rfl⟩
    · refine ⟨⟨j + 1, hj', (by rw [snoc]; simp at h; simp; omega)⟩, ?_, ?_⟩
      · repeat' (first | refine fitE_ls rfl rfl ?_ | refine fitC_ls rfl ?_ | exact congrArg I e2 | refine And.intro ?_ ?_ | exact True.intro | rfl | exact ⟨_, _, rfl, rfl⟩ | exact ⟨_, _, rfl⟩ | decide | (simp [St.get, St.obj, look, lookD, unI, List.map_take]; done))
      · dsimp only; omega
  · rename_i hp hne
    simp at hp hne h
    have hj0 : j = 0 := by omega
    refine ⟨⟨j + 1, hj', (by subst hj0; rw [snoc, hp]; simp [hne])⟩, ?_, ?_⟩
    · repeat' (first | refine fitE_ls rfl rfl ?_ | refine fitC_ls rfl ?_ | exact congrArg I e2 | refine And.intro ?_ ?_ | exact True.intro | rfl | exact ⟨_, _, rfl, rfl⟩ | exact ⟨_, _, rfl⟩ | decide | (simp [St.get, St.obj, look, lookD, unI, List.map_take]; done))
    · dsimp only; omega
  · rename_i hp
    simp at hp h
    exact ⟨subB (hno (by rw [snoc]; simp [h])), rfl⟩
  · simp at h
    exact ⟨subB (hno (by rw [snoc, h]; simp)), rfl⟩
set_option maxRecDepth 10000
mutual
def satT (s : Int) : Trust → Bool
  | .mk t n i => validS s && decide (t ≤ ((n.countP (hasS s) + satL s i : Nat) : Int))
def satL (s : Int) : List Trust → Nat
  | [] => 0
  | x :: l => (if satT s x = true then 1 else 0) + satL s l
end
theorem satL_append (s : Int) (a b : List Trust) : satL s (a ++ b) = satL s a + satL s b := by
  induction a with
  | nil => simp [satL]
  | cons x a ih => simp [satL, ih]; omega
theorem satL_le (s : Int) (a : List Trust) : satL s a ≤ a.length := by
  induction a with
  | nil => simp [satL]
  | cons x a ih => simp only [satL, List.length_cons]; split <;> omega
theorem f287_ok (x : Trust) (s : Int) (hs : smallT 1000000 x) : C 287 [.agg (encT x), I s] (bval (satT s x)) := by
  induction x using Trust.ind with
  | h t n i ih =>
  obtain ⟨hn, hi, hsi⟩ := hs
  refine fn_ok (G := G) tabOK hm D0 Tryz.func287 rfl (by kernel_rfl) (by kernel_rfl) rfl rfl ?_
  repeat' (first | refine And.intro (by rfl) ?_ | refine litA ?_ | refine litB ?_ | refine litC ?_ | refine litD ?_ | refine And.intro trivial ?_ | refine And.intro (keptI (by repeat' (first | refine And.intro ?_ ?_ | exact True.intro | rfl | (simp; done)))) ?_ | refine ⟨_, _, f269_ok s, rfl, rfl, trivial, ?_⟩ | (refine And.intro ?_ ?_ <;> intro h))
  · exact ⟨subB (by simp at h; simp [satT, h]), rfl⟩
  have hvs : validS s = true := by simpa using h
  clear h
  refine loop_ok (G := G) tabOK hm D0 (α := {k : Nat // k ≤ n.length ∧ True}) (fun k => ⟨43, [(16, I k.1), (15, I (n.map fun x => [I x]).length), (14, encI n), (5, I (((n.take k.1).countP (hasS s) : Nat) : Int)), (1, I s), (2, .loc 3000 0)], [(3000, .box (encT (.mk t n i)) false)]⟩) (fun k => n.length - k.1) (by kernel_rfl) ⟨0, Nat.zero_le _, by first | rfl | simp⟩ ?_ ?_
  · repeat' (first | refine fitE_ls rfl rfl ?_ | refine fitC_ls rfl ?_ | refine And.intro ?_ ?_ | exact True.intro | rfl | exact ⟨_, _, rfl, rfl⟩ | exact ⟨_, _, rfl⟩ | decide | (simp [St.get, St.obj, look, lookD, unI, List.map_take]; done))
  rintro ⟨k, hk, hx⟩
  repeat (first | refine And.intro (by rfl) ?_ | refine litA ?_ | refine litB ?_ | refine litC ?_ | refine litD ?_ | refine And.intro trivial ?_ | refine And.intro (keptI (by repeat' (first | refine And.intro ?_ ?_ | exact True.intro | rfl | (simp; done)))) ?_)
  refine And.intro (fun h => ?_) (fun h => ?_)
  rotate_left
  · have hl : n.length ≤ k := by simpa using h
    repeat (first | refine And.intro (by rfl) ?_ | refine litA ?_ | refine litB ?_ | refine litC ?_ | refine litD ?_ | refine And.intro trivial ?_ | refine And.intro (keptI (by repeat' (first | refine And.intro ?_ ?_ | exact True.intro | rfl | (simp; done)))) ?_)
    have ek : n.take k = n := List.take_of_length_le hl
    try rw [ek] at hx
    rw [ek]
    refine loop_ok (G := G) tabOK hm D0 (α := {j : Nat // j ≤ i.length ∧ True}) (fun j => ⟨43, [(29, I j.1), (28, I (encTs i).length), (27, encTL i), (5, I ((n.countP (hasS s) + satL s (i.take j.1) : Nat) : Int)), (1, I s), (2, .loc 3000 0)], [(3000, .box (encT (.mk t n i)) false)]⟩) (fun j => i.length - j.1) (by kernel_rfl) ⟨0, Nat.zero_le _, by first | rfl | simp⟩ ?_ ?_
    · repeat' (first | refine fitE_ls rfl rfl ?_ | refine fitC_ls rfl ?_ | refine And.intro ?_ ?_ | exact True.intro | rfl | exact ⟨_, _, rfl, rfl⟩ | exact ⟨_, _, rfl⟩ | decide | (simp [St.get, St.obj, look, lookD, unI, List.map_take]; done))
    rintro ⟨j, hj, hx2⟩
    repeat (first | refine And.intro (by rfl) ?_ | refine litA ?_ | refine litB ?_ | refine litC ?_ | refine litD ?_ | refine And.intro trivial ?_ | refine And.intro (keptI (by repeat' (first | refine And.intro ?_ ?_ | exact True.intro | rfl | (simp; done)))) ?_)
    refine And.intro (fun h => ?_) (fun h => ?_)
    rotate_left
    · have hl2 : i.length ≤ j := by simpa using h
      repeat (first | refine And.intro (by rfl) ?_ | refine litA ?_ | refine litB ?_ | refine litC ?_ | refine litD ?_ | refine And.intro trivial ?_ | refine And.intro (keptI (by repeat' (first | refine And.intro ?_ ?_ | exact True.intro | rfl | (simp; done)))) ?_)
      have ek2 : i.take j = i := List.take_of_length_le hl2
      try rw [ek2] at hx2
      exact ⟨subB (by rw [satT, hvs, Bool.true_and]; show decide (_ ≥ t) = _; rw [ek2]), rfl⟩
    have hj' : j < i.length := by simpa using h
    obtain ⟨z, hz⟩ : ∃ z, i[j]? = some z := ⟨_, List.getElem?_eq_getElem hj'⟩
    have e2 : IntKind.i64.wrap ((j : Int) + 1) = ((j + 1 : Nat) : Int) := by rw [wrap_id] <;> omega
    have et2 : i.take (j + 1) = i.take j ++ [z] := by rw [List.take_add_one, hz]; rfl
    repeat (first | refine And.intro (by rfl) ?_ | refine litA ?_ | refine litB ?_ | refine litC ?_ | refine litD ?_ | refine And.intro trivial ?_ | refine And.intro (keptI (by repeat' (first | refine And.intro ?_ ?_ | exact True.intro | rfl | (simp; done)))) ?_)
    obtain ⟨ty, ny, iy⟩ := z
    refine ⟨by simp, encT (.mk ty ny iy), by simpa using encTs_get hz, ?_⟩
    repeat (first | refine And.intro (by rfl) ?_ | refine litA ?_ | refine litB ?_ | refine litC ?_ | refine litD ?_ | refine And.intro trivial ?_ | refine And.intro (keptI (by repeat' (first | refine And.intro ?_ ?_ | exact True.intro | rfl | (simp; done)))) ?_)
    refine ⟨_, _, ih _ (List.mem_of_getElem? hz) (smallTs_mem hsi _ (List.mem_of_getElem? hz)), rfl, rfl, trivial, ?_⟩
    have hcl := List.countP_le_length (p := hasS s) (l := n)
    have hsl := satL_le s (i.take j)
    have htl := List.length_take_le j i
    repeat' (first | refine And.intro (by rfl) ?_ | refine litA ?_ | refine litB ?_ | refine litC ?_ | refine litD ?_ | refine And.intro trivial ?_ | refine And.intro (keptI (by repeat' (first | refine And.intro ?_ ?_ | exact True.intro | rfl | (simp; done)))) ?_ | (refine And.intro ?_ ?_ <;> intro h))
    · have ec : IntKind.i64.wrap (((n.countP (hasS s) + satL s (i.take j) : Nat) : Int) + 1) = ((n.countP (hasS s) + satL s (i.take (j + 1)) : Nat) : Int) := by
        rw [wrap_id (by omega) (by omega), et2, satL_append]; simp [satL, h]; omega
      refine ⟨⟨j + 1, hj', trivial⟩, ?_, ?_⟩
      · repeat' (first | refine fitE_ls rfl rfl ?_ | refine fitC_ls rfl ?_ | exact congrArg I e2 | exact congrArg I ec | refine And.intro ?_ ?_ | exact True.intro | rfl | exact ⟨_, _, rfl, rfl⟩ | exact ⟨_, _, rfl⟩ | decide | (simp [St.get, St.obj, look, lookD, unI, List.map_take]; done))
      · dsimp only; omega
    · have ec : ((n.countP (hasS s) + satL s (i.take j) : Nat) : Int) = ((n.countP (hasS s) + satL s (i.take (j + 1)) : Nat) : Int) := by
        rw [et2, satL_append]; simp [satL, h]
      refine ⟨⟨j + 1, hj', trivial⟩, ?_, ?_⟩
      · repeat' (first | refine fitE_ls rfl rfl ?_ | refine fitC_ls rfl ?_ | exact congrArg I e2 | exact congrArg I ec | refine And.intro ?_ ?_ | exact True.intro | rfl | exact ⟨_, _, rfl, rfl⟩ | exact ⟨_, _, rfl⟩ | decide | (simp [St.get, St.obj, look, lookD, unI, List.map_take]; done))
      · dsimp only; omega
  have hk' : k < n.length := by simpa using h
  obtain ⟨y, hy⟩ : ∃ y, n[k]? = some y := ⟨_, List.getElem?_eq_getElem hk'⟩
  have e : IntKind.i64.wrap ((k : Int) + 1) = ((k + 1 : Nat) : Int) := by rw [wrap_id] <;> omega
  have et : n.take (k + 1) = n.take k ++ [y] := by rw [List.take_add_one, hy]; rfl
  repeat (first | refine And.intro (by rfl) ?_ | refine litA ?_ | refine litB ?_ | refine litC ?_ | refine litD ?_ | refine And.intro trivial ?_ | refine And.intro (keptI (by repeat' (first | refine And.intro ?_ ?_ | exact True.intro | rfl | (simp; done)))) ?_)
  refine ⟨by simp, [I y], by simp [hy], ?_⟩
  have hcl := List.countP_le_length (p := hasS s) (l := n.take k)
  have htl := List.length_take_le k n
  repeat' (first | refine And.intro (by rfl) ?_ | refine litA ?_ | refine litB ?_ | refine litC ?_ | refine litD ?_ | refine And.intro trivial ?_ | refine And.intro (keptI (by repeat' (first | refine And.intro ?_ ?_ | exact True.intro | rfl | (simp; done)))) ?_ | refine ⟨_, _, f240_ok s y, rfl, rfl, trivial, ?_⟩ | (refine And.intro ?_ ?_ <;> intro h))
  · have ec : IntKind.i64.wrap (((n.take k).countP (hasS s) : Nat) + 1 : Int) = (((n.take (k + 1)).countP (hasS s) : Nat) : Int) := by
      rw [wrap_id (by omega) (by omega), et, List.countP_append]; simp [List.countP_cons, h]
    refine ⟨⟨k + 1, hk', trivial⟩, ?_, ?_⟩
    · repeat' (first | refine fitE_ls rfl rfl ?_ | refine fitC_ls rfl ?_ | exact congrArg I e | exact congrArg I ec | refine And.intro ?_ ?_ | exact True.intro | rfl | exact ⟨_, _, rfl, rfl⟩ | exact ⟨_, _, rfl⟩ | decide | (simp [St.get, St.obj, look, lookD, unI, List.map_take]; done))
    · dsimp only; omega
  · have ec : (((n.take k).countP (hasS s) : Nat) : Int) = (((n.take (k + 1)).countP (hasS s) : Nat) : Int) := by
      rw [et, List.countP_append]; simp [List.countP_cons, h]
    refine ⟨⟨k + 1, hk', trivial⟩, ?_, ?_⟩
    · repeat' (first | refine fitE_ls rfl rfl ?_ | refine fitC_ls rfl ?_ | exact congrArg I e | exact congrArg I ec | refine And.intro ?_ ?_ | exact True.intro | rfl | exact ⟨_, _, rfl, rfl⟩ | exact ⟨_, _, rfl⟩ | decide | (simp [St.get, St.obj, look, lookD, unI, List.map_take]; done))
    · dsimp only; omega
/-! nodeset.Nodes -/
def nodesUpTo (s : Int) (k : Nat) : List Int := ((List.range k).map fun n : Nat => (n : Int)).filter (hasS s)
theorem nodesUpTo_succ (s : Int) (k : Nat) : nodesUpTo s (k + 1) = nodesUpTo s k ++ if hasS s k = true then [(k : Int)] else [] := by
  unfold nodesUpTo
  rw [List.range_succ, List.map_append, List.filter_append]
  simp [List.filter]
  split <;> simp_all
theorem nodesUpTo_len (s : Int) (k : Nat) : (nodesUpTo s k).length ≤ k := by
  unfold nodesUpTo
  refine Nat.le_trans (List.length_filter_le _ _) ?_
  simp
theorem f235_ok (s : Int) : C 235 [I s] (encI (nodesUpTo s 10)) := by
  refine fn_ok (G := G) tabOK hm D0 Tryz.func235 rfl (by kernel_rfl) (by kernel_rfl) rfl rfl ?_
  repeat (first | refine And.intro (by rfl) ?_ | refine litA ?_ | refine litB ?_ | refine litC ?_ | refine litD ?_ | refine And.intro trivial ?_ | refine And.intro (keptI (by repeat' (first | refine And.intro ?_ ?_ | exact True.intro | rfl | (simp; done)))) ?_)
  refine loop_ok (G := G) tabOK hm D0 (α := {k : Nat // k ≤ 10}) (fun k => ⟨17, [(5, I k.1), (3, .ls 15000 ((nodesUpTo s k.1).map fun x => [I x]).length), (0, I s)], [(15000, .row 3 1 ((nodesUpTo s k.1).map fun x => [I x]) false)]⟩) (fun k => 10 - k.1) (by kernel_rfl) ⟨0, by omega⟩ ?_ ?_
  · repeat' (first | refine fitE_ls rfl rfl ?_ | refine fitC_ls rfl ?_ | refine And.intro ?_ ?_ | exact True.intro | rfl | exact ⟨_, _, rfl, rfl⟩ | exact ⟨_, _, rfl⟩ | decide | (simp [St.get, St.obj, look, lookD, unI, List.map_take]; done))
  rintro ⟨k, hk⟩
  repeat (first | refine And.intro (by rfl) ?_ | refine litA ?_ | refine litB ?_ | refine litC ?_ | refine litD ?_ | refine And.intro trivial ?_ | refine And.intro (keptI (by repeat' (first | refine And.intro ?_ ?_ | exact True.intro | rfl | (simp; done)))) ?_)
  refine And.intro (fun h => ?_) (fun h => ?_)
  rotate_left
  · have : k = 10 := by simp at h; omega
    subst this
    repeat (first | refine And.intro (by rfl) ?_ | refine litA ?_ | refine litB ?_ | refine litC ?_ | refine litD ?_ | refine And.intro trivial ?_ | refine And.intro (keptI (by repeat' (first | refine And.intro ?_ ?_ | exact True.intro | rfl | (simp; done)))) ?_)
    repeat' (first | refine And.intro ?_ ?_ | exact .inl rfl | rfl | exact .inr ⟨rfl, _, rfl⟩)
  have hk' : k < 10 := by simp at h; omega
  have e : IntKind.i64.wrap ((k : Int) + 1) = ((k + 1 : Nat) : Int) := by rw [wrap_id] <;> omega
  have hl := nodesUpTo_len s k
  repeat (first | refine And.intro (by rfl) ?_ | refine litA ?_ | refine litB ?_ | refine litC ?_ | refine litD ?_ | refine And.intro trivial ?_ | refine And.intro (keptI (by repeat' (first | refine And.intro ?_ ?_ | exact True.intro | rfl | (simp; done)))) ?_)
  refine ⟨_, _, f240_ok s k, rfl, rfl, trivial, ?_⟩
  repeat' (first | refine And.intro (by rfl) ?_ | refine litA ?_ | refine litB ?_ | refine litC ?_ | refine litD ?_ | refine And.intro trivial ?_ | refine And.intro (keptI (by repeat' (first | refine And.intro ?_ ?_ | exact True.intro | rfl | (simp; done)))) ?_ | (refine And.intro ?_ ?_ <;> intro h))
  · refine ⟨(show ((nodesUpTo s k).map fun x => [I x]).length + 1 ≤ 1073741824 by simp; omega), rfl, ?_⟩
    repeat (first | refine And.intro (by rfl) ?_ | refine litA ?_ | refine litB ?_ | refine litC ?_ | refine litD ?_ | refine And.intro trivial ?_ | refine And.intro (keptI (by repeat' (first | refine And.intro ?_ ?_ | exact True.intro | rfl | (simp; done)))) ?_)
    have hsn := nodesUpTo_succ s k
    rw [if_pos h] at hsn
    have el : ((nodesUpTo s k).map fun x => [I x]).length + 1 = ((nodesUpTo s (k + 1)).map fun x => [I x]).length := by rw [hsn]; simp
    have eo : ((nodesUpTo s k).map fun x => [I x]) ++ [[I k]] = (nodesUpTo s (k + 1)).map fun x => [I x] := by rw [hsn]; simp
    refine ⟨⟨k + 1, hk'⟩, ?_, ?_⟩
    · repeat' (first | refine fitE_ls rfl rfl ?_ | refine fitC_ls rfl ?_ | refine fitE_ls (congrArg (PV.ls 15000) el) rfl ?_ | exact congrArg I e | exact congrArg (fun m => Obj.row 3 1 m false) eo | refine And.intro ?_ ?_ | exact True.intro | rfl | exact ⟨_, _, rfl, rfl⟩ | exact ⟨_, _, rfl⟩ | decide | (simp [St.get, St.obj, look, lookD, unI, List.map_take]; done))
    · dsimp only; omega
  · have hsn := nodesUpTo_succ s k
    rw [if_neg (by rw [h]; simp), List.append_nil] at hsn
    refine ⟨⟨k + 1, hk'⟩, ?_, ?_⟩
    · rw [hsn]
      repeat' (first | refine fitE_ls rfl rfl ?_ | refine fitC_ls rfl ?_ | exact congrArg I e | refine And.intro ?_ ?_ | exact True.intro | rfl | exact ⟨_, _, rfl, rfl⟩ | exact ⟨_, _, rfl⟩ | decide | (simp [St.get, St.obj, look, lookD, unI, List.map_take]; done))
    · dsimp only; omega
end Go.Proofs.YtnkpakakgfkpbaaGreat.V
end
