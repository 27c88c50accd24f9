import Derived.Test.YtnkpakakgfkpbaaGreatK5
set_option linter.unusedVariables false
set_option linter.unusedSimpArgs false
section
namespace Go.Proofs.YtnkpakakgfkpbaaGreat.V
open Go.Vi
set_option maxRecDepth 10000
/-- A member: its trust if it is declared; the zero value otherwise (nil slices). -/
abbrev Member := Option Trust
def encMb : Member → List PV
  | none => [bval false, I 0, .nils, .nils]
  | some t => [bval true] ++ encT t
abbrev encCfg (c : List Member) : PV := .agg [.sl none 4 (c.map encMb)]
def declP : List Member → Nat → Int → Int
  | [], _, s => s
  | m :: l, k, s => declP l (k + 1) (if m.isSome = true ∧ k < 10 then orS s k else s)
def declS (c : List Member) : Int := declP c 0 0
theorem f286_ok (c : List Member) : C 286 [encCfg c] (I (declS c)) := by
  refine fn_real (G := G) tabOK hm D0 Tryz.func286 rfl (by kernel_rfl) (by kernel_rfl) rfl rfl fun hr => ?_
  have hlen : (c.length : Int) ≤ 9223372036854775807 := by simpa using (hr (encCfg c) (by simp) (.sl none 4 (c.map encMb)) (by simp [acells]) rfl).len
  clear hr
  repeat (first | refine And.intro (by rfl) ?_ | refine litA ?_ | refine litB ?_ | refine litC ?_ | refine litD ?_ | refine And.intro trivial ?_ | refine And.intro (keptI (by repeat' (first | refine And.intro ?_ ?_ | exact True.intro | rfl | (simp; done)))) ?_)
  refine loop_ok (G := G) tabOK hm D0 (α := {p : Nat × Int // p.1 ≤ c.length ∧ 0 ≤ p.2 ∧ p.2 < 1024 ∧ declS c = declP (c.drop p.1) p.1 p.2}) (fun p => ⟨26, [(3, I p.1.2), (9, I p.1.1), (8, I (c.map encMb).length), (7, .sl none 4 (c.map encMb))], []⟩) (fun p => c.length - p.1.1) (by kernel_rfl) ⟨(0, 0), by simp [declS]⟩ ?_ ?_
  · repeat' (first | refine fitE_ls rfl rfl ?_ | refine fitC_ls rfl ?_ | refine And.intro ?_ ?_ | exact True.intro | rfl | exact ⟨_, _, rfl, rfl⟩ | exact ⟨_, _, rfl⟩ | decide | (simp [St.get, St.obj, look, lookD, unI, List.map_take]; done))
  rintro ⟨⟨k, s⟩, hk, h1, h2, hx⟩
  dsimp only at hk h1 h2 hx
  repeat (first | refine And.intro (by rfl) ?_ | refine litA ?_ | refine litB ?_ | refine litC ?_ | refine litD ?_ | refine And.intro trivial ?_ | refine And.intro (keptI (by repeat' (first | refine And.intro ?_ ?_ | exact True.intro | rfl | (simp; done)))) ?_)
  refine And.intro (fun h => ?_) (fun h => ?_)
  rotate_left
  · have hl : c.length ≤ k := by simpa using h
    rw [List.drop_of_length_le hl, declP] at hx
    repeat (first | refine And.intro (by rfl) ?_ | refine litA ?_ | refine litB ?_ | refine litC ?_ | refine litD ?_ | refine And.intro trivial ?_ | refine And.intro (keptI (by repeat' (first | refine And.intro ?_ ?_ | exact True.intro | rfl | (simp; done)))) ?_)
    exact ⟨subI hx.symm, rfl⟩
  have hk' : k < c.length := by simpa using h
  obtain ⟨y, hy⟩ : ∃ y, c[k]? = some y := ⟨_, List.getElem?_eq_getElem hk'⟩
  have e : IntKind.i64.wrap ((k : Int) + 1) = ((k + 1 : Nat) : Int) := by rw [wrap_id] <;> omega
  rw [drop_at hy, declP] at hx
  cases y with
  | none =>
    rw [if_neg (fun g => by cases g.1)] at hx
    repeat (first | refine And.intro (by rfl) ?_ | refine litA ?_ | refine litB ?_ | refine litC ?_ | refine litD ?_ | refine And.intro trivial ?_ | refine And.intro (keptI (by repeat' (first | refine And.intro ?_ ?_ | exact True.intro | rfl | (simp; done)))) ?_)
    refine ⟨by simp, encMb none, by simp only [Int.toNat_natCast, List.getElem?_map, hy]; rfl, ?_⟩
    repeat (first | refine And.intro (by rfl) ?_ | refine litA ?_ | refine litB ?_ | refine litC ?_ | refine litD ?_ | refine And.intro trivial ?_ | refine And.intro (keptI (by repeat' (first | refine And.intro ?_ ?_ | exact True.intro | rfl | (simp; done)))) ?_)
    refine ⟨⟨(k + 1, s), hk', h1, h2, hx⟩, ?_, ?_⟩
    · repeat' (first | refine fitE_ls rfl rfl ?_ | refine fitC_ls rfl ?_ | exact congrArg I e | refine And.intro ?_ ?_ | exact True.intro | rfl | exact ⟨_, _, rfl, rfl⟩ | exact ⟨_, _, rfl⟩ | decide | (simp [St.get, St.obj, look, lookD, unI, List.map_take]; done))
    · dsimp only; omega
  | some y =>
    obtain ⟨ty, ny, iy⟩ := y
    repeat (first | refine And.intro (by rfl) ?_ | refine litA ?_ | refine litB ?_ | refine litC ?_ | refine litD ?_ | refine And.intro trivial ?_ | refine And.intro (keptI (by repeat' (first | refine And.intro ?_ ?_ | exact True.intro | rfl | (simp; done)))) ?_)
    refine ⟨by simp, encMb (some (.mk ty ny iy)), by simp only [Int.toNat_natCast, List.getElem?_map, hy]; rfl, ?_⟩
    repeat' (first | refine And.intro (by rfl) ?_ | refine litA ?_ | refine litB ?_ | refine litC ?_ | refine litD ?_ | refine And.intro trivial ?_ | refine And.intro (keptI (by repeat' (first | refine And.intro ?_ ?_ | exact True.intro | rfl | (simp; done)))) ?_ | (refine And.intro ?_ ?_ <;> intro h))
    · have h10 : k < 10 := by simp at h; omega
      rw [if_pos ⟨rfl, h10⟩] at hx
      refine ⟨by simp, ?_⟩
      repeat (first | refine And.intro (by rfl) ?_ | refine litA ?_ | refine litB ?_ | refine litC ?_ | refine litD ?_ | refine And.intro trivial ?_ | refine And.intro (keptI (by repeat' (first | refine And.intro ?_ ?_ | exact True.intro | rfl | (simp; done)))) ?_)
      have hb := orS_lt h1 h2 (show (0 : Int) ≤ k by omega) (by omega)
      have eor := or_pow h1 h2 (show (0 : Int) ≤ (k : Int) by omega) (by omega)
      refine ⟨⟨(k + 1, orS s k), hk', hb.1, hb.2, hx⟩, ?_, ?_⟩
      · repeat' (first | refine fitE_ls rfl rfl ?_ | refine fitC_ls rfl ?_ | exact congrArg I e | exact congrArg I eor | refine And.intro ?_ ?_ | exact True.intro | rfl | exact ⟨_, _, rfl, rfl⟩ | exact ⟨_, _, rfl⟩ | decide | (simp [St.get, St.obj, look, lookD, unI, List.map_take]; done))
      · dsimp only; omega
    · have h10 : ¬ k < 10 := by simp at h; omega
      rw [if_neg (fun g => h10 g.2)] at hx
      refine ⟨⟨(k + 1, s), hk', h1, h2, hx⟩, ?_, ?_⟩
      · repeat' (first | refine fitE_ls rfl rfl ?_ | refine fitC_ls rfl ?_ | exact congrArg I e | refine And.intro ?_ ?_ | exact True.intro | rfl | exact ⟨_, _, rfl, rfl⟩ | exact ⟨_, _, rfl⟩ | decide | (simp [St.get, St.obj, look, lookD, unI, List.map_take]; done))
      · dsimp only; omega
def trustOf (c : List Member) (k : Int) : Trust := match c[k.toNat]? with
  | some (some t) => t
  | _ => .mk 0 [] []
def smallC (c : List Member) : Prop := c.length = 10 ∧ ∀ t, some t ∈ c → smallT 1000000 t
theorem smallC_trust {c : List Member} (h : smallC c) (k : Int) : smallT 1000000 (trustOf c k) := by
  unfold trustOf
  split
  · rename_i t hk
    exact h.2 t (List.mem_of_getElem? hk)
  · exact ⟨by simp, by simp, trivial⟩
theorem satW (s ty : Int) (ny : List Int) (iy : List Trust) (b : Bool) (h : C 287 [.agg (encT (.mk ty ny iy)), I s] (bval b)) : C 287 [.agg [I ty, encI ny, encTL iy], I s] (bval b) := h
theorem satN (s : Int) : C 287 [.agg [I 0, .nils, .nils], I s] (bval (satT s (.mk 0 [] []))) :=
  CallOK.weak (args' := [.agg [I 0, .nils, .nils], I s]) (f287_ok (.mk 0 [] []) s ⟨by simp, by simp, trivial⟩) ⟨⟨.inl rfl, .inr ⟨rfl, _, rfl⟩, .inr ⟨rfl, _, rfl⟩, trivial⟩, .inl rfl, trivial⟩
theorem f313_ok (c : List Member) (k s : Int) (h : smallC c) (h1 : 0 ≤ k) (h2 : k < 10) : C 313 [encCfg c, I k, I s] (bval (satT s (trustOf c k))) := by
  have hk : k.toNat < c.length := by have := h.1; omega
  obtain ⟨m, hm'⟩ : ∃ m, c[k.toNat]? = some m := ⟨_, List.getElem?_eq_getElem hk⟩
  have hsm := smallC_trust h k
  cases m with
  | none =>
    have ht : trustOf c k = .mk 0 [] [] := by simp [trustOf, hm']
    rw [ht]
    refine fn_ok (G := G) tabOK hm D0 Tryz.func313 rfl (by kernel_rfl) (by kernel_rfl) rfl rfl ?_
    repeat (first | refine And.intro (by rfl) ?_ | refine litA ?_ | refine litB ?_ | refine litC ?_ | refine litD ?_ | refine And.intro trivial ?_ | refine And.intro (keptI (by repeat' (first | refine And.intro ?_ ?_ | exact True.intro | rfl | (simp; done)))) ?_)
    refine ⟨h1, encMb none, by rw [List.getElem?_map, hm']; rfl, ?_⟩
    repeat (first | refine And.intro (by rfl) ?_ | refine litA ?_ | refine litB ?_ | refine litC ?_ | refine litD ?_ | refine And.intro trivial ?_ | refine And.intro (keptI (by repeat' (first | refine And.intro ?_ ?_ | exact True.intro | rfl | (simp; done)))) ?_)
    refine ⟨_, _, satN s, rfl, rfl, trivial, ?_⟩
    repeat (first | refine And.intro (by rfl) ?_ | refine litA ?_ | refine litB ?_ | refine litC ?_ | refine litD ?_ | refine And.intro trivial ?_ | refine And.intro (keptI (by repeat' (first | refine And.intro ?_ ?_ | exact True.intro | rfl | (simp; done)))) ?_)
    repeat' (first | refine And.intro ?_ ?_ | exact .inl rfl | rfl | exact .inr ⟨rfl, _, rfl⟩)
  | some t =>
    have ht : trustOf c k = t := by simp [trustOf, hm']
    rw [ht] at hsm ⊢
    obtain ⟨ty, ny, iy⟩ := t
    refine fn_ok (G := G) tabOK hm D0 Tryz.func313 rfl (by kernel_rfl) (by kernel_rfl) rfl rfl ?_
    repeat (first | refine And.intro (by rfl) ?_ | refine litA ?_ | refine litB ?_ | refine litC ?_ | refine litD ?_ | refine And.intro trivial ?_ | refine And.intro (keptI (by repeat' (first | refine And.intro ?_ ?_ | exact True.intro | rfl | (simp; done)))) ?_)
    refine ⟨h1, encMb (some (.mk ty ny iy)), by rw [List.getElem?_map, hm']; rfl, ?_⟩
    repeat (first | refine And.intro (by rfl) ?_ | refine litA ?_ | refine litB ?_ | refine litC ?_ | refine litD ?_ | refine And.intro trivial ?_ | refine And.intro (keptI (by repeat' (first | refine And.intro ?_ ?_ | exact True.intro | rfl | (simp; done)))) ?_)
    refine ⟨_, _, f287_ok (.mk ty ny iy) s hsm, rfl, rfl, trivial, ?_⟩
    repeat (first | refine And.intro (by rfl) ?_ | refine litA ?_ | refine litB ?_ | refine litC ?_ | refine litD ?_ | refine And.intro trivial ?_ | refine And.intro (keptI (by repeat' (first | refine And.intro ?_ ?_ | exact True.intro | rfl | (simp; done)))) ?_)
    repeat' (first | refine And.intro ?_ ?_ | exact .inl rfl | rfl | exact .inr ⟨rfl, _, rfl⟩)
theorem nodesUpTo_mem {s k : Int} (h : k ∈ nodesUpTo s 10) : 0 ≤ k ∧ k < 10 ∧ hasS s k = true := by
  unfold nodesUpTo at h
  obtain ⟨h1, h2⟩ := List.mem_filter.1 h
  obtain ⟨n, h3, h4⟩ := List.mem_map.1 h1
  have := List.mem_range.1 h3
  exact ⟨by omega, by omega, h2⟩
def unhappyS (c : List Member) (s : Int) : Int × Bool := match (nodesUpTo s 10).find? (fun k => !satT s (trustOf c k)) with
  | some k => (k, true)
  | none => (0, false)
theorem f289_ok (c : List Member) (s : Int) (hc : smallC c) : C 289 [encCfg c, I s] (.tup [I (unhappyS c s).1, bval (unhappyS c s).2]) := by
  have hlen := nodesUpTo_len s 10
  have hmem := fun k => nodesUpTo_mem (s := s) (k := k)
  have hun : unhappyS c s = match (nodesUpTo s 10).find? (fun k => !satT s (trustOf c k)) with | some k => (k, true) | none => (0, false) := rfl
  have h235 := f235_ok s
  generalize nodesUpTo s 10 = L at hlen hmem hun h235
  refine fn_ok (G := G) tabOK hm D0 Tryz.func289 rfl (by kernel_rfl) (by kernel_rfl) rfl rfl ?_
  repeat (first | refine And.intro (by rfl) ?_ | refine litA ?_ | refine litB ?_ | refine litC ?_ | refine litD ?_ | refine And.intro trivial ?_ | refine And.intro (keptI (by repeat' (first | refine And.intro ?_ ?_ | exact True.intro | rfl | (simp; done)))) ?_)
  refine ⟨_, _, h235, rfl, rfl, trivial, ?_⟩
  repeat (first | refine And.intro (by rfl) ?_ | refine litA ?_ | refine litB ?_ | refine litC ?_ | refine litD ?_ | refine And.intro trivial ?_ | refine And.intro (keptI (by repeat' (first | refine And.intro ?_ ?_ | exact True.intro | rfl | (simp; done)))) ?_)
  refine loop_ok (G := G) tabOK hm D0 (α := {k : Nat // k ≤ L.length ∧ ∀ z ∈ L.take k, (!satT s (trustOf c z)) = false}) (fun k => ⟨22, [(11, I k.1), (10, I (L.map fun x => [I x]).length), (9, encI L), (2, .loc 3000 0), (1, I s)], [(3000, .box [.sl none 4 (c.map encMb)] false)]⟩) (fun k => L.length - k.1) (by kernel_rfl) ⟨0, Nat.zero_le _, by first | rfl | simp⟩ ?_ ?_
  · repeat' (first | refine fitE_ls rfl rfl ?_ | refine fitC_ls rfl ?_ | refine And.intro ?_ ?_ | exact True.intro | rfl | exact ⟨_, _, rfl, rfl⟩ | exact ⟨_, _, rfl⟩ | decide | (simp [St.get, St.obj, look, lookD, unI, List.map_take]; done))
  rintro ⟨k, hk, hx⟩
  repeat (first | refine And.intro (by rfl) ?_ | refine litA ?_ | refine litB ?_ | refine litC ?_ | refine litD ?_ | refine And.intro trivial ?_ | refine And.intro (keptI (by repeat' (first | refine And.intro ?_ ?_ | exact True.intro | rfl | (simp; done)))) ?_)
  refine And.intro (fun h => ?_) (fun h => ?_)
  rotate_left
  · have hl : L.length ≤ k := by simpa using h
    repeat (first | refine And.intro (by rfl) ?_ | refine litA ?_ | refine litB ?_ | refine litC ?_ | refine litD ?_ | refine And.intro trivial ?_ | refine And.intro (keptI (by repeat' (first | refine And.intro ?_ ?_ | exact True.intro | rfl | (simp; done)))) ?_)
    have ek : L.take k = L := List.take_of_length_le hl
    try rw [ek] at hx
    have hf : L.find? (fun k => !satT s (trustOf c k)) = none := List.find?_eq_none.2 (by intro z hz; rw [hx z hz]; simp)
    rw [hf] at hun
    rw [hun]
    repeat' (first | refine And.intro ?_ ?_ | exact .inl rfl | rfl | exact .inr ⟨rfl, _, rfl⟩)
  have hk' : k < L.length := by simpa using h
  obtain ⟨y, hy⟩ : ∃ y, L[k]? = some y := ⟨_, List.getElem?_eq_getElem hk'⟩
  have e : IntKind.i64.wrap ((k : Int) + 1) = ((k + 1 : Nat) : Int) := by rw [wrap_id] <;> omega
  have et : L.take (k + 1) = L.take k ++ [y] := by rw [List.take_add_one, hy]; rfl
  repeat (first | refine And.intro (by rfl) ?_ | refine litA ?_ | refine litB ?_ | refine litC ?_ | refine litD ?_ | refine And.intro trivial ?_ | refine And.intro (keptI (by repeat' (first | refine And.intro ?_ ?_ | exact True.intro | rfl | (simp; done)))) ?_)
  have hk3 := hmem y (List.mem_of_getElem? hy)
  refine ⟨by simp, [I y], by simp [hy], ?_⟩
  repeat (first | refine And.intro (by rfl) ?_ | refine litA ?_ | refine litB ?_ | refine litC ?_ | refine litD ?_ | refine And.intro trivial ?_ | refine And.intro (keptI (by repeat' (first | refine And.intro ?_ ?_ | exact True.intro | rfl | (simp; done)))) ?_)
  refine ⟨_, _, f313_ok c y s hc hk3.1 hk3.2.1, rfl, rfl, trivial, ?_⟩
  repeat' (first | refine And.intro (by rfl) ?_ | refine litA ?_ | refine litB ?_ | refine litC ?_ | refine litD ?_ | refine And.intro trivial ?_ | refine And.intro (keptI (by repeat' (first | refine And.intro ?_ ?_ | exact True.intro | rfl | (simp; done)))) ?_ | (refine And.intro ?_ ?_ <;> intro h))
  · rw [find_at hx hy h] at hun
    rw [hun]
    repeat' (first | refine And.intro ?_ ?_ | exact .inl rfl | rfl | exact .inr ⟨rfl, _, rfl⟩)
  · refine ⟨⟨k + 1, hk', (by rw [et]; exact all_snoc hx h)⟩, ?_, ?_⟩
    · repeat' (first | refine fitE_ls rfl rfl ?_ | refine fitC_ls rfl ?_ | exact congrArg I e | refine And.intro ?_ ?_ | exact True.intro | rfl | exact ⟨_, _, rfl, rfl⟩ | exact ⟨_, _, rfl⟩ | decide | (simp [St.get, St.obj, look, lookD, unI, List.map_take]; done))
    · dsimp only; omega
set_option maxRecDepth 10000
theorem clr_fin : ∀ n : Fin 1024, ∀ m : Fin 10, n.1.testBit m.1 = true → (BitVec.ofNat 64 n.1 &&& ~~~ BitVec.ofNat 64 (2 ^ m.1)).toNat + 2 ^ m.1 = n.1 := by
  decide +kernel
theorem hasS_spec {s k : Int} (h : hasS s k = true) : 0 ≤ s ∧ s < 1024 ∧ 0 ≤ k ∧ k < 10 ∧ s.toNat.testBit k.toNat = true := by
  simp only [hasS, Bool.and_eq_true, decide_eq_true_eq] at h
  exact ⟨h.1.1, h.1.2.1, h.1.2.2.1, h.1.2.2.2, h.2⟩
def clrS (s k : Int) : Int := s - ((2 ^ k.toNat : Nat) : Int)
theorem clr_pow {s k : Int} (h : hasS s k = true) :
    IntKind.i64.wrap ((BitVec.ofInt 64 s &&& ~~~ BitVec.ofInt 64 (IntKind.i64.wrap (1 * 2 ^ min k.toNat 64))).toNat : Int) = clrS s k ∧ 0 ≤ clrS s k ∧ clrS s k < s := by
  obtain ⟨h1, h2, h3, h4, h5⟩ := hasS_spec h
  obtain ⟨n, rfl⟩ := Int.eq_ofNat_of_zero_le h1
  obtain ⟨m, rfl⟩ := Int.eq_ofNat_of_zero_le h3
  have hm : m < 10 := by omega
  have hn : n < 1024 := by omega
  unfold clrS
  simp only [Int.toNat_natCast, Int.one_mul] at h5 ⊢
  have e1 : min m 64 = m := by omega
  rw [e1]
  have e2 : ((2 : Int) ^ m) = ((2 ^ m : Nat) : Int) := by simp
  have hp : (2 : Nat) ^ m ≤ 512 := Nat.pow_le_pow_right (n := 2) (by omega) (show m ≤ 9 by omega)
  have hp0 : 0 < (2 : Nat) ^ m := Nat.two_pow_pos m
  have hf := clr_fin ⟨n, hn⟩ ⟨m, hm⟩ h5
  rw [e2]
  dsimp only at hf
  generalize (2 : Nat) ^ m = q at hp hp0 hf
  rw [wrap_id (n := (q : Int)) (by omega) (by omega), BitVec.ofInt_natCast, BitVec.ofInt_natCast]
  generalize (BitVec.ofNat 64 n &&& ~~~ BitVec.ofNat 64 q).toNat = r at hf
  rw [wrap_id (by omega) (by omega)]
  omega
def andS (s d : Int) : Int := ((s.toNat &&& d.toNat : Nat) : Int)
theorem and_nat {s d : Int} (h1 : 0 ≤ s) (h2 : s < 1024) (h3 : 0 ≤ d) (h4 : d < 1024) :
    IntKind.i64.wrap ((BitVec.ofInt 64 s &&& BitVec.ofInt 64 d).toNat : Int) = andS s d ∧ 0 ≤ andS s d ∧ andS s d < 1024 := by
  obtain ⟨n, rfl⟩ := Int.eq_ofNat_of_zero_le h1
  obtain ⟨m, rfl⟩ := Int.eq_ofNat_of_zero_le h3
  unfold andS
  have e3 : (BitVec.ofInt 64 (n : Int) &&& BitVec.ofInt 64 (m : Int)).toNat = n &&& m := by
    rw [BitVec.toNat_and, BitVec.ofInt_natCast, BitVec.ofInt_natCast, BitVec.toNat_ofNat, BitVec.toNat_ofNat, Nat.mod_eq_of_lt (by omega), Nat.mod_eq_of_lt (by omega)]
  have hle : n &&& m ≤ n := Nat.and_le_left
  rw [e3]
  simp only [Int.toNat_natCast]
  exact ⟨wrap_id (by omega) (by omega), by omega, by omega⟩
theorem declP_range (c : List Member) : ∀ k s, 0 ≤ s → s < 1024 → 0 ≤ declP c k s ∧ declP c k s < 1024 := by
  induction c with
  | nil => intro k s h1 h2; exact ⟨h1, h2⟩
  | cons m c ih =>
    intro k s h1 h2
    rw [declP]
    split
    · rename_i h
      have := orS_lt h1 h2 (show (0 : Int) ≤ (k : Int) by omega) (by omega)
      exact ih _ _ this.1 this.2
    · exact ih _ _ h1 h2
theorem declS_range (c : List Member) : 0 ≤ declS c ∧ declS c < 1024 := declP_range c 0 0 (by decide) (by decide)
def elimS (c : List Member) : Nat → Int → List Int → Int × List Int
  | 0, s, o => (s, o)
  | f + 1, s, o => if (unhappyS c s).2 = true then elimS c f (clrS s (unhappyS c s).1) (o ++ [(unhappyS c s).1]) else (s, o)
theorem unhappy_has {c : List Member} {s : Int} (h : (unhappyS c s).2 = true) : hasS s (unhappyS c s).1 = true := by
  unfold unhappyS at h ⊢
  split
  · rename_i k hk
    exact (nodesUpTo_mem (List.mem_of_find?_eq_some hk)).2.2
  · rename_i hn
    rw [hn] at h
    cases h
theorem elimS_fuel (c : List Member) : ∀ (f g : Nat) (s : Int) (o : List Int), 0 ≤ s → s.toNat < f → s.toNat < g → elimS c f s o = elimS c g s o := by
  intro f
  induction f with
  | zero => intro g s o _ h; omega
  | succ f ih =>
    intro g s o h0 hf hg
    cases g with
    | zero => omega
    | succ g =>
      simp only [elimS]
      split
      · rename_i h
        have := clr_pow (unhappy_has h)
        exact ih g _ _ this.2.1 (by omega) (by omega)
      · rfl
/-- What is left of a set, and the nodes that had to go. -/
def elim (c : List Member) (s : Int) : Int × List Int := if validS s = true then elimS c 1024 (andS s (declS c)) [] else (0, [])
theorem f273_ok (c : List Member) (s : Int) (hc : smallC c) : C 273 [encCfg c, I s] (.tup [I (elim c s).1, encI (elim c s).2]) := by
  refine fn_ok (G := G) tabOK hm D0 Tryz.func273 rfl (by kernel_rfl) (by kernel_rfl) rfl rfl ?_
  repeat' (first | refine And.intro (by rfl) ?_ | refine litA ?_ | refine litB ?_ | refine litC ?_ | refine litD ?_ | refine And.intro trivial ?_ | refine And.intro (keptI (by repeat' (first | refine And.intro ?_ ?_ | exact True.intro | rfl | (simp; done)))) ?_ | refine ⟨_, _, f269_ok s, rfl, rfl, trivial, ?_⟩ | (refine And.intro ?_ ?_ <;> intro h))
  · have e : elim c s = (0, []) := by rw [elim, if_neg (by simp at h; simp [h])]
    rw [e]
    repeat' (first | refine And.intro ?_ ?_ | exact .inl rfl | rfl | exact .inr ⟨rfl, _, rfl⟩)
  have hvs : validS s = true := by simpa using h
  clear h
  have hd := declS_range c
  have hr : 0 ≤ s ∧ s < 1024 := by simpa [validS] using hvs
  have ha := and_nat hr.1 hr.2 hd.1 hd.2
  refine ⟨_, _, f286_ok c, rfl, rfl, trivial, ?_⟩
  repeat (first | refine And.intro (by rfl) ?_ | refine litA ?_ | refine litB ?_ | refine litC ?_ | refine litD ?_ | refine And.intro trivial ?_ | refine And.intro (keptI (by repeat' (first | refine And.intro ?_ ?_ | exact True.intro | rfl | (simp; done)))) ?_)
  generalize hR : elim c s = R
  refine loop_ok (G := G) tabOK hm D0 (α := {p : Int × List Int // 0 ≤ p.1 ∧ p.1 < 1024 ∧ (p.2.length : Int) + p.1 ≤ 1023 ∧ R = elimS c 1024 p.1 p.2}) (fun p => ⟨34, [(1, I p.1.1), (6, .ls 30000 (p.1.2.map fun x => [I x]).length), (2, .loc 3000 0)], [(3000, .box [.sl none 4 (c.map encMb)] false), (30000, .row 3 1 (p.1.2.map fun x => [I x]) false)]⟩) (fun p => p.1.1.toNat) (by kernel_rfl) ⟨(andS s (declS c), []), ha.2.1, ha.2.2, by simp; omega, by rw [← hR, elim, if_pos hvs]⟩ ?_ ?_
  · repeat' (first | refine fitE_ls rfl rfl ?_ | refine fitC_ls rfl ?_ | exact congrArg I ha.1 | refine And.intro ?_ ?_ | exact True.intro | rfl | exact ⟨_, _, rfl, rfl⟩ | exact ⟨_, _, rfl⟩ | decide | (simp [St.get, St.obj, look, lookD, unI, List.map_take]; done))
  rintro ⟨⟨u, o⟩, h0, h1, h2, hx⟩
  dsimp only at h0 h1 h2 hx
  repeat (first | refine And.intro (by rfl) ?_ | refine litA ?_ | refine litB ?_ | refine litC ?_ | refine litD ?_ | refine And.intro trivial ?_ | refine And.intro (keptI (by repeat' (first | refine And.intro ?_ ?_ | exact True.intro | rfl | (simp; done)))) ?_)
  refine ⟨_, _, f289_ok c u hc, rfl, rfl, trivial, ?_⟩
  repeat' (first | refine And.intro (by rfl) ?_ | refine litA ?_ | refine litB ?_ | refine litC ?_ | refine litD ?_ | refine And.intro trivial ?_ | refine And.intro (keptI (by repeat' (first | refine And.intro ?_ ?_ | exact True.intro | rfl | (simp; done)))) ?_ | (refine And.intro ?_ ?_ <;> intro h))
  · have hf : ¬ (unhappyS c u).2 = true := by simp at h; simp [h]
    rw [elimS, if_neg hf] at hx
    exact ⟨subI (congrArg Prod.fst hx).symm, rfl, .inl (congrArg (fun m : Int × List Int => encI m.2) hx).symm, rfl⟩
  have ht : (unhappyS c u).2 = true := by simpa using h
  have hh := unhappy_has ht
  have hk := hasS_spec hh
  have hcl := clr_pow hh
  rw [elimS, if_pos ht, elimS_fuel c 1023 1024 _ _ hcl.2.1 (by omega) (by omega)] at hx
  refine ⟨(show (o.map fun x => [I x]).length + 1 ≤ 1073741824 by simp; omega), rfl, ?_⟩
  repeat (first | refine And.intro (by rfl) ?_ | refine litA ?_ | refine litB ?_ | refine litC ?_ | refine litD ?_ | refine And.intro trivial ?_ | refine And.intro (keptI (by repeat' (first | refine And.intro ?_ ?_ | exact True.intro | rfl | (simp; done)))) ?_)
  refine ⟨hk.2.2.1, ?_⟩
  repeat (first | refine And.intro (by rfl) ?_ | refine litA ?_ | refine litB ?_ | refine litC ?_ | refine litD ?_ | refine And.intro trivial ?_ | refine And.intro (keptI (by repeat' (first | refine And.intro ?_ ?_ | exact True.intro | rfl | (simp; done)))) ?_)
  have el : (o.map fun x => [I x]).length + 1 = ((o ++ [(unhappyS c u).1]).map fun x => [I x]).length := by simp
  have eo : (o.map fun x => [I x]) ++ [[I (unhappyS c u).1]] = (o ++ [(unhappyS c u).1]).map fun x => [I x] := by simp
  refine ⟨⟨(clrS u (unhappyS c u).1, o ++ [(unhappyS c u).1]), hcl.2.1, by dsimp only; omega, by simp; omega, hx⟩, ?_, ?_⟩
  · repeat' (first | refine fitE_ls rfl rfl ?_ | refine fitC_ls rfl ?_ | refine fitE_ls (congrArg (PV.ls 30000) el) rfl ?_ | exact congrArg I hcl.1 | exact congrArg (fun m => Obj.row 3 1 m false) eo | refine And.intro ?_ ?_ | exact True.intro | rfl | exact ⟨_, _, rfl, rfl⟩ | exact ⟨_, _, rfl⟩ | decide | (simp [St.get, St.obj, look, lookD, unI, List.map_take]; done))
  · dsimp only; omega
theorem f241_ok (c : List Member) (s : Int) (hc : smallC c) : C 241 [encCfg c, I s] (I (elim c s).1) := by
  refine fn_ok (G := G) tabOK hm D0 Tryz.func241 rfl (by kernel_rfl) (by kernel_rfl) rfl rfl ?_
  repeat (first | refine And.intro (by rfl) ?_ | refine litA ?_ | refine litB ?_ | refine litC ?_ | refine litD ?_ | refine And.intro trivial ?_ | refine And.intro (keptI (by repeat' (first | refine And.intro ?_ ?_ | exact True.intro | rfl | (simp; done)))) ?_)
  refine ⟨_, _, f273_ok c s hc, rfl, rfl, trivial, ?_⟩
  repeat (first | refine And.intro (by rfl) ?_ | refine litA ?_ | refine litB ?_ | refine litC ?_ | refine litD ?_ | refine And.intro trivial ?_ | refine And.intro (keptI (by repeat' (first | refine And.intro ?_ ?_ | exact True.intro | rfl | (simp; done)))) ?_)
  repeat' (first | refine And.intro ?_ ?_ | exact .inl rfl | rfl | exact .inr ⟨rfl, _, rfl⟩)
theorem f203_ok (c : List Member) (v s : Int) (hc : smallC c) : C 203 [encCfg c, I v, I s] (bval (hasS (elim c s).1 v)) := by
  refine fn_ok (G := G) tabOK hm D0 Tryz.func203 rfl (by kernel_rfl) (by kernel_rfl) rfl rfl ?_
  repeat (first | refine And.intro (by rfl) ?_ | refine litA ?_ | refine litB ?_ | refine litC ?_ | refine litD ?_ | refine And.intro trivial ?_ | refine And.intro (keptI (by repeat' (first | refine And.intro ?_ ?_ | exact True.intro | rfl | (simp; done)))) ?_)
  refine ⟨_, _, f241_ok c s hc, rfl, rfl, trivial, ?_⟩
  repeat (first | refine And.intro (by rfl) ?_ | refine litA ?_ | refine litB ?_ | refine litC ?_ | refine litD ?_ | refine And.intro trivial ?_ | refine And.intro (keptI (by repeat' (first | refine And.intro ?_ ?_ | exact True.intro | rfl | (simp; done)))) ?_)
  refine ⟨_, _, f240_ok (elim c s).1 v, rfl, rfl, trivial, ?_⟩
  repeat (first | refine And.intro (by rfl) ?_ | refine litA ?_ | refine litB ?_ | refine litC ?_ | refine litD ?_ | refine And.intro trivial ?_ | refine And.intro (keptI (by repeat' (first | refine And.intro ?_ ?_ | exact True.intro | rfl | (simp; done)))) ?_)
  repeat' (first | refine And.intro ?_ ?_ | exact .inl rfl | rfl | exact .inr ⟨rfl, _, rfl⟩)
set_option maxRecDepth 10000
theorem f263_ok (m : Message) : C 263 [.agg (encM m)] (encCs m.accepts) := by
  obtain ⟨nd, sq, ⟨t, n, i⟩, vs, ac⟩ := m
  refine fn_ok (G := G) tabOK hm D0 Tryz.func263 rfl (by kernel_rfl) (by kernel_rfl) rfl rfl ?_
  repeat (first | refine And.intro (by rfl) ?_ | refine litA ?_ | refine litB ?_ | refine litC ?_ | refine litD ?_ | refine And.intro trivial ?_ | refine And.intro (keptI (by repeat' (first | refine And.intro ?_ ?_ | exact True.intro | rfl | (simp; done)))) ?_)
  repeat' (first | refine And.intro ?_ ?_ | exact .inl rfl | rfl | exact .inr ⟨rfl, _, rfl⟩)
theorem f281_ok (m : Message) : C 281 [.agg (encM m)] (encCs m.votes) := by
  obtain ⟨nd, sq, ⟨t, n, i⟩, vs, ac⟩ := m
  refine fn_ok (G := G) tabOK hm D0 Tryz.func281 rfl (by kernel_rfl) (by kernel_rfl) rfl rfl ?_
  repeat (first | refine And.intro (by rfl) ?_ | refine litA ?_ | refine litB ?_ | refine litC ?_ | refine litD ?_ | refine And.intro trivial ?_ | refine And.intro (keptI (by repeat' (first | refine And.intro ?_ ?_ | exact True.intro | rfl | (simp; done)))) ?_)
  repeat' (first | refine And.intro ?_ ?_ | exact .inl rfl | rfl | exact .inr ⟨rfl, _, rfl⟩)
def sayP (p : Message → List Claim) (x : Claim) : List Message → Int → Int
  | [], s => s
  | m :: l, s => sayP p x l (if plainM m = true ∧ x ∈ p m then orS s m.node else s)
theorem plainM_node {m : Message} (h : plainM m = true) : 0 ≤ m.node ∧ m.node < 10 := by
  simp only [plainM, nodeS, Bool.and_eq_true, decide_eq_true_eq] at h
  exact h.1.1.1.1
theorem f262_ok (l : List Message) (x : Claim) (g : Nat) (p : Message → List Claim) (hg : ∀ m, C g [.agg (encM m)] (encCs (p m))) : C 262 [encML l, .agg (encC x), .fn g []] (I (sayP p x l 0)) := by
  refine fn_real (G := G) tabOK hm pl262 Tryz.func262 rfl (by kernel_rfl) (by kernel_rfl) rfl rfl fun hr => ?_
  have hlen : (l.length : Int) ≤ 9223372036854775807 := by simpa using RealA.len hr (sz := 7) (es := l.map encM) (by simp)
  clear hr
  generalize hR : sayP p x l 0 = R
  repeat (first | refine And.intro (by rfl) ?_ | refine litA ?_ | refine litB ?_ | refine litC ?_ | refine litD ?_ | refine And.intro trivial ?_ | refine And.intro (keptI (by repeat' (first | refine And.intro ?_ ?_ | exact True.intro | rfl | (simp; done)))) ?_)
  refine loop_ok (G := G) tabOK hm pl262 (α := {q : Nat × Int // q.1 ≤ l.length ∧ 0 ≤ q.2 ∧ q.2 < 1024 ∧ R = sayP p x (l.drop q.1) q.2}) (fun q => ⟨32, [(7, I q.1.2), (12, I q.1.1), (11, I (l.map encM).length), (10, encML l), (2, .fn g []), (4, .loc 5000 0)], [(5000, .box (encC x) false)]⟩) (fun q => l.length - q.1.1) (by kernel_rfl) ⟨(0, 0), by simp [← hR]⟩ ?_ ?_
  · repeat' (first | refine fitE_ls rfl rfl ?_ | refine fitC_ls rfl ?_ | refine And.intro ?_ ?_ | exact True.intro | rfl | exact ⟨_, _, rfl, rfl⟩ | exact ⟨_, _, rfl⟩ | decide | (simp [St.get, St.obj, look, lookD, unI, List.map_take]; done))
  rintro ⟨⟨k, s⟩, hk, h1, h2, hx⟩
  dsimp only at hk h1 h2 hx
  repeat (first | refine And.intro (by rfl) ?_ | refine litA ?_ | refine litB ?_ | refine litC ?_ | refine litD ?_ | refine And.intro trivial ?_ | refine And.intro (keptI (by repeat' (first | refine And.intro ?_ ?_ | exact True.intro | rfl | (simp; done)))) ?_)
  refine And.intro (fun h => ?_) (fun h => ?_)
  rotate_left
  · have hl : l.length ≤ k := by simpa using h
    rw [List.drop_of_length_le hl, sayP] at hx
    repeat (first | refine And.intro (by rfl) ?_ | refine litA ?_ | refine litB ?_ | refine litC ?_ | refine litD ?_ | refine And.intro trivial ?_ | refine And.intro (keptI (by repeat' (first | refine And.intro ?_ ?_ | exact True.intro | rfl | (simp; done)))) ?_)
    exact ⟨subI hx.symm, rfl⟩
  have hk' : k < l.length := by simpa using h
  obtain ⟨y, hy⟩ : ∃ y, l[k]? = some y := ⟨_, List.getElem?_eq_getElem hk'⟩
  have e : IntKind.i64.wrap ((k : Int) + 1) = ((k + 1 : Nat) : Int) := by rw [wrap_id] <;> omega
  rw [drop_at hy, sayP] at hx
  obtain ⟨mn, ms, ⟨mt, mnn, mi⟩, mv, ma⟩ := y
  repeat (first | refine And.intro (by rfl) ?_ | refine litA ?_ | refine litB ?_ | refine litC ?_ | refine litD ?_ | refine And.intro trivial ?_ | refine And.intro (keptI (by repeat' (first | refine And.intro ?_ ?_ | exact True.intro | rfl | (simp; done)))) ?_)
  refine ⟨by simp, encM ⟨mn, ms, .mk mt mnn mi, mv, ma⟩, by simp only [Int.toNat_natCast, List.getElem?_map, hy]; rfl, ?_⟩
  repeat' (first | refine And.intro (by rfl) ?_ | refine litA ?_ | refine litB ?_ | refine litC ?_ | refine litD ?_ | refine And.intro trivial ?_ | refine And.intro (keptI (by repeat' (first | refine And.intro ?_ ?_ | exact True.intro | rfl | (simp; done)))) ?_ | refine ⟨_, _, f102_ok ⟨mn, ms, .mk mt mnn mi, mv, ma⟩, rfl, rfl, trivial, ?_⟩ | refine ⟨_, _, hg ⟨mn, ms, .mk mt mnn mi, mv, ma⟩, rfl, rfl, trivial, ?_⟩ | refine ⟨_, _, f98_ok (p ⟨mn, ms, .mk mt mnn mi, mv, ma⟩) x, rfl, rfl, trivial, ?_⟩ | (refine And.intro ?_ ?_ <;> intro h))
  · rename_i hp
    have h : x ∈ p ⟨mn, ms, .mk mt mnn mi, mv, ma⟩ := by simpa using h
    rw [if_pos ⟨hp, h⟩] at hx
    have hn := plainM_node hp
    have hb := orS_lt h1 h2 hn.1 hn.2
    have eor := or_pow h1 h2 hn.1 hn.2
    refine ⟨hn.1, ?_⟩
    repeat (first | refine And.intro (by rfl) ?_ | refine litA ?_ | refine litB ?_ | refine litC ?_ | refine litD ?_ | refine And.intro trivial ?_ | refine And.intro (keptI (by repeat' (first | refine And.intro ?_ ?_ | exact True.intro | rfl | (simp; done)))) ?_)
    refine ⟨⟨(k + 1, orS s mn), hk', hb.1, hb.2, hx⟩, ?_, ?_⟩
    · repeat' (first | refine fitE_ls rfl rfl ?_ | refine fitC_ls rfl ?_ | exact congrArg I e | exact congrArg I eor | refine And.intro ?_ ?_ | exact True.intro | rfl | exact ⟨_, _, rfl, rfl⟩ | exact ⟨_, _, rfl⟩ | decide | (simp [St.get, St.obj, look, lookD, unI, List.map_take]; done))
    · dsimp only; omega
  · rename_i hp
    have h : ¬ x ∈ p ⟨mn, ms, .mk mt mnn mi, mv, ma⟩ := by simpa using h
    rw [if_neg (fun q => h q.2)] at hx
    refine ⟨⟨(k + 1, s), hk', h1, h2, hx⟩, ?_, ?_⟩
    · repeat' (first | refine fitE_ls rfl rfl ?_ | refine fitC_ls rfl ?_ | exact congrArg I e | refine And.intro ?_ ?_ | exact True.intro | rfl | exact ⟨_, _, rfl, rfl⟩ | exact ⟨_, _, rfl⟩ | decide | (simp [St.get, St.obj, look, lookD, unI, List.map_take]; done))
    · dsimp only; omega
  · have h : plainM ⟨mn, ms, .mk mt mnn mi, mv, ma⟩ = false := by simpa using h
    rw [if_neg (fun q => by rw [h] at q; cases q.1)] at hx
    refine ⟨⟨(k + 1, s), hk', h1, h2, hx⟩, ?_, ?_⟩
    · repeat' (first | refine fitE_ls rfl rfl ?_ | refine fitC_ls rfl ?_ | exact congrArg I e | refine And.intro ?_ ?_ | exact True.intro | rfl | exact ⟨_, _, rfl, rfl⟩ | exact ⟨_, _, rfl⟩ | decide | (simp [St.get, St.obj, look, lookD, unI, List.map_take]; done))
    · dsimp only; omega
theorem f231_ok (l : List Message) (x : Claim) : C 231 [encML l, .agg (encC x)] (I (sayP Message.accepts x l 0)) := by
  refine fn_ok (G := G) tabOK hm D0 Tryz.func231 rfl (by kernel_rfl) (by kernel_rfl) rfl rfl ?_
  repeat (first | refine And.intro (by rfl) ?_ | refine litA ?_ | refine litB ?_ | refine litC ?_ | refine litD ?_ | refine And.intro trivial ?_ | refine And.intro (keptI (by repeat' (first | refine And.intro ?_ ?_ | exact True.intro | rfl | (simp; done)))) ?_)
  refine ⟨_, _, f262_ok l x 263 _ f263_ok, rfl, rfl, trivial, ?_⟩
  repeat (first | refine And.intro (by rfl) ?_ | refine litA ?_ | refine litB ?_ | refine litC ?_ | refine litD ?_ | refine And.intro trivial ?_ | refine And.intro (keptI (by repeat' (first | refine And.intro ?_ ?_ | exact True.intro | rfl | (simp; done)))) ?_)
  repeat' (first | refine And.intro ?_ ?_ | exact .inl rfl | rfl | exact .inr ⟨rfl, _, rfl⟩)
theorem f261_ok (l : List Message) (x : Claim) : C 261 [encML l, .agg (encC x)] (I (sayP Message.votes x l 0)) := by
  refine fn_ok (G := G) tabOK hm D0 Tryz.func261 rfl (by kernel_rfl) (by kernel_rfl) rfl rfl ?_
  repeat (first | refine And.intro (by rfl) ?_ | refine litA ?_ | refine litB ?_ | refine litC ?_ | refine litD ?_ | refine And.intro trivial ?_ | refine And.intro (keptI (by repeat' (first | refine And.intro ?_ ?_ | exact True.intro | rfl | (simp; done)))) ?_)
  refine ⟨_, _, f262_ok l x 281 _ f281_ok, rfl, rfl, trivial, ?_⟩
  repeat (first | refine And.intro (by rfl) ?_ | refine litA ?_ | refine litB ?_ | refine litC ?_ | refine litD ?_ | refine And.intro trivial ?_ | refine And.intro (keptI (by repeat' (first | refine And.intro ?_ ?_ | exact True.intro | rfl | (simp; done)))) ?_)
  repeat' (first | refine And.intro ?_ ?_ | exact .inl rfl | rfl | exact .inr ⟨rfl, _, rfl⟩)
set_option maxRecDepth 10000
theorem not_fin : ∀ n : Fin 1024, (BitVec.ofNat 64 1023 &&& ~~~ BitVec.ofNat 64 n.1).toNat + n.1 = 1023 := by
  decide +kernel
theorem not_nat {s : Int} (h1 : 0 ≤ s) (h2 : s < 1024) : IntKind.i64.wrap ((BitVec.ofInt 64 1023 &&& ~~~ BitVec.ofInt 64 s).toNat : Int) = 1023 - s := by
  obtain ⟨n, rfl⟩ := Int.eq_ofNat_of_zero_le h1
  have hn : n < 1024 := by omega
  have hf := not_fin ⟨n, hn⟩
  dsimp only at hf
  rw [show (1023 : Int) = ((1023 : Nat) : Int) from rfl, BitVec.ofInt_natCast, BitVec.ofInt_natCast]
  generalize (BitVec.ofNat 64 1023 &&& ~~~ BitVec.ofNat 64 n).toNat = r at hf
  rw [wrap_id (by omega) (by omega)]
  omega
def orN (s d : Int) : Int := ((s.toNat ||| d.toNat : Nat) : Int)
theorem or_nat {s d : Int} (h1 : 0 ≤ s) (h2 : s < 1024) (h3 : 0 ≤ d) (h4 : d < 1024) :
    IntKind.i64.wrap ((BitVec.ofInt 64 s ||| BitVec.ofInt 64 d).toNat : Int) = orN s d ∧ 0 ≤ orN s d ∧ orN s d < 1024 := by
  obtain ⟨n, rfl⟩ := Int.eq_ofNat_of_zero_le h1
  obtain ⟨m, rfl⟩ := Int.eq_ofNat_of_zero_le h3
  unfold orN
  have e3 : (BitVec.ofInt 64 (n : Int) ||| BitVec.ofInt 64 (m : Int)).toNat = n ||| m := by
    rw [BitVec.toNat_or, BitVec.ofInt_natCast, BitVec.ofInt_natCast, BitVec.toNat_ofNat, BitVec.toNat_ofNat, Nat.mod_eq_of_lt (by omega), Nat.mod_eq_of_lt (by omega)]
  have hle := Nat.or_lt_two_pow (x := n) (y := m) (n := 10) (by omega) (by omega)
  rw [e3]
  simp only [Int.toNat_natCast]
  exact ⟨wrap_id (by omega) (by omega), by omega, by omega⟩
def blocksS (c : List Member) (v s : Int) : Bool := validS s && hasS (declS c) v && !satT (orS (1023 - s) v) (trustOf c v)
theorem f270_ok (c : List Member) (v s : Int) (hc : smallC c) : C 270 [encCfg c, I v, I s] (bval (blocksS c v s)) := by
  refine fn_ok (G := G) tabOK hm pl270 Tryz.func270 rfl (by kernel_rfl) (by kernel_rfl) rfl rfl ?_
  repeat' (first | refine And.intro (by rfl) ?_ | refine litA ?_ | refine litB ?_ | refine litC ?_ | refine litD ?_ | refine And.intro trivial ?_ | refine And.intro (keptI (by repeat' (first | refine And.intro ?_ ?_ | exact True.intro | rfl | (simp; done)))) ?_ | refine ⟨_, _, f269_ok s, rfl, rfl, trivial, ?_⟩ | refine ⟨_, _, f286_ok c, rfl, rfl, trivial, ?_⟩ | refine ⟨_, _, f240_ok (declS c) v, rfl, rfl, trivial, ?_⟩ | (refine And.intro ?_ ?_ <;> intro h))
  · exact ⟨subB (by simp at h; simp [blocksS, h]), rfl⟩
  rotate_left
  · exact ⟨subB (by simp at h; simp [blocksS, h]), rfl⟩
  rename_i hv
  have hv : validS s = true := by simpa using hv
  have h : hasS (declS c) v = true := by simpa using h
  have hr : 0 ≤ s ∧ s < 1024 := by simpa [validS] using hv
  have hk := hasS_spec h
  have hkl : v.toNat < c.length := by have := hc.1; omega
  obtain ⟨m, hm'⟩ : ∃ m, c[v.toNat]? = some m := ⟨_, List.getElem?_eq_getElem hkl⟩
  have hsm := smallC_trust hc v
  have hb : blocksS c v s = !satT (orS (1023 - s) v) (trustOf c v) := by rw [blocksS, hv, h]; rfl
  rw [hb]
  have hor : IntKind.i64.wrap ((BitVec.ofInt 64 (IntKind.i64.wrap ((BitVec.ofInt 64 1023 &&& ~~~ BitVec.ofInt 64 s).toNat : Int)) ||| BitVec.ofInt 64 (IntKind.i64.wrap (1 * 2 ^ min v.toNat 64))).toNat : Int) = orS (1023 - s) v := by
    rw [not_nat hr.1 hr.2]
    exact or_pow (by omega) (by omega) hk.2.2.1 hk.2.2.2.1
  cases m with
  | none =>
    have ht : trustOf c v = .mk 0 [] [] := by simp [trustOf, hm']
    rw [ht]
    have hcall : C 287 [.agg [I 0, .nils, .nils], I (IntKind.i64.wrap ((BitVec.ofInt 64 (IntKind.i64.wrap ((BitVec.ofInt 64 1023 &&& ~~~ BitVec.ofInt 64 s).toNat : Int)) ||| BitVec.ofInt 64 (IntKind.i64.wrap (1 * 2 ^ min v.toNat 64))).toNat : Int))] (bval (satT (orS (1023 - s) v) (.mk 0 [] []))) := by
      rw [hor]
      exact satN _
    repeat (first | refine And.intro (by rfl) ?_ | refine litA ?_ | refine litB ?_ | refine litC ?_ | refine litD ?_ | refine And.intro trivial ?_ | refine And.intro (keptI (by repeat' (first | refine And.intro ?_ ?_ | exact True.intro | rfl | (simp; done)))) ?_)
    refine ⟨hk.2.2.1, encMb none, by rw [List.getElem?_map, hm']; rfl, ?_⟩
    repeat (first | refine And.intro (by rfl) ?_ | refine litA ?_ | refine litB ?_ | refine litC ?_ | refine litD ?_ | refine And.intro trivial ?_ | refine And.intro (keptI (by repeat' (first | refine And.intro ?_ ?_ | exact True.intro | rfl | (simp; done)))) ?_)
    refine ⟨hk.2.2.1, ?_⟩
    repeat (first | refine And.intro (by rfl) ?_ | refine litA ?_ | refine litB ?_ | refine litC ?_ | refine litD ?_ | refine And.intro trivial ?_ | refine And.intro (keptI (by repeat' (first | refine And.intro ?_ ?_ | exact True.intro | rfl | (simp; done)))) ?_)
    refine ⟨_, _, hcall, rfl, rfl, trivial, ?_⟩
    repeat (first | refine And.intro (by rfl) ?_ | refine litA ?_ | refine litB ?_ | refine litC ?_ | refine litD ?_ | refine And.intro trivial ?_ | refine And.intro (keptI (by repeat' (first | refine And.intro ?_ ?_ | exact True.intro | rfl | (simp; done)))) ?_)
    repeat' (first | refine And.intro ?_ ?_ | exact .inl rfl | rfl | exact .inr ⟨rfl, _, rfl⟩)
  | some t =>
    have ht : trustOf c v = t := by simp [trustOf, hm']
    rw [ht] at hsm ⊢
    obtain ⟨ty, ny, iy⟩ := t
    have hcall : C 287 [.agg (encT (.mk ty ny iy)), I (IntKind.i64.wrap ((BitVec.ofInt 64 (IntKind.i64.wrap ((BitVec.ofInt 64 1023 &&& ~~~ BitVec.ofInt 64 s).toNat : Int)) ||| BitVec.ofInt 64 (IntKind.i64.wrap (1 * 2 ^ min v.toNat 64))).toNat : Int))] (bval (satT (orS (1023 - s) v) (.mk ty ny iy))) := by
      rw [hor]
      exact f287_ok _ _ hsm
    repeat (first | refine And.intro (by rfl) ?_ | refine litA ?_ | refine litB ?_ | refine litC ?_ | refine litD ?_ | refine And.intro trivial ?_ | refine And.intro (keptI (by repeat' (first | refine And.intro ?_ ?_ | exact True.intro | rfl | (simp; done)))) ?_)
    refine ⟨hk.2.2.1, encMb (some (.mk ty ny iy)), by rw [List.getElem?_map, hm']; rfl, ?_⟩
    repeat (first | refine And.intro (by rfl) ?_ | refine litA ?_ | refine litB ?_ | refine litC ?_ | refine litD ?_ | refine And.intro trivial ?_ | refine And.intro (keptI (by repeat' (first | refine And.intro ?_ ?_ | exact True.intro | rfl | (simp; done)))) ?_)
    refine ⟨hk.2.2.1, ?_⟩
    repeat (first | refine And.intro (by rfl) ?_ | refine litA ?_ | refine litB ?_ | refine litC ?_ | refine litD ?_ | refine And.intro trivial ?_ | refine And.intro (keptI (by repeat' (first | refine And.intro ?_ ?_ | exact True.intro | rfl | (simp; done)))) ?_)
    refine ⟨_, _, hcall, rfl, rfl, trivial, ?_⟩
    repeat (first | refine And.intro (by rfl) ?_ | refine litA ?_ | refine litB ?_ | refine litC ?_ | refine litD ?_ | refine And.intro trivial ?_ | refine And.intro (keptI (by repeat' (first | refine And.intro ?_ ?_ | exact True.intro | rfl | (simp; done)))) ?_)
    repeat' (first | refine And.intro ?_ ?_ | exact .inl rfl | rfl | exact .inr ⟨rfl, _, rfl⟩)
def acceptsS (c : List Member) (v a b : Int) : Bool := validS a && validS b && (blocksS c v b || hasS (elim c (orN a b)).1 v)
theorem f237_ok (c : List Member) (v a b : Int) (hc : smallC c) : C 237 [encCfg c, I v, I a, I b] (bval (acceptsS c v a b)) := by
  refine fn_ok (G := G) tabOK hm D0 Tryz.func237 rfl (by kernel_rfl) (by kernel_rfl) rfl rfl ?_
  repeat' (first | refine And.intro (by rfl) ?_ | refine litA ?_ | refine litB ?_ | refine litC ?_ | refine litD ?_ | refine And.intro trivial ?_ | refine And.intro (keptI (by repeat' (first | refine And.intro ?_ ?_ | exact True.intro | rfl | (simp; done)))) ?_ | refine ⟨_, _, f269_ok a, rfl, rfl, trivial, ?_⟩ | refine ⟨_, _, f269_ok b, rfl, rfl, trivial, ?_⟩ | (refine And.intro ?_ ?_ <;> intro h))
  · exact ⟨subB (by simp at h; simp [acceptsS, h]), rfl⟩
  rotate_left
  · exact ⟨subB (by simp at h; simp [acceptsS, h]), rfl⟩
  rename_i ha
  have ha : validS a = true := by simpa using ha
  have h : validS b = true := by simpa using h
  have hra : 0 ≤ a ∧ a < 1024 := by simpa [validS] using ha
  have hrb : 0 ≤ b ∧ b < 1024 := by simpa [validS] using h
  have ho := or_nat hra.1 hra.2 hrb.1 hrb.2
  have hcall : C 241 [encCfg c, I (IntKind.i64.wrap ((BitVec.ofInt 64 a ||| BitVec.ofInt 64 b).toNat : Int))] (I (elim c (orN a b)).1) := by
    rw [ho.1]
    exact f241_ok c _ hc
  have hb : acceptsS c v a b = (blocksS c v b || hasS (elim c (orN a b)).1 v) := by rw [acceptsS, ha, h]; rfl
  rw [hb]
  refine ⟨_, _, f270_ok c v b hc, rfl, rfl, trivial, ?_⟩
  repeat' (first | refine And.intro (by rfl) ?_ | refine litA ?_ | refine litB ?_ | refine litC ?_ | refine litD ?_ | refine And.intro trivial ?_ | refine And.intro (keptI (by repeat' (first | refine And.intro ?_ ?_ | exact True.intro | rfl | (simp; done)))) ?_ | refine ⟨_, _, hcall, rfl, rfl, trivial, ?_⟩ | refine ⟨_, _, f240_ok (elim c (orN a b)).1 v, rfl, rfl, trivial, ?_⟩ | (refine And.intro ?_ ?_ <;> intro h))
  all_goals exact ⟨subB (by simp at *; simp_all), rfl⟩
set_option maxRecDepth 10000
theorem f259_ok (x : Trust) (hs : smallT 1000000 x) : C 259 [.agg (encT x)] (.agg (encT x)) := by
  induction x using Trust.ind with
  | h t n i ih =>
  obtain ⟨hn, hi, hsi⟩ := hs
  have hl : (encTs i).length = i.length := encTs_len i
  refine fn_ok (G := G) tabOK hm pl259 Tryz.func259 rfl (by kernel_rfl) (by kernel_rfl) rfl rfl ?_
  repeat (first | refine And.intro (by rfl) ?_ | refine litA ?_ | refine litB ?_ | refine litC ?_ | refine litD ?_ | refine And.intro trivial ?_ | refine And.intro (keptI (by repeat' (first | refine And.intro ?_ ?_ | exact True.intro | rfl | (simp; done)))) ?_)
  apply Exists.intro
  refine And.intro ?_ (And.intro ?_ ?_)
  · repeat (first | refine And.intro (by rfl) ?_ | refine litA ?_ | refine litB ?_ | refine litC ?_ | refine litD ?_ | refine And.intro trivial ?_ | refine And.intro (keptI (by repeat' (first | refine And.intro ?_ ?_ | exact True.intro | rfl | (simp; done)))) ?_)
    refine ⟨by simp; omega, ?_⟩
    repeat (first | refine And.intro (by rfl) ?_ | refine litA ?_ | refine litB ?_ | refine litC ?_ | refine litD ?_ | refine And.intro trivial ?_ | refine And.intro (keptI (by repeat' (first | refine And.intro ?_ ?_ | exact True.intro | rfl | (simp; done)))) ?_)
    repeat' (first | refine fitE_ls rfl rfl ?_ | refine fitC_ls rfl ?_ | refine And.intro ?_ ?_ | exact True.intro | rfl | exact ⟨_, _, rfl, rfl⟩ | exact ⟨_, _, rfl⟩ | decide | (simp [St.get, St.obj, look, lookD, unI, List.map_take]; done))
  · repeat (first | refine And.intro (by rfl) ?_ | refine litA ?_ | refine litB ?_ | refine litC ?_ | refine litD ?_ | refine And.intro trivial ?_ | refine And.intro (keptI (by repeat' (first | refine And.intro ?_ ?_ | exact True.intro | rfl | (simp; done)))) ?_)
    refine ⟨by simp; omega, ?_⟩
    repeat (first | refine And.intro (by rfl) ?_ | refine litA ?_ | refine litB ?_ | refine litC ?_ | refine litD ?_ | refine And.intro trivial ?_ | refine And.intro (keptI (by repeat' (first | refine And.intro ?_ ?_ | exact True.intro | rfl | (simp; done)))) ?_)
    repeat' (first | refine fitE_ls rfl rfl ?_ | refine fitC_ls rfl ?_ | refine And.intro ?_ ?_ | exact True.intro | rfl | exact ⟨_, _, rfl, rfl⟩ | exact ⟨_, _, rfl⟩ | decide | (simp [St.get, St.obj, look, lookD, unI, List.map_take]; done))
  · repeat (first | refine And.intro (by rfl) ?_ | refine litA ?_ | refine litB ?_ | refine litC ?_ | refine litD ?_ | refine And.intro trivial ?_ | refine And.intro (keptI (by repeat' (first | refine And.intro ?_ ?_ | exact True.intro | rfl | (simp; done)))) ?_)
    refine loop_ok (G := G) tabOK hm pl259 (α := {k : Nat // k ≤ i.length ∧ True}) (fun k => ⟨28, [(15, I k.1), (14, I (encTs i).length), (13, encTL i), (3, .loc 4000 0), (2, .loc 3000 0)], [(4000, .box [I t, .ls 11000 (n.map fun x => [I x]).length, .ls 25000 k.1] false), (3000, .box [I 0, .nils, .nils] false), (11000, .row 3 1 (n.map fun x => [I x]) false), (25000, .row 27 3 (encTs (i.take k.1)) false)]⟩) (fun k => i.length - k.1) (by kernel_rfl) ⟨0, Nat.zero_le _, by first | rfl | simp⟩ ?_ ?_
    · repeat' (first | refine fitE_ls rfl rfl ?_ | refine fitC_ls rfl ?_ | refine And.intro ?_ ?_ | exact True.intro | rfl | exact ⟨_, _, rfl, rfl⟩ | exact ⟨_, _, rfl⟩ | decide | (simp [St.get, St.obj, look, lookD, unI, List.map_take]; done))
    rintro ⟨k, hk, hx⟩
    repeat (first | refine And.intro (by rfl) ?_ | refine litA ?_ | refine litB ?_ | refine litC ?_ | refine litD ?_ | refine And.intro trivial ?_ | refine And.intro (keptI (by repeat' (first | refine And.intro ?_ ?_ | exact True.intro | rfl | (simp; done)))) ?_)
    refine And.intro (fun h => ?_) (fun h => ?_)
    rotate_left
    · have hl : i.length ≤ k := by simpa using h
      repeat (first | refine And.intro (by rfl) ?_ | refine litA ?_ | refine litB ?_ | refine litC ?_ | refine litD ?_ | refine And.intro trivial ?_ | refine And.intro (keptI (by repeat' (first | refine And.intro ?_ ?_ | exact True.intro | rfl | (simp; done)))) ?_)
      have ek : i.take k = i := List.take_of_length_le hl
      try rw [ek] at hx
      exact ⟨.inl rfl, rfl, .inl rfl, by dsimp only; rw [ek, encTs_len]; omega, .inl (by rw [ek]), rfl⟩
    have hk' : k < i.length := by simpa using h
    obtain ⟨y, hy⟩ : ∃ y, i[k]? = some y := ⟨_, List.getElem?_eq_getElem hk'⟩
    have e : IntKind.i64.wrap ((k : Int) + 1) = ((k + 1 : Nat) : Int) := by rw [wrap_id] <;> omega
    have et : i.take (k + 1) = i.take k ++ [y] := by rw [List.take_add_one, hy]; rfl
    repeat (first | refine And.intro (by rfl) ?_ | refine litA ?_ | refine litB ?_ | refine litC ?_ | refine litD ?_ | refine And.intro trivial ?_ | refine And.intro (keptI (by repeat' (first | refine And.intro ?_ ?_ | exact True.intro | rfl | (simp; done)))) ?_)
    obtain ⟨ty, ny, iy⟩ := y
    refine ⟨by simp, encT (.mk ty ny iy), by simpa using encTs_get hy, ?_⟩
    repeat (first | refine And.intro (by rfl) ?_ | refine litA ?_ | refine litB ?_ | refine litC ?_ | refine litD ?_ | refine And.intro trivial ?_ | refine And.intro (keptI (by repeat' (first | refine And.intro ?_ ?_ | exact True.intro | rfl | (simp; done)))) ?_)
    refine ⟨_, _, ih _ (List.mem_of_getElem? hy) (smallTs_mem hsi _ (List.mem_of_getElem? hy)), rfl, rfl, trivial, ?_⟩
    repeat (first | refine And.intro (by rfl) ?_ | refine litA ?_ | refine litB ?_ | refine litC ?_ | refine litD ?_ | refine And.intro trivial ?_ | refine And.intro (keptI (by repeat' (first | refine And.intro ?_ ?_ | exact True.intro | rfl | (simp; done)))) ?_)
    refine ⟨by simp; omega, (show k + 1 ≤ 1073741824 by omega), rfl, ?_⟩
    repeat (first | refine And.intro (by rfl) ?_ | refine litA ?_ | refine litB ?_ | refine litC ?_ | refine litD ?_ | refine And.intro trivial ?_ | refine And.intro (keptI (by repeat' (first | refine And.intro ?_ ?_ | exact True.intro | rfl | (simp; done)))) ?_)
    have eo : encTs (i.take k) ++ [encT (.mk ty ny iy)] = encTs (i.take (k + 1)) := by rw [et, encTs_append]; rfl
    refine ⟨⟨k + 1, hk', trivial⟩, ?_, ?_⟩
    · repeat' (first | refine fitE_ls rfl rfl ?_ | refine fitC_ls rfl ?_ | exact congrArg I e | exact congrArg (fun m => Obj.row 27 3 m false) eo | refine And.intro ?_ ?_ | exact True.intro | rfl | exact ⟨_, _, rfl, rfl⟩ | exact ⟨_, _, rfl⟩ | decide | (simp [St.get, St.obj, look, lookD, unI, List.map_take]; done))
    · dsimp only; omega
set_option maxRecDepth 10000
theorem encMb_len (m : Member) : (encMb m).length = 4 := by
  cases m with
  | none => rfl
  | some t => cases t; rfl
def viewP (v : Int) : List Message → List Member → List Member
  | [], c => c
  | m :: l, c => viewP v l (if m.node ≠ v ∧ plainM m = true then c.set m.node.toNat (some m.trust) else c)
def viewS (v : Int) (t : Trust) (l : List Message) : List Member :=
  if nodeS v = true ∧ validT t = 0 then (viewP v l (List.replicate 10 none)).set v.toNat (some t) else viewP v l (List.replicate 10 none)
theorem set_row (c : List Member) (i : Nat) (t : Trust) (m : Member) : (c.map encMb).set i (splice (encMb m) 0 (encMb (some t))) = (c.set i (some t)).map encMb := by
  have h : splice (encMb m) 0 (encMb (some t)) = encMb (some t) := by
    unfold splice
    rw [List.take_zero, List.nil_append, encMb_len, List.drop_of_length_le (by rw [encMb_len]; omega), List.append_nil]
  rw [h, List.map_set]
theorem f229_ok (v : Int) (t : Trust) (l : List Message) (ht : smallT 1000000 t) (hl : ∀ m ∈ l, smallT 1000000 m.trust) : C 229 [I v, .agg (encT t), encML l] (encCfg (viewS v t l)) := by
  obtain ⟨tt, tn, ti⟩ := t
  refine fn_real (G := G) tabOK hm pl229 Tryz.func229 rfl (by kernel_rfl) (by kernel_rfl) rfl rfl fun hr => ?_
  have hlen : (l.length : Int) ≤ 9223372036854775807 := by simpa using RealA.len hr (sz := 7) (es := l.map encM) (by simp)
  clear hr
  generalize hR : viewP v l (List.replicate 10 none) = R
  repeat (first | refine And.intro (by rfl) ?_ | refine litA ?_ | refine litB ?_ | refine litC ?_ | refine litD ?_ | refine And.intro trivial ?_ | refine And.intro (keptI (by repeat' (first | refine And.intro ?_ ?_ | exact True.intro | rfl | (simp; done)))) ?_)
  refine ⟨by decide, rfl, by decide, ?_⟩
  repeat (first | refine And.intro (by rfl) ?_ | refine litA ?_ | refine litB ?_ | refine litC ?_ | refine litD ?_ | refine And.intro trivial ?_ | refine And.intro (keptI (by repeat' (first | refine And.intro ?_ ?_ | exact True.intro | rfl | (simp; done)))) ?_)
  refine loop_ok (G := G) tabOK hm pl229 (α := {q : Nat × List Member // q.1 ≤ l.length ∧ q.2.length = 10 ∧ R = viewP v (l.drop q.1) q.2}) (fun q => ⟨51, [(14, I q.1.1), (13, I (l.map encM).length), (12, encML l), (0, I v), (7, .loc 8000 0), (4, .loc 5000 0), (6, .loc 7000 0)], [(8000, .box [.ls 11000 10] false), (7000, .box [.nils] false), (5000, .box (encT (.mk tt tn ti)) false), (11000, .row 89 4 (q.1.2.map encMb) false)]⟩) (fun q => l.length - q.1.1) (by kernel_rfl) ⟨(0, List.replicate 10 none), by simp [← hR]⟩ ?_ ?_
  · repeat' (first | refine fitE_ls rfl rfl ?_ | refine fitC_ls rfl ?_ | refine And.intro ?_ ?_ | exact True.intro | rfl | exact ⟨_, _, rfl, rfl⟩ | exact ⟨_, _, rfl⟩ | decide | (simp [St.get, St.obj, look, lookD, unI, List.map_take]; done))
  rintro ⟨⟨k, c⟩, hk, hc, hx⟩
  dsimp only at hk hc hx
  have hc10 : (10 : Nat) = (c.map encMb).length := by simp [hc]
  repeat (first | refine And.intro (by rfl) ?_ | refine litA ?_ | refine litB ?_ | refine litC ?_ | refine litD ?_ | refine And.intro trivial ?_ | refine And.intro (keptI (by repeat' (first | refine And.intro ?_ ?_ | exact True.intro | rfl | (simp; done)))) ?_)
  refine And.intro (fun h => ?_) (fun h => ?_)
  rotate_left
  · have hl : l.length ≤ k := by simpa using h
    rw [List.drop_of_length_le hl, viewP] at hx
    repeat' (first | refine And.intro (by rfl) ?_ | refine litA ?_ | refine litB ?_ | refine litC ?_ | refine litD ?_ | refine And.intro trivial ?_ | refine And.intro (keptI (by repeat' (first | refine And.intro ?_ ?_ | exact True.intro | rfl | (simp; done)))) ?_ | refine ⟨_, _, f183_ok v, rfl, rfl, trivial, ?_⟩ | refine ⟨_, _, f90_ok (.mk tt tn ti), rfl, rfl, trivial, ?_⟩ | refine ⟨_, _, f259_ok (.mk tt tn ti) ht, rfl, rfl, trivial, ?_⟩ | (refine And.intro ?_ ?_ <;> intro h))
    · rename_i hnv
      have hv2 : 0 ≤ v ∧ v < 10 := by simpa [nodeS] using hnv
      have hvw : viewS v (.mk tt tn ti) l = c.set v.toNat (some (.mk tt tn ti)) := by rw [viewS, if_pos ⟨hnv, by simpa using h⟩, hR, hx]
      rw [hvw]
      obtain ⟨z, hz⟩ : ∃ z, c[v.toNat]? = some z := ⟨_, List.getElem?_eq_getElem (by omega)⟩
      refine ⟨hc10, hv2.1, hv2.2, ?_⟩
      repeat (first | refine And.intro (by rfl) ?_ | refine litA ?_ | refine litB ?_ | refine litC ?_ | refine litD ?_ | refine And.intro trivial ?_ | refine And.intro (keptI (by repeat' (first | refine And.intro ?_ ?_ | exact True.intro | rfl | (simp; done)))) ?_)
      refine ⟨hc10, encMb z, by rw [List.getElem?_map, hz]; rfl, rfl, by rw [encMb_len]; rfl, rfl, ?_⟩
      repeat (first | refine And.intro (by rfl) ?_ | refine litA ?_ | refine litB ?_ | refine litC ?_ | refine litD ?_ | refine And.intro trivial ?_ | refine And.intro (keptI (by repeat' (first | refine And.intro ?_ ?_ | exact True.intro | rfl | (simp; done)))) ?_)
      have hs := set_row c v.toNat (.mk tt tn ti) z
      exact ⟨by rw [List.length_set]; exact hc10, .inl (congrArg (PV.sl none 4) hs), rfl⟩
    · have hvw : viewS v (.mk tt tn ti) l = c := by rw [viewS, if_neg (fun g => by simp at h; exact h g.2), hR, hx]
      rw [hvw]
      exact ⟨hc10, .inl rfl, rfl⟩
    · have hvw : viewS v (.mk tt tn ti) l = c := by rw [viewS, if_neg (fun g => by rw [g.1] at h; cases h), hR, hx]
      rw [hvw]
      exact ⟨hc10, .inl rfl, rfl⟩
  have hk' : k < l.length := by simpa using h
  obtain ⟨y, hy⟩ : ∃ y, l[k]? = some y := ⟨_, List.getElem?_eq_getElem hk'⟩
  have e : IntKind.i64.wrap ((k : Int) + 1) = ((k + 1 : Nat) : Int) := by rw [wrap_id] <;> omega
  rw [drop_at hy, viewP] at hx
  have hys := hl y (List.mem_of_getElem? hy)
  obtain ⟨mn, ms, ⟨mt, mnn, mi⟩, mv, ma⟩ := y
  dsimp only at hx
  repeat (first | refine And.intro (by rfl) ?_ | refine litA ?_ | refine litB ?_ | refine litC ?_ | refine litD ?_ | refine And.intro trivial ?_ | refine And.intro (keptI (by repeat' (first | refine And.intro ?_ ?_ | exact True.intro | rfl | (simp; done)))) ?_)
  refine ⟨by simp, encM ⟨mn, ms, .mk mt mnn mi, mv, ma⟩, by simp only [Int.toNat_natCast, List.getElem?_map, hy]; rfl, ?_⟩
  repeat' (first | refine And.intro (by rfl) ?_ | refine litA ?_ | refine litB ?_ | refine litC ?_ | refine litD ?_ | refine And.intro trivial ?_ | refine And.intro (keptI (by repeat' (first | refine And.intro ?_ ?_ | exact True.intro | rfl | (simp; done)))) ?_ | refine ⟨_, _, f102_ok ⟨mn, ms, .mk mt mnn mi, mv, ma⟩, rfl, rfl, trivial, ?_⟩ | refine ⟨_, _, f259_ok (.mk mt mnn mi) hys, rfl, rfl, trivial, ?_⟩ | (refine And.intro ?_ ?_ <;> intro h))
  · rename_i hne
    have hn := plainM_node h
    obtain ⟨z, hz⟩ : ∃ z, c[mn.toNat]? = some z := ⟨_, List.getElem?_eq_getElem (by have := hn.1; have := hn.2; dsimp only at *; omega)⟩
    rw [if_pos ⟨by simpa using hne, h⟩] at hx
    refine ⟨hc10, hn.1, hn.2, ?_⟩
    repeat (first | refine And.intro (by rfl) ?_ | refine litA ?_ | refine litB ?_ | refine litC ?_ | refine litD ?_ | refine And.intro trivial ?_ | refine And.intro (keptI (by repeat' (first | refine And.intro ?_ ?_ | exact True.intro | rfl | (simp; done)))) ?_)
    refine ⟨hc10, encMb z, by rw [List.getElem?_map, hz]; rfl, rfl, by rw [encMb_len]; rfl, rfl, ?_⟩
    repeat (first | refine And.intro (by rfl) ?_ | refine litA ?_ | refine litB ?_ | refine litC ?_ | refine litD ?_ | refine And.intro trivial ?_ | refine And.intro (keptI (by repeat' (first | refine And.intro ?_ ?_ | exact True.intro | rfl | (simp; done)))) ?_)
    have hs := set_row c mn.toNat (.mk mt mnn mi) z
    refine ⟨⟨(k + 1, c.set mn.toNat (some (.mk mt mnn mi))), hk', by simp [hc], hx⟩, ?_, ?_⟩
    · repeat' (first | refine fitE_ls rfl rfl ?_ | refine fitC_ls rfl ?_ | exact congrArg I e | exact congrArg (fun m => Obj.row 89 4 m false) hs | refine And.intro ?_ ?_ | exact True.intro | rfl | exact ⟨_, _, rfl, rfl⟩ | exact ⟨_, _, rfl⟩ | decide | (simp [St.get, St.obj, look, lookD, unI, List.map_take]; done))
    · dsimp only; omega
  · rw [if_neg (fun g => by rw [h] at g; cases g.2)] at hx
    refine ⟨⟨(k + 1, c), hk', hc, hx⟩, ?_, ?_⟩
    · repeat' (first | refine fitE_ls rfl rfl ?_ | refine fitC_ls rfl ?_ | exact congrArg I e | refine And.intro ?_ ?_ | exact True.intro | rfl | exact ⟨_, _, rfl, rfl⟩ | exact ⟨_, _, rfl⟩ | decide | (simp [St.get, St.obj, look, lookD, unI, List.map_take]; done))
    · dsimp only; omega
  · rw [if_neg (fun g => g.1 (by simpa using h))] at hx
    refine ⟨⟨(k + 1, c), hk', hc, hx⟩, ?_, ?_⟩
    · repeat' (first | refine fitE_ls rfl rfl ?_ | refine fitC_ls rfl ?_ | exact congrArg I e | refine And.intro ?_ ?_ | exact True.intro | rfl | exact ⟨_, _, rfl, rfl⟩ | exact ⟨_, _, rfl⟩ | decide | (simp [St.get, St.obj, look, lookD, unI, List.map_take]; done))
    · dsimp only; omega
set_option maxRecDepth 10000
/-! turned, over settled -/
theorem f101_of (vb v v' : Voter) (hs : smallV v') (h182 : C 182 [.agg (encV v)] (.agg (encV v'))) (hq : v'.seq ≤ 1000000 ∧ 0 ≤ v'.seq) :
    C 101 [.agg (encV vb), .agg (encV v)] (.agg (encV (if vb.trust ≠ v'.trust ∨ vb.votes ≠ v'.votes ∨ vb.accepts ≠ v'.accepts then { v' with seq := v'.seq + 1 } else v'))) := by
  obtain ⟨nd, sq, ⟨t, n, i⟩, vs, ac, cf, hd⟩ := v
  obtain ⟨nd', sq', ⟨t', n', i'⟩, vs', ac', cf', hd'⟩ := v'
  obtain ⟨ndb, sqb, ⟨tb, nb, ib⟩, vsb, acb, cfb, hdb⟩ := vb
  dsimp only at hq
  have ew : IntKind.i64.wrap (sq' + 1) = sq' + 1 := wrap_id (by omega) (by omega)
  have hs1 : smallV ⟨nd', sq' + 1, .mk t' n' i', vs', ac', cf', hd'⟩ := hs
  have hfr : C 99 [.agg (encV ⟨nd', IntKind.i64.wrap (sq' + 1), .mk t' n' i', vs', ac', cf', hd'⟩)] (.agg (encV ⟨nd', sq' + 1, .mk t' n' i', vs', ac', cf', hd'⟩)) := by rw [ew]; exact f99_ok _ hs1
  have hfr0 := f99_ok ⟨nd', sq', .mk t' n' i', vs', ac', cf', hd'⟩ hs
  refine fn_ok (G := G) tabOK hm D0 Tryz.func101 rfl (by kernel_rfl) (by kernel_rfl) rfl rfl ?_
  repeat' (first | refine And.intro (by rfl) ?_ | refine litA ?_ | refine litB ?_ | refine litC ?_ | refine litD ?_ | refine And.intro trivial ?_ | refine And.intro (keptI (by repeat' (first | refine And.intro ?_ ?_ | exact True.intro | rfl | (simp; done)))) ?_ | refine ⟨_, _, h182, rfl, rfl, trivial, ?_⟩ | refine ⟨_, _, f118_ok (.mk tb nb ib) (.mk t' n' i'), rfl, rfl, trivial, ?_⟩ | refine ⟨_, _, f130_ok vsb vs', rfl, rfl, trivial, ?_⟩ | refine ⟨_, _, f130_ok acb ac', rfl, rfl, trivial, ?_⟩ | refine ⟨_, _, hfr, rfl, rfl, trivial, ?_⟩ | refine ⟨_, _, hfr0, rfl, rfl, trivial, ?_⟩ | (refine And.intro ?_ ?_ <;> intro h))
  all_goals split
  all_goals rename_i g
  all_goals try (exfalso; simp at *; simp_all; done)
  all_goals repeat' (first | refine And.intro ?_ ?_ | exact .inl rfl | rfl | exact .inr ⟨rfl, _, rfl⟩)
set_option maxRecDepth 10000
theorem f104_ok (m : Message) (x : Int) : C 104 [.agg (encM m), I x] (I (cmpI m.node x)) := by
  obtain ⟨nd, sq, ⟨t, n, i⟩, vs, ac⟩ := m
  refine fn_ok (G := G) tabOK hm D0 Tryz.func104 rfl (by kernel_rfl) (by kernel_rfl) rfl rfl ?_
  repeat (first | refine And.intro (by rfl) ?_ | refine litA ?_ | refine litB ?_ | refine litC ?_ | refine litD ?_ | refine And.intro trivial ?_ | refine And.intro (keptI (by repeat' (first | refine And.intro ?_ ?_ | exact True.intro | rfl | (simp; done)))) ?_)
  refine ⟨_, _, f105_ok nd x, rfl, rfl, trivial, ?_⟩
  repeat (first | refine And.intro (by rfl) ?_ | refine litA ?_ | refine litB ?_ | refine litC ?_ | refine litD ?_ | refine And.intro trivial ?_ | refine And.intro (keptI (by repeat' (first | refine And.intro ?_ ?_ | exact True.intro | rfl | (simp; done)))) ?_)
  repeat' (first | refine And.intro ?_ ?_ | exact .inl rfl | rfl | exact .inr ⟨rfl, _, rfl⟩)
/-- Where a message of a node is or would be; whether it is there: lo is such a place. -/
def isPlace (l : List Message) (x : Int) (lo : Nat) : Prop := lo ≤ l.length ∧ (∀ m ∈ l.take lo, m.node < x) ∧ ∀ m ∈ l.drop lo, x ≤ m.node
theorem mid_eq {a b : Nat} (h : a + b ≤ 4000000) : IntKind.i64.wrap (Int.fdiv (IntKind.u64.wrap (IntKind.i64.wrap ((a : Int) + b))) (2 ^ min (Int.toNat 1) 64)) = (((a + b) / 2 : Nat) : Int) := by
  rw [wrap_id (n := (a : Int) + b) (by omega) (by omega)]
  have e : IntKind.u64.wrap ((a : Int) + b) = ((a + b : Nat) : Int) := by
    simp [IntKind.wrap, IntKind.bits, IntKind.signed]; omega
  rw [e]
  rw [show (2 : Int) ^ min (Int.toNat 1) 64 = ((2 : Nat) : Int) from rfl, Int.fdiv_eq_ediv_of_nonneg _ (by omega), ← Int.natCast_ediv]
  exact wrap_id (by omega) (by omega)
theorem cmpI_lt (a b : Int) : decide (cmpI a b < 0) = decide (a < b) := by
  unfold cmpI; rw [Bool.eq_iff_iff]; simp only [decide_eq_true_eq]; split
  · omega
  · split <;> omega
theorem cmpI_eq (a b : Int) : (cmpI a b == 0) = decide (a = b) := by
  unfold cmpI; rw [Bool.eq_iff_iff]; simp only [decide_eq_true_eq, beq_iff_eq]; split
  · omega
  · split <;> omega
def foundAt (l : List Message) (x : Int) (k : Nat) : Bool := match l[k]? with | some m => decide (m.node = x) | none => false
theorem f103_ok (l : List Message) (x : Int) (hl : l.length ≤ 1000000) (lo : Nat) (hp : isPlace l x lo) : C 103 [encML l, I x, .fn 104 []] (.tup [I (lo : Nat), bval (foundAt l x lo)]) := by
  obtain ⟨p1, p2, p3⟩ := hp
  have below : ∀ k m, l[k]? = some m → m.node < x → k < lo := by
    intro k m hk hm
    rcases Nat.lt_or_ge k lo with h | h
    · exact h
    · have := p3 m (List.mem_of_getElem? (i := k - lo) (by rw [List.getElem?_drop, show lo + (k - lo) = k by omega, hk]))
      omega
  have above : ∀ k m, l[k]? = some m → ¬ m.node < x → lo ≤ k := by
    intro k m hk hm
    rcases Nat.lt_or_ge k lo with h | h
    · have := p2 m (List.mem_of_getElem? (i := k) (by rw [List.getElem?_take, if_pos h, hk]))
      omega
    · exact h
  refine fn_ok (G := G) tabOK hm D0 Tryz.func103 rfl (by kernel_rfl) (by kernel_rfl) rfl rfl ?_
  repeat (first | refine And.intro (by rfl) ?_ | refine litA ?_ | refine litB ?_ | refine litC ?_ | refine litD ?_ | refine And.intro trivial ?_ | refine And.intro (keptI (by repeat' (first | refine And.intro ?_ ?_ | exact True.intro | rfl | (simp; done)))) ?_)
  refine loop_ok (G := G) tabOK hm D0 (α := {q : Nat × Nat // q.1 ≤ lo ∧ lo ≤ q.2 ∧ q.2 ≤ l.length}) (fun q => ⟨49, [(9, I q.1.1), (10, I q.1.2), (8, I (l.map encM).length), (0, encML l), (1, I x), (2, .fn 104 [])], []⟩) (fun q => q.1.2 - q.1.1) (by kernel_rfl) ⟨(0, l.length), by omega, p1, Nat.le_refl _⟩ ?_ ?_
  · repeat' (first | refine fitE_ls rfl rfl ?_ | refine fitC_ls rfl ?_ | refine And.intro ?_ ?_ | exact True.intro | rfl | exact ⟨_, _, rfl, rfl⟩ | exact ⟨_, _, rfl⟩ | decide | (simp [St.get, St.obj, look, lookD, unI, List.map_take]; done))
  rintro ⟨⟨i, j⟩, h1, h2, h3⟩
  dsimp only at h1 h2 h3
  repeat (first | refine And.intro (by rfl) ?_ | refine litA ?_ | refine litB ?_ | refine litC ?_ | refine litD ?_ | refine And.intro trivial ?_ | refine And.intro (keptI (by repeat' (first | refine And.intro ?_ ?_ | exact True.intro | rfl | (simp; done)))) ?_)
  refine And.intro (fun h => ?_) (fun h => ?_)
  rotate_left
  · have hi : i = lo := by simp at h; omega
    subst hi
    repeat' (first | refine And.intro (by rfl) ?_ | refine litA ?_ | refine litB ?_ | refine litC ?_ | refine litD ?_ | refine And.intro trivial ?_ | refine And.intro (keptI (by repeat' (first | refine And.intro ?_ ?_ | exact True.intro | rfl | (simp; done)))) ?_ | (refine And.intro ?_ ?_ <;> intro h))
    · have hil : i < l.length := by simp at h; omega
      obtain ⟨z, hz⟩ : ∃ z, l[i]? = some z := ⟨_, List.getElem?_eq_getElem hil⟩
      have hfa : foundAt l x i = decide (z.node = x) := by simp [foundAt, hz]
      rw [hfa]
      obtain ⟨zn, zs, ⟨zt, znn, zi⟩, zv, za⟩ := z
      refine ⟨by simp, encM ⟨zn, zs, .mk zt znn zi, zv, za⟩, by simp only [Int.toNat_natCast, List.getElem?_map, hz]; rfl, ?_⟩
      repeat (first | refine And.intro (by rfl) ?_ | refine litA ?_ | refine litB ?_ | refine litC ?_ | refine litD ?_ | refine And.intro trivial ?_ | refine And.intro (keptI (by repeat' (first | refine And.intro ?_ ?_ | exact True.intro | rfl | (simp; done)))) ?_)
      refine ⟨_, _, f104_ok ⟨zn, zs, .mk zt znn zi, zv, za⟩ x, rfl, rfl, trivial, ?_⟩
      repeat (first | refine And.intro (by rfl) ?_ | refine litA ?_ | refine litB ?_ | refine litC ?_ | refine litD ?_ | refine And.intro trivial ?_ | refine And.intro (keptI (by repeat' (first | refine And.intro ?_ ?_ | exact True.intro | rfl | (simp; done)))) ?_)
      exact ⟨.inl rfl, subB (cmpI_eq zn x), rfl⟩
    · have hil : l.length ≤ i := by simp at h; omega
      have hfa : foundAt l x i = false := by simp [foundAt, List.getElem?_eq_none hil]
      rw [hfa]
      repeat' (first | refine And.intro ?_ ?_ | exact .inl rfl | rfl | exact .inr ⟨rfl, _, rfl⟩)
  have hij : i < j := by simp at h; omega
  have em := mid_eq (a := i) (b := j) (by omega)
  obtain ⟨z, hz⟩ : ∃ z, l[(i + j) / 2]? = some z := ⟨_, List.getElem?_eq_getElem (by omega)⟩
  have hb := below _ _ hz
  have hab := above _ _ hz
  obtain ⟨zn, zs, ⟨zt, znn, zi⟩, zv, za⟩ := z
  dsimp only at hb hab
  have ew : IntKind.i64.wrap ((((i + j) / 2 : Nat) : Int) + 1) = (((i + j) / 2 + 1 : Nat) : Int) := by rw [wrap_id] <;> omega
  have ew2 : IntKind.i64.wrap (IntKind.i64.wrap (Int.fdiv (IntKind.u64.wrap (IntKind.i64.wrap ((i : Int) + j))) (2 ^ min (Int.toNat 1) 64)) + 1) = (((i + j) / 2 + 1 : Nat) : Int) := by rw [em]; exact ew
  repeat (first | refine And.intro (by rfl) ?_ | refine litA ?_ | refine litB ?_ | refine litC ?_ | refine litD ?_ | refine And.intro trivial ?_ | refine And.intro (keptI (by repeat' (first | refine And.intro ?_ ?_ | exact True.intro | rfl | (simp; done)))) ?_)
  refine ⟨by decide, ?_⟩
  repeat (first | refine And.intro (by rfl) ?_ | refine litA ?_ | refine litB ?_ | refine litC ?_ | refine litD ?_ | refine And.intro trivial ?_ | refine And.intro (keptI (by repeat' (first | refine And.intro ?_ ?_ | exact True.intro | rfl | (simp; done)))) ?_)
  refine ⟨Int.le_trans (show (0 : Int) ≤ (((i + j) / 2 : Nat) : Int) by omega) (Int.le_of_eq em.symm), encM ⟨zn, zs, .mk zt znn zi, zv, za⟩, ?_, ?_⟩
  · have : (IntKind.i64.wrap (Int.fdiv (IntKind.u64.wrap (IntKind.i64.wrap ((i : Int) + j))) (2 ^ min (Int.toNat 1) 64))).toNat = (i + j) / 2 := by rw [em]; rfl
    exact (congrArg (fun q => (l.map encM)[q]?) this).trans (by rw [List.getElem?_map, hz]; rfl)
  repeat (first | refine And.intro (by rfl) ?_ | refine litA ?_ | refine litB ?_ | refine litC ?_ | refine litD ?_ | refine And.intro trivial ?_ | refine And.intro (keptI (by repeat' (first | refine And.intro ?_ ?_ | exact True.intro | rfl | (simp; done)))) ?_)
  refine ⟨_, _, f104_ok ⟨zn, zs, .mk zt znn zi, zv, za⟩ x, rfl, rfl, trivial, ?_⟩
  repeat' (first | refine And.intro (by rfl) ?_ | refine litA ?_ | refine litB ?_ | refine litC ?_ | refine litD ?_ | refine And.intro trivial ?_ | refine And.intro (keptI (by repeat' (first | refine And.intro ?_ ?_ | exact True.intro | rfl | (simp; done)))) ?_ | (refine And.intro ?_ ?_ <;> intro h))
  · have hlt : zn < x := by rw [cmpI_lt] at h; simpa using h
    have := hb hlt
    refine ⟨⟨((i + j) / 2 + 1, j), by dsimp only; omega, h2, h3⟩, ?_, ?_⟩
    · repeat' (first | refine fitE_ls rfl rfl ?_ | refine fitC_ls rfl ?_ | exact congrArg I ew2 | refine And.intro ?_ ?_ | exact True.intro | rfl | exact ⟨_, _, rfl, rfl⟩ | exact ⟨_, _, rfl⟩ | decide | (simp [St.get, St.obj, look, lookD, unI, List.map_take]; done))
    · dsimp only; omega
  · have hge : ¬ zn < x := by rw [cmpI_lt] at h; simpa using h
    have := hab hge
    refine ⟨⟨(i, (i + j) / 2), h1, by dsimp only; omega, by dsimp only; omega⟩, ?_, ?_⟩
    · repeat' (first | refine fitE_ls rfl rfl ?_ | refine fitC_ls rfl ?_ | exact congrArg I em | refine And.intro ?_ ?_ | exact True.intro | rfl | exact ⟨_, _, rfl, rfl⟩ | exact ⟨_, _, rfl⟩ | decide | (simp [St.get, St.obj, look, lookD, unI, List.map_take]; done))
    · dsimp only; omega
set_option maxRecDepth 10000
/-! make.Message, over make.Trust -/
def trustNil : Trust := .mk 0 [] []
theorem f31_of (t : Tape) (n : Int) (h1 : 0 < n) (h2 : n ≤ 10) (tr : Trust) (t3 : Tape)
    (h15 : C 15 [.mp (encTp ((t.n n).2.n 5).2), I n, I 2] (.agg (encT tr)) [(0, .box (encTp t3) false)]) :
    C 31 [.mp (encTp t), I n] (.agg (encM ⟨(t.n n).1, 1 + ((t.n n).2.n 5).1, tr, sortC (claimsT (t3.n 4).2 (t3.n 4).1.toNat).1,
      sortC (claimsT ((claimsT (t3.n 4).2 (t3.n 4).1.toNat).2.n 3).2 ((claimsT (t3.n 4).2 (t3.n 4).1.toNat).2.n 3).1.toNat).1⟩))
      [(0, .box (encTp (claimsT ((claimsT (t3.n 4).2 (t3.n 4).1.toNat).2.n 3).2 ((claimsT (t3.n 4).2 (t3.n 4).1.toNat).2.n 3).1.toNat).2) false)] := by
  obtain ⟨tt, tn, ti⟩ := tr
  refine fn_ok (G := G) tabOK hm D0 Tryz.func31 rfl (by kernel_rfl) (by kernel_rfl) rfl rfl ?_
  repeat (first | refine And.intro (by rfl) ?_ | refine litA ?_ | refine litB ?_ | refine litC ?_ | refine litD ?_ | refine And.intro trivial ?_ | refine And.intro (keptI (by repeat' (first | refine And.intro ?_ ?_ | exact True.intro | rfl | (simp; done)))) ?_)
  refine ⟨_, _, f17_ok t n h1 (by omega), rfl, rfl, ⟨⟨rfl, rfl⟩, trivial⟩, ?_⟩
  repeat (first | refine And.intro (by rfl) ?_ | refine litA ?_ | refine litB ?_ | refine litC ?_ | refine litD ?_ | refine And.intro trivial ?_ | refine And.intro (keptI (by repeat' (first | refine And.intro ?_ ?_ | exact True.intro | rfl | (simp; done)))) ?_)
  refine ⟨_, _, f50_ok (t.n n).2 1 5 (by decide) (by decide) (by decide), rfl, rfl, ⟨⟨rfl, rfl⟩, trivial⟩, ?_⟩
  repeat (first | refine And.intro (by rfl) ?_ | refine litA ?_ | refine litB ?_ | refine litC ?_ | refine litD ?_ | refine And.intro trivial ?_ | refine And.intro (keptI (by repeat' (first | refine And.intro ?_ ?_ | exact True.intro | rfl | (simp; done)))) ?_)
  refine ⟨_, _, h15, rfl, rfl, ⟨⟨rfl, rfl⟩, trivial⟩, ?_⟩
  repeat (first | refine And.intro (by rfl) ?_ | refine litA ?_ | refine litB ?_ | refine litC ?_ | refine litD ?_ | refine And.intro trivial ?_ | refine And.intro (keptI (by repeat' (first | refine And.intro ?_ ?_ | exact True.intro | rfl | (simp; done)))) ?_)
  refine ⟨_, _, f117_ok t3 3 (by decide) (by decide), rfl, rfl, ⟨⟨rfl, rfl⟩, trivial⟩, ?_⟩
  repeat (first | refine And.intro (by rfl) ?_ | refine litA ?_ | refine litB ?_ | refine litC ?_ | refine litD ?_ | refine And.intro trivial ?_ | refine And.intro (keptI (by repeat' (first | refine And.intro ?_ ?_ | exact True.intro | rfl | (simp; done)))) ?_)
  refine ⟨_, _, f23_ok _, rfl, rfl, trivial, ?_⟩
  repeat (first | refine And.intro (by rfl) ?_ | refine litA ?_ | refine litB ?_ | refine litC ?_ | refine litD ?_ | refine And.intro trivial ?_ | refine And.intro (keptI (by repeat' (first | refine And.intro ?_ ?_ | exact True.intro | rfl | (simp; done)))) ?_)
  refine ⟨_, _, f117_ok _ 2 (by decide) (by decide), rfl, rfl, ⟨⟨rfl, rfl⟩, trivial⟩, ?_⟩
  repeat (first | refine And.intro (by rfl) ?_ | refine litA ?_ | refine litB ?_ | refine litC ?_ | refine litD ?_ | refine And.intro trivial ?_ | refine And.intro (keptI (by repeat' (first | refine And.intro ?_ ?_ | exact True.intro | rfl | (simp; done)))) ?_)
  refine ⟨_, _, f23_ok _, rfl, rfl, trivial, ?_⟩
  repeat (first | refine And.intro (by rfl) ?_ | refine litA ?_ | refine litB ?_ | refine litC ?_ | refine litD ?_ | refine And.intro trivial ?_ | refine And.intro (keptI (by repeat' (first | refine And.intro ?_ ?_ | exact True.intro | rfl | (simp; done)))) ?_)
  repeat' (first | refine And.intro ?_ ?_ | exact .inl rfl | rfl | exact .inr ⟨rfl, _, rfl⟩)
set_option maxRecDepth 10000
theorem f15_of (t u : Tape) (n : Int) (h1 : 0 < n) (h2 : n ≤ 10) (x : Trust) (h92 : C 92 [.mp (encTp t), I n, I 2] (.agg (encT x)) [(0, .box (encTp u) false)]) :
    C 15 [.mp (encTp t), I n, I 2] (.agg (encT (if validT x ≠ 0 then .mk 1 [(u.n n).1] [] else x))) [(0, .box (encTp (if validT x ≠ 0 then (u.n n).2 else u)) false)] := by
  obtain ⟨xt, xn, xi⟩ := x
  by_cases hv : validT (.mk xt xn xi) ≠ 0
  · rw [if_pos hv, if_pos hv]
    refine fn_ok (G := G) tabOK hm D0 Tryz.func15 rfl (by kernel_rfl) (by kernel_rfl) rfl rfl ?_
    repeat (first | refine And.intro (by rfl) ?_ | refine litA ?_ | refine litB ?_ | refine litC ?_ | refine litD ?_ | refine And.intro trivial ?_ | refine And.intro (keptI (by repeat' (first | refine And.intro ?_ ?_ | exact True.intro | rfl | (simp; done)))) ?_)
    refine ⟨_, _, h92, rfl, rfl, ⟨⟨rfl, rfl⟩, trivial⟩, ?_⟩
    repeat (first | refine And.intro (by rfl) ?_ | refine litA ?_ | refine litB ?_ | refine litC ?_ | refine litD ?_ | refine And.intro trivial ?_ | refine And.intro (keptI (by repeat' (first | refine And.intro ?_ ?_ | exact True.intro | rfl | (simp; done)))) ?_)
    refine ⟨_, _, f93_ok (.mk xt xn xi), rfl, rfl, trivial, ?_⟩
    repeat' (first | refine And.intro (by rfl) ?_ | refine litA ?_ | refine litB ?_ | refine litC ?_ | refine litD ?_ | refine And.intro trivial ?_ | refine And.intro (keptI (by repeat' (first | refine And.intro ?_ ?_ | exact True.intro | rfl | (simp; done)))) ?_ | (refine And.intro ?_ ?_ <;> intro h))
    · refine ⟨_, _, f17_ok u n h1 (by omega), rfl, rfl, ⟨⟨rfl, rfl⟩, trivial⟩, ?_⟩
      repeat (first | refine And.intro (by rfl) ?_ | refine litA ?_ | refine litB ?_ | refine litC ?_ | refine litD ?_ | refine And.intro trivial ?_ | refine And.intro (keptI (by repeat' (first | refine And.intro ?_ ?_ | exact True.intro | rfl | (simp; done)))) ?_)
      repeat' (first | refine And.intro ?_ ?_ | exact .inl rfl | rfl | exact .inr ⟨rfl, _, rfl⟩)
    · exact absurd (by simpa using h) hv
  · rw [if_neg hv, if_neg hv]
    refine fn_ok (G := G) tabOK hm D0 Tryz.func15 rfl (by kernel_rfl) (by kernel_rfl) rfl rfl ?_
    repeat (first | refine And.intro (by rfl) ?_ | refine litA ?_ | refine litB ?_ | refine litC ?_ | refine litD ?_ | refine And.intro trivial ?_ | refine And.intro (keptI (by repeat' (first | refine And.intro ?_ ?_ | exact True.intro | rfl | (simp; done)))) ?_)
    refine ⟨_, _, h92, rfl, rfl, ⟨⟨rfl, rfl⟩, trivial⟩, ?_⟩
    repeat (first | refine And.intro (by rfl) ?_ | refine litA ?_ | refine litB ?_ | refine litC ?_ | refine litD ?_ | refine And.intro trivial ?_ | refine And.intro (keptI (by repeat' (first | refine And.intro ?_ ?_ | exact True.intro | rfl | (simp; done)))) ?_)
    refine ⟨_, _, f93_ok (.mk xt xn xi), rfl, rfl, trivial, ?_⟩
    repeat' (first | refine And.intro (by rfl) ?_ | refine litA ?_ | refine litB ?_ | refine litC ?_ | refine litD ?_ | refine And.intro trivial ?_ | refine And.intro (keptI (by repeat' (first | refine And.intro ?_ ?_ | exact True.intro | rfl | (simp; done)))) ?_ | (refine And.intro ?_ ?_ <;> intro h))
    · exact absurd (by simpa using h) hv
    · repeat' (first | refine And.intro ?_ ?_ | exact .inl rfl | rfl | exact .inr ⟨rfl, _, rfl⟩)
set_option maxRecDepth 10000
/-! Tape.Order -/
def swapL (l : List Int) (i k : Nat) : List Int := (l.set i (l.getD k 0)).set k (l.getD i 0)
def orderP (t : Tape) (l : List Int) : Nat → List Int × Tape
  | 0 => (l, t)
  | i + 1 => orderP (t.n ((i : Int) + 2)).2 (swapL l (i + 1) (t.n ((i : Int) + 2)).1.toNat) i
def rangeI (n : Nat) : List Int := (List.range n).map fun k : Nat => (k : Int)
theorem f18_ok (t : Tape) (n : Nat) (h1 : 0 < n) (h2 : n ≤ 1000000) : C 18 [.mp (encTp t), I n] (.sl (some 3) 1 ((orderP t (rangeI n) (n - 1)).1.map fun x => [I x])) [(0, .box (encTp (orderP t (rangeI n) (n - 1)).2) false)] := by
  refine fn_ok (G := G) tabOK hm pl18 Tryz.func18 rfl (by kernel_rfl) (by kernel_rfl) rfl rfl ?_
  repeat (first | refine And.intro (by rfl) ?_ | refine litA ?_ | refine litB ?_ | refine litC ?_ | refine litD ?_ | refine And.intro trivial ?_ | refine And.intro (keptI (by repeat' (first | refine And.intro ?_ ?_ | exact True.intro | rfl | (simp; done)))) ?_)
  refine loop_ok (G := G) tabOK hm pl18 (α := {k : Nat // k ≤ n}) (fun k => ⟨43, [(6, I k.1), (5, .ls 18000 ((rangeI k.1).map fun x => [I x]).length), (1, I n), (0, .loc 1500 0)], [(1500, .box (encTp t) false), (18000, .row 3 1 ((rangeI k.1).map fun x => [I x]) false)]⟩) (fun k => n - k.1) (by kernel_rfl) ⟨0, Nat.zero_le _⟩ ?_ ?_
  · repeat' (first | refine fitE_ls rfl rfl ?_ | refine fitC_ls rfl ?_ | refine And.intro ?_ ?_ | exact True.intro | rfl | exact ⟨_, _, rfl, rfl⟩ | exact ⟨_, _, rfl⟩ | decide | (simp [St.get, St.obj, look, lookD, unI, List.map_take]; done))
  rintro ⟨k, hk⟩
  repeat (first | refine And.intro (by rfl) ?_ | refine litA ?_ | refine litB ?_ | refine litC ?_ | refine litD ?_ | refine And.intro trivial ?_ | refine And.intro (keptI (by repeat' (first | refine And.intro ?_ ?_ | exact True.intro | rfl | (simp; done)))) ?_)
  refine And.intro (fun h => ?_) (fun h => ?_)
  rotate_left
  · have hkn : k = n := by simp at h; omega
    subst hkn
    repeat (first | refine And.intro (by rfl) ?_ | refine litA ?_ | refine litB ?_ | refine litC ?_ | refine litD ?_ | refine And.intro trivial ?_ | refine And.intro (keptI (by repeat' (first | refine And.intro ?_ ?_ | exact True.intro | rfl | (simp; done)))) ?_)
    have e1 : IntKind.i64.wrap ((k : Int) - 1) = ((k - 1 : Nat) : Int) := by rw [wrap_id] <;> omega
    generalize hR : orderP t (rangeI k) (k - 1) = R
    have hlk : (rangeI k).length = k := by simp [rangeI]
    refine loop_ok (G := G) tabOK hm pl18 (α := {q : Nat × List Int × Tape // q.1 + 1 ≤ k ∧ q.2.1.length = k ∧ R = orderP q.2.2 q.2.1 q.1}) (fun q => ⟨43, [(7, I q.1.1), (5, .ls 18000 (q.1.2.1.map fun x => [I x]).length), (1, I k), (0, .loc 1500 0)], [(1500, .box (encTp q.1.2.2) false), (18000, .row 3 1 (q.1.2.1.map fun x => [I x]) false)]⟩) (fun q => q.1.1) (by kernel_rfl) ⟨(k - 1, rangeI k, t), by dsimp only; omega, hlk, hR.symm⟩ ?_ ?_
    · repeat' (first | refine fitE_ls rfl rfl ?_ | refine fitC_ls rfl ?_ | exact congrArg I e1 | refine And.intro ?_ ?_ | exact True.intro | rfl | exact ⟨_, _, rfl, rfl⟩ | exact ⟨_, _, rfl⟩ | decide | (simp [St.get, St.obj, look, lookD, unI, List.map_take]; done))
    rintro ⟨⟨i, L, u⟩, hi, hL, hx⟩
    dsimp only at hi hL hx
    repeat (first | refine And.intro (by rfl) ?_ | refine litA ?_ | refine litB ?_ | refine litC ?_ | refine litD ?_ | refine And.intro trivial ?_ | refine And.intro (keptI (by repeat' (first | refine And.intro ?_ ?_ | exact True.intro | rfl | (simp; done)))) ?_)
    refine And.intro (fun h => ?_) (fun h => ?_)
    rotate_left
    · have hi0 : i = 0 := by simp at h; omega
      subst hi0
      have hx : R = (L, u) := hx
      subst hx
      repeat (first | refine And.intro (by rfl) ?_ | refine litA ?_ | refine litB ?_ | refine litC ?_ | refine litD ?_ | refine And.intro trivial ?_ | refine And.intro (keptI (by repeat' (first | refine And.intro ?_ ?_ | exact True.intro | rfl | (simp; done)))) ?_)
      repeat' (first | refine And.intro ?_ ?_ | exact .inl rfl | rfl | exact .inr ⟨rfl, _, rfl⟩)
    obtain ⟨i', rfl⟩ : ∃ i', i = i' + 1 := ⟨i - 1, by simp at h; omega⟩
    have hN : C 17 [.mp (encTp u), I (IntKind.i64.wrap (((i' + 1 : Nat) : Int) + 1))] (I (u.n ((i' : Int) + 2)).1) [(0, .box (encTp (u.n ((i' : Int) + 2)).2) false)] := by
      rw [wrap_id (by omega) (by omega), show ((i' + 1 : Nat) : Int) + 1 = (i' : Int) + 2 by omega]
      exact f17_ok _ _ (by omega) (by omega)
    have hr := u.n_range (n := (i' : Int) + 2) (by omega)
    have em : IntKind.i64.wrap (((i' + 1 : Nat) : Int) - 1) = (i' : Int) := by rw [wrap_id] <;> omega
    rw [orderP] at hx
    repeat (first | refine And.intro (by rfl) ?_ | refine litA ?_ | refine litB ?_ | refine litC ?_ | refine litD ?_ | refine And.intro trivial ?_ | refine And.intro (keptI (by repeat' (first | refine And.intro ?_ ?_ | exact True.intro | rfl | (simp; done)))) ?_)
    refine ⟨_, _, hN, rfl, rfl, ⟨⟨rfl, rfl⟩, trivial⟩, ?_⟩
    generalize hkv : (u.n ((i' : Int) + 2)).1 = kv at hr hx
    obtain ⟨a, ha⟩ : ∃ a, L[kv.toNat]? = some a := ⟨_, List.getElem?_eq_getElem (by omega)⟩
    obtain ⟨b, hb⟩ : ∃ b, L[i' + 1]? = some b := ⟨_, List.getElem?_eq_getElem (by omega)⟩
    repeat (first | refine And.intro (by rfl) ?_ | refine litA ?_ | refine litB ?_ | refine litC ?_ | refine litD ?_ | refine And.intro trivial ?_ | refine And.intro (keptI (by repeat' (first | refine And.intro ?_ ?_ | exact True.intro | rfl | (simp; done)))) ?_)
    refine ⟨hr.1, by simp [hL]; omega, ?_⟩
    repeat (first | refine And.intro (by rfl) ?_ | refine litA ?_ | refine litB ?_ | refine litC ?_ | refine litD ?_ | refine And.intro trivial ?_ | refine And.intro (keptI (by repeat' (first | refine And.intro ?_ ?_ | exact True.intro | rfl | (simp; done)))) ?_)
    refine ⟨[I a], by rw [List.getElem?_map, ha]; rfl, ?_⟩
    repeat (first | refine And.intro (by rfl) ?_ | refine litA ?_ | refine litB ?_ | refine litC ?_ | refine litD ?_ | refine And.intro trivial ?_ | refine And.intro (keptI (by repeat' (first | refine And.intro ?_ ?_ | exact True.intro | rfl | (simp; done)))) ?_)
    refine ⟨by simp; omega, by simp [hL]; omega, ?_⟩
    repeat (first | refine And.intro (by rfl) ?_ | refine litA ?_ | refine litB ?_ | refine litC ?_ | refine litD ?_ | refine And.intro trivial ?_ | refine And.intro (keptI (by repeat' (first | refine And.intro ?_ ?_ | exact True.intro | rfl | (simp; done)))) ?_)
    refine ⟨[I b], by simp [hb], ?_⟩
    repeat (first | refine And.intro (by rfl) ?_ | refine litA ?_ | refine litB ?_ | refine litC ?_ | refine litD ?_ | refine And.intro trivial ?_ | refine And.intro (keptI (by repeat' (first | refine And.intro ?_ ?_ | exact True.intro | rfl | (simp; done)))) ?_)
    refine ⟨by simp; omega, by simp [hL]; omega, ?_⟩
    repeat (first | refine And.intro (by rfl) ?_ | refine litA ?_ | refine litB ?_ | refine litC ?_ | refine litD ?_ | refine And.intro trivial ?_ | refine And.intro (keptI (by repeat' (first | refine And.intro ?_ ?_ | exact True.intro | rfl | (simp; done)))) ?_)
    refine ⟨[I b], by simp [hb], rfl, rfl, rfl, ?_⟩
    repeat (first | refine And.intro (by rfl) ?_ | refine litA ?_ | refine litB ?_ | refine litC ?_ | refine litD ?_ | refine And.intro trivial ?_ | refine And.intro (keptI (by repeat' (first | refine And.intro ?_ ?_ | exact True.intro | rfl | (simp; done)))) ?_)
    refine ⟨by simp, hr.1, by simp [hL]; omega, ?_⟩
    repeat (first | refine And.intro (by rfl) ?_ | refine litA ?_ | refine litB ?_ | refine litC ?_ | refine litD ?_ | refine And.intro trivial ?_ | refine And.intro (keptI (by repeat' (first | refine And.intro ?_ ?_ | exact True.intro | rfl | (simp; done)))) ?_)
    have hga : ((L.map fun x => [I x]).set (i' + 1) [I a])[kv.toNat]? = some [I a] := by
      rw [List.getElem?_set]
      split
      · simp [hL]; omega
      · rw [List.getElem?_map, ha]; rfl
    refine ⟨by simp, [I a], hga, rfl, rfl, rfl, ?_⟩
    repeat (first | refine And.intro (by rfl) ?_ | refine litA ?_ | refine litB ?_ | refine litC ?_ | refine litD ?_ | refine And.intro trivial ?_ | refine And.intro (keptI (by repeat' (first | refine And.intro ?_ ?_ | exact True.intro | rfl | (simp; done)))) ?_)
    have hsw : swapL L (i' + 1) kv.toNat = (L.set (i' + 1) a).set kv.toNat b := by
      simp only [swapL, List.getD_eq_getElem?_getD, ha, hb, Option.getD_some]
    have es : ((L.map fun x => [I x]).set (i' + 1) [I a]).set kv.toNat [I b] = (swapL L (i' + 1) kv.toNat).map fun x => [I x] := by
      rw [hsw, List.map_set, List.map_set]
    have el : (L.map fun x => [I x]).length = ((swapL L (i' + 1) kv.toNat).map fun x => [I x]).length := by rw [hsw]; simp
    refine ⟨⟨(i', swapL L (i' + 1) kv.toNat, (u.n ((i' : Int) + 2)).2), by dsimp only; omega, by rw [hsw]; simp [hL], hx⟩, ?_, ?_⟩
    · repeat' (first | refine fitE_ls rfl rfl ?_ | refine fitC_ls rfl ?_ | refine fitE_ls (congrArg (PV.ls 18000) el) rfl ?_ | exact congrArg I em | exact congrArg (fun m => Obj.row 3 1 m false) es | refine And.intro ?_ ?_ | exact True.intro | rfl | exact ⟨_, _, rfl, rfl⟩ | exact ⟨_, _, rfl⟩ | decide | (simp [St.get, St.obj, look, lookD, unI, List.map_take]; done))
    · dsimp only; omega
  have hk' : k < n := by simp at h; omega
  have e : IntKind.i64.wrap ((k : Int) + 1) = ((k + 1 : Nat) : Int) := by rw [wrap_id] <;> omega
  have hs : rangeI (k + 1) = rangeI k ++ [(k : Int)] := by simp [rangeI, List.range_succ]
  have hlk : (rangeI k).length = k := by simp [rangeI]
  repeat (first | refine And.intro (by rfl) ?_ | refine litA ?_ | refine litB ?_ | refine litC ?_ | refine litD ?_ | refine And.intro trivial ?_ | refine And.intro (keptI (by repeat' (first | refine And.intro ?_ ?_ | exact True.intro | rfl | (simp; done)))) ?_)
  refine ⟨(show ((rangeI k).map fun x => [I x]).length + 1 ≤ 1073741824 by simp [hlk]; omega), rfl, ?_⟩
  repeat (first | refine And.intro (by rfl) ?_ | refine litA ?_ | refine litB ?_ | refine litC ?_ | refine litD ?_ | refine And.intro trivial ?_ | refine And.intro (keptI (by repeat' (first | refine And.intro ?_ ?_ | exact True.intro | rfl | (simp; done)))) ?_)
  have el : ((rangeI k).map fun x => [I x]).length + 1 = ((rangeI (k + 1)).map fun x => [I x]).length := by rw [hs]; simp
  have eo : ((rangeI k).map fun x => [I x]) ++ [[I k]] = (rangeI (k + 1)).map fun x => [I x] := by rw [hs]; simp
  refine ⟨⟨k + 1, hk'⟩, ?_, ?_⟩
  · repeat' (first | refine fitE_ls rfl rfl ?_ | refine fitC_ls rfl ?_ | refine fitE_ls (congrArg (PV.ls 18000) el) rfl ?_ | exact congrArg I e | exact congrArg (fun m => Obj.row 3 1 m false) eo | refine And.intro ?_ ?_ | exact True.intro | rfl | exact ⟨_, _, rfl, rfl⟩ | exact ⟨_, _, rfl⟩ | decide | (simp [St.get, St.obj, look, lookD, unI, List.map_take]; done))
  · dsimp only; omega
set_option maxRecDepth 10000
/-! make.trust, Trust -/
def Tape.range (t : Tape) (a b : Int) : Int × Tape := (a + (t.n (b - a + 1)).1, (t.n (b - a + 1)).2)
theorem f50r_ok (t : Tape) (a b : Int) (h1 : -1000000000000 ≤ a) (h2 : a ≤ b) (h3 : b ≤ 1000000000000) : C 50 [.mp (encTp t), I a, I b] (I (t.range a b).1) [(0, .box (encTp (t.range a b).2) false)] := f50_ok t a b h1 h2 h3
theorem Tape.range_in (t : Tape) {a b : Int} (h : a ≤ b) : a ≤ (t.range a b).1 ∧ (t.range a b).1 ≤ b := by
  have := t.n_range (n := b - a + 1) (by omega)
  simp only [Tape.range]; omega
theorem swapL_len (l : List Int) (i k : Nat) : (swapL l i k).length = l.length := by simp [swapL]
theorem orderP_len (m : Nat) : ∀ (t : Tape) (l : List Int), (orderP t l m).1.length = l.length := by
  induction m with
  | zero => intro t l; rfl
  | succ m ih => intro t l; rw [orderP, ih, swapL_len]
theorem rangeI_len (n : Nat) : (rangeI n).length = n := by simp [rangeI]
def nodesT (n : Nat) (t : Tape) : List Int × Tape :=
  ((orderP t (rangeI n) (n - 1)).1.take ((orderP t (rangeI n) (n - 1)).2.range 1 (min n 5)).1.toNat, ((orderP t (rangeI n) (n - 1)).2.range 1 (min n 5)).2)
def trust1 (n : Nat) (t : Tape) : Trust × Tape := (.mk ((nodesT n t).2.range 1 (nodesT n t).1.length).1 (nodesT n t).1 [], ((nodesT n t).2.range 1 (nodesT n t).1.length).2)
theorem nodesT_len (n : Nat) (t : Tape) (h : 0 < n) : 1 ≤ (nodesT n t).1.length ∧ (nodesT n t).1.length ≤ n := by
  have h1 := (orderP t (rangeI n) (n - 1)).2.range_in (a := 1) (b := min n 5) (by omega)
  simp only [nodesT, List.length_take, orderP_len, rangeI_len]
  omega
theorem trust1_small (n : Nat) (t : Tape) (h : 0 < n) (h2 : n ≤ 10) : smallT 10 (trust1 n t).1 := by
  have := nodesT_len n t h
  exact ⟨by omega, by simp, trivial⟩
theorem f92a_ok (t : Tape) (n : Nat) (h : 0 < n) (h2 : n ≤ 10) : C 92 [.mp (encTp t), I n, I 1] (.agg (encT (trust1 n t).1)) [(0, .box (encTp (trust1 n t).2) false)] := by
  have hl := nodesT_len n t h
  have hR : nodesT n t = nodesT n t := rfl
  conv at hR => lhs; rw [nodesT]
  generalize hT1 : trust1 n t = T1
  rw [trust1] at hT1
  have h18 := f18_ok t n h (by omega)
  have hol := orderP_len (n - 1) t (rangeI n)
  rw [rangeI_len] at hol
  generalize orderP t (rangeI n) (n - 1) = O at hR h18 hol
  have hrg := O.2.range_in (a := 1) (b := min n 5) (by omega)
  have h50 := f50r_ok O.2 1 (min (n : Int) 5) (by decide) (by omega) (by omega)
  generalize nodesT n t = N at *
  subst hR
  dsimp only at hl hT1
  have h50b := f50r_ok (O.2.range 1 (min n 5)).2 1 ((O.1.take (O.2.range 1 (min n 5)).1.toNat).length : Nat) (by decide) (by omega) (by omega)
  generalize O.2.range 1 (min n 5) = S at *
  refine fn_ok (G := G) tabOK hm pl92 Tryz.func92 rfl (by kernel_rfl) (by kernel_rfl) rfl rfl ?_
  repeat (first | refine And.intro (by rfl) ?_ | refine litA ?_ | refine litB ?_ | refine litC ?_ | refine litD ?_ | refine And.intro trivial ?_ | refine And.intro (keptI (by repeat' (first | refine And.intro ?_ ?_ | exact True.intro | rfl | (simp; done)))) ?_)
  refine ⟨_, _, h18, rfl, rfl, ⟨⟨rfl, rfl⟩, trivial⟩, ?_⟩
  repeat (first | refine And.intro (by rfl) ?_ | refine litA ?_ | refine litB ?_ | refine litC ?_ | refine litD ?_ | refine And.intro trivial ?_ | refine And.intro (keptI (by repeat' (first | refine And.intro ?_ ?_ | exact True.intro | rfl | (simp; done)))) ?_)
  refine ⟨_, _, h50, rfl, rfl, ⟨⟨rfl, rfl⟩, trivial⟩, ?_⟩
  repeat (first | refine And.intro (by rfl) ?_ | refine litA ?_ | refine litB ?_ | refine litC ?_ | refine litD ?_ | refine And.intro trivial ?_ | refine And.intro (keptI (by repeat' (first | refine And.intro ?_ ?_ | exact True.intro | rfl | (simp; done)))) ?_)
  refine .inl ?_
  repeat (first | refine And.intro (by rfl) ?_ | refine litA ?_ | refine litB ?_ | refine litC ?_ | refine litD ?_ | refine And.intro trivial ?_ | refine And.intro (keptI (by repeat' (first | refine And.intro ?_ ?_ | exact True.intro | rfl | (simp; done)))) ?_)
  refine ⟨by decide, by omega, by simp [hol]; omega, ?_⟩
  repeat (first | refine And.intro (by rfl) ?_ | refine litA ?_ | refine litB ?_ | refine litC ?_ | refine litD ?_ | refine And.intro trivial ?_ | refine And.intro (keptI (by repeat' (first | refine And.intro ?_ ?_ | exact True.intro | rfl | (simp; done)))) ?_)
  have es : List.drop (Int.toNat 0) (List.take (Int.toNat S.1) (O.1.map fun x => [I x])) = (O.1.take S.1.toNat).map fun x => [I x] := by simp [List.map_take]
  generalize O.1.take S.1.toNat = L at *
  refine loop_ok (G := G) tabOK hm pl92 (α := {k : Nat // k ≤ L.length ∧ True}) (fun k => ⟨73, [(22, I k.1), (21, I (L.map fun x => [I x]).length), (20, encI L), (7, .loc 8000 0), (6, .loc 7000 0), (0, .loc 1500 0), (1, I n), (2, I 1)], [(8000, .box [I 0, .ls 31000 k.1, .nils] false), (7000, .box [I 0, .nils, .nils] false), (1500, .box (encTp S.2) false), (31000, .row 3 1 ((L.take k.1).map fun x => [I x]) false)]⟩) (fun k => L.length - k.1) (by kernel_rfl) ⟨0, Nat.zero_le _, by first | rfl | simp⟩ ?_ ?_
  · repeat' (first | refine fitE_ls rfl rfl ?_ | refine fitC_ls rfl ?_ | exact congrArg (PV.sl none 1) es | exact congrArg (fun m : List (List PV) => I (m.length : Nat)) es | refine And.intro ?_ ?_ | exact True.intro | rfl | exact ⟨_, _, rfl, rfl⟩ | exact ⟨_, _, rfl⟩ | decide | (simp [St.get, St.obj, look, lookD, unI, List.map_take]; done))
  rintro ⟨k, hk, hx⟩
  repeat (first | refine And.intro (by rfl) ?_ | refine litA ?_ | refine litB ?_ | refine litC ?_ | refine litD ?_ | refine And.intro trivial ?_ | refine And.intro (keptI (by repeat' (first | refine And.intro ?_ ?_ | exact True.intro | rfl | (simp; done)))) ?_)
  refine And.intro (fun h => ?_) (fun h => ?_)
  rotate_left
  · have hl : L.length ≤ k := by simpa using h
    repeat (first | refine And.intro (by rfl) ?_ | refine litA ?_ | refine litB ?_ | refine litC ?_ | refine litD ?_ | refine And.intro trivial ?_ | refine And.intro (keptI (by repeat' (first | refine And.intro ?_ ?_ | exact True.intro | rfl | (simp; done)))) ?_)
    have ek : L.take k = L := List.take_of_length_le hl
    try rw [ek] at hx
    have ekl : k = L.length := by omega
    have h50c : C 50 [.mp (encTp S.2), I 1, I (IntKind.i64.wrap ((k : Int) + 0))] (I (S.2.range 1 L.length).1) [(0, .box (encTp (S.2.range 1 L.length).2) false)] := by
      rw [wrap_id (by omega) (by omega), ekl, Int.add_zero]; exact h50b
    refine ⟨_, _, h50c, rfl, rfl, ⟨⟨rfl, rfl⟩, trivial⟩, ?_⟩
    repeat (first | refine And.intro (by rfl) ?_ | refine litA ?_ | refine litB ?_ | refine litC ?_ | refine litD ?_ | refine And.intro trivial ?_ | refine And.intro (keptI (by repeat' (first | refine And.intro ?_ ?_ | exact True.intro | rfl | (simp; done)))) ?_)
    have hkl : k = ((L.take k).map fun x => [I x]).length := by simp; omega
    subst hT1
    repeat' (first | refine And.intro ?_ ?_ | exact .inl rfl | rfl | exact .inr ⟨rfl, _, rfl⟩ | exact hkl | exact .inl (by rw [ek]))
  have hk' : k < L.length := by simpa using h
  obtain ⟨y, hy⟩ : ∃ y, L[k]? = some y := ⟨_, List.getElem?_eq_getElem hk'⟩
  have e : IntKind.i64.wrap ((k : Int) + 1) = ((k + 1 : Nat) : Int) := by rw [wrap_id] <;> omega
  have et : L.take (k + 1) = L.take k ++ [y] := by rw [List.take_add_one, hy]; rfl
  repeat (first | refine And.intro (by rfl) ?_ | refine litA ?_ | refine litB ?_ | refine litC ?_ | refine litD ?_ | refine And.intro trivial ?_ | refine And.intro (keptI (by repeat' (first | refine And.intro ?_ ?_ | exact True.intro | rfl | (simp; done)))) ?_)
  refine ⟨by simp, [I y], by simp [hy], ?_⟩
  repeat (first | refine And.intro (by rfl) ?_ | refine litA ?_ | refine litB ?_ | refine litC ?_ | refine litD ?_ | refine And.intro trivial ?_ | refine And.intro (keptI (by repeat' (first | refine And.intro ?_ ?_ | exact True.intro | rfl | (simp; done)))) ?_)
  have eo : (L.take k).map (fun x => [I x]) ++ [[I y]] = (L.take (k + 1)).map fun x => [I x] := by rw [et]; simp
  refine ⟨by simp; omega, (show k + 1 ≤ 1073741824 by omega), rfl, ?_⟩
  repeat (first | refine And.intro (by rfl) ?_ | refine litA ?_ | refine litB ?_ | refine litC ?_ | refine litD ?_ | refine And.intro trivial ?_ | refine And.intro (keptI (by repeat' (first | refine And.intro ?_ ?_ | exact True.intro | rfl | (simp; done)))) ?_)
  refine ⟨⟨k + 1, hk', trivial⟩, ?_, ?_⟩
  · repeat' (first | refine fitE_ls rfl rfl ?_ | refine fitC_ls rfl ?_ | exact congrArg I e | exact congrArg (fun m => Obj.row 3 1 m false) eo | refine And.intro ?_ ?_ | exact True.intro | rfl | exact ⟨_, _, rfl, rfl⟩ | exact ⟨_, _, rfl⟩ | decide | (simp [St.get, St.obj, look, lookD, unI, List.map_take]; done))
  · dsimp only; omega
def manyT (f : Tape → Trust × Tape) : Nat → Tape → List Trust × Tape
  | 0, t => ([], t)
  | k + 1, t => ((manyT f k t).1 ++ [(f (manyT f k t).2).1], (f (manyT f k t).2).2)
theorem manyT_len (f : Tape → Trust × Tape) (k : Nat) (t : Tape) : (manyT f k t).1.length = k := by
  induction k with
  | zero => rfl
  | succ k ih => simp [manyT, ih]
/-- The inner trusts of a trust of two levels, and the nodes that stay. -/
def innerT (n : Nat) (t : Tape) : List Trust × Tape := manyT (trust1 n) (t.pick [0, 0, 1, 1, 2, 3]).1.toNat (t.pick [0, 0, 1, 1, 2, 3]).2
def stayT (n : Nat) (N : List Int × Tape) : List Int × Tape :=
  if 0 < (innerT n N.2).1.length then ((if ((innerT n N.2).2.n 3).1 = 0 then [] else N.1), ((innerT n N.2).2.n 3).2) else (N.1, (innerT n N.2).2)
def trust2 (n : Nat) (t : Tape) : Trust × Tape :=
  (.mk ((stayT n (nodesT n t)).2.range 1 (((stayT n (nodesT n t)).1.length + (innerT n (nodesT n t).2).1.length : Nat) : Int)).1 (stayT n (nodesT n t)).1 (innerT n (nodesT n t).2).1,
    ((stayT n (nodesT n t)).2.range 1 (((stayT n (nodesT n t)).1.length + (innerT n (nodesT n t).2).1.length : Nat) : Int)).2)
theorem Tape.pick_mem (t : Tape) {l : List Int} (h : l ≠ []) : (t.pick l).1 ∈ l := by
  have hl : 0 < l.length := List.length_pos_iff.2 h
  have := t.n_range (n := l.length) (by omega)
  have hi : (t.n l.length).1.toNat < l.length := by omega
  simp only [Tape.pick, List.getD_eq_getElem?_getD, List.getElem?_eq_getElem hi, Option.getD_some]
  exact List.getElem_mem hi
theorem innerT_len (n : Nat) (t : Tape) : (innerT n t).1.length ≤ 3 ∧ ((innerT n t).1.length : Int) = (t.pick [0, 0, 1, 1, 2, 3]).1 := by
  have h := t.pick_mem (l := [0, 0, 1, 1, 2, 3]) (by simp)
  rw [innerT, manyT_len]
  simp at h
  rcases h with h | h | h | h <;> rw [h] <;> decide
theorem manyT_small (n : Nat) (h : 0 < n) (h2 : n ≤ 10) (k : Nat) (t : Tape) : smallTs 10 (manyT (trust1 n) k t).1 := by
  induction k with
  | zero => trivial
  | succ k ih =>
    have : ∀ a b, smallTs 10 a → smallT 10 b → smallTs 10 (a ++ [b]) := by
      intro a b ha hb
      induction a with
      | nil => exact ⟨hb, trivial⟩
      | cons x a ih => exact ⟨ha.1, ih ha.2⟩
    exact this _ _ ih (trust1_small n _ h h2)
theorem smallT_mono {a b : Nat} (h : a ≤ b) (x : Trust) (hx : smallT a x) : smallT b x := by
  induction x using Trust.ind with
  | h t n i ih =>
    refine ⟨Nat.le_trans hx.1 h, Nat.le_trans hx.2.1 h, ?_⟩
    have hi := hx.2.2
    clear hx
    induction i with
    | nil => trivial
    | cons y i ih2 => exact ⟨ih y (by simp) hi.1, ih2 (fun z hz => ih z (by simp [hz])) hi.2⟩
theorem trust2_small (n : Nat) (t : Tape) (h : 0 < n) (h2 : n ≤ 10) : smallT 10 (trust2 n t).1 := by
  have h3 := nodesT_len n t h
  have h4 := innerT_len n (nodesT n t).2
  refine ⟨?_, by omega, manyT_small n h h2 _ _⟩
  unfold stayT
  split
  · dsimp only
    split
    · simp
    · omega
  · dsimp only; omega
theorem f92b_ok (t : Tape) (n : Nat) (h : 0 < n) (h2 : n ≤ 10) : C 92 [.mp (encTp t), I n, I 2] (.agg (encT (trust2 n t).1)) [(0, .box (encTp (trust2 n t).2) false)] := by
  have hl := nodesT_len n t h
  have hR : nodesT n t = nodesT n t := rfl
  conv at hR => lhs; rw [nodesT]
  generalize hT1 : trust2 n t = T1
  rw [trust2] at hT1
  have h18 := f18_ok t n h (by omega)
  have hol := orderP_len (n - 1) t (rangeI n)
  rw [rangeI_len] at hol
  generalize orderP t (rangeI n) (n - 1) = O at hR h18 hol
  have hrg := O.2.range_in (a := 1) (b := min n 5) (by omega)
  have h50 := f50r_ok O.2 1 (min (n : Int) 5) (by decide) (by omega) (by omega)
  generalize nodesT n t = N at *
  subst hR
  dsimp only at hl hT1
  generalize O.2.range 1 (min n 5) = S at *
  have h50g : ∀ (u : Tape) (a b : Nat), 1 ≤ a + b → a ≤ 10 → b ≤ 3 → C 50 [.mp (encTp u), I 1, I (IntKind.i64.wrap ((a : Int) + b))] (I (u.range 1 ((a + b : Nat) : Int)).1) [(0, .box (encTp (u.range 1 ((a + b : Nat) : Int)).2) false)] := by
    intro u a b h1 h2 h3
    rw [wrap_id (by omega) (by omega)]
    exact f50r_ok u 1 ((a + b : Nat) : Int) (by decide) (by omega) (by omega)
  refine fn_ok (G := G) tabOK hm pl92 Tryz.func92 rfl (by kernel_rfl) (by kernel_rfl) rfl rfl ?_
  repeat (first | refine And.intro (by rfl) ?_ | refine litA ?_ | refine litB ?_ | refine litC ?_ | refine litD ?_ | refine And.intro trivial ?_ | refine And.intro (keptI (by repeat' (first | refine And.intro ?_ ?_ | exact True.intro | rfl | (simp; done)))) ?_)
  refine ⟨_, _, h18, rfl, rfl, ⟨⟨rfl, rfl⟩, trivial⟩, ?_⟩
  repeat (first | refine And.intro (by rfl) ?_ | refine litA ?_ | refine litB ?_ | refine litC ?_ | refine litD ?_ | refine And.intro trivial ?_ | refine And.intro (keptI (by repeat' (first | refine And.intro ?_ ?_ | exact True.intro | rfl | (simp; done)))) ?_)
  refine ⟨_, _, h50, rfl, rfl, ⟨⟨rfl, rfl⟩, trivial⟩, ?_⟩
  repeat (first | refine And.intro (by rfl) ?_ | refine litA ?_ | refine litB ?_ | refine litC ?_ | refine litD ?_ | refine And.intro trivial ?_ | refine And.intro (keptI (by repeat' (first | refine And.intro ?_ ?_ | exact True.intro | rfl | (simp; done)))) ?_)
  refine .inl ?_
  repeat (first | refine And.intro (by rfl) ?_ | refine litA ?_ | refine litB ?_ | refine litC ?_ | refine litD ?_ | refine And.intro trivial ?_ | refine And.intro (keptI (by repeat' (first | refine And.intro ?_ ?_ | exact True.intro | rfl | (simp; done)))) ?_)
  refine ⟨by decide, by omega, by simp [hol]; omega, ?_⟩
  repeat (first | refine And.intro (by rfl) ?_ | refine litA ?_ | refine litB ?_ | refine litC ?_ | refine litD ?_ | refine And.intro trivial ?_ | refine And.intro (keptI (by repeat' (first | refine And.intro ?_ ?_ | exact True.intro | rfl | (simp; done)))) ?_)
  have es : List.drop (Int.toNat 0) (List.take (Int.toNat S.1) (O.1.map fun x => [I x])) = (O.1.take S.1.toNat).map fun x => [I x] := by simp [List.map_take]
  generalize O.1.take S.1.toNat = L at *
  refine loop_ok (G := G) tabOK hm pl92 (α := {k : Nat // k ≤ L.length ∧ True}) (fun k => ⟨73, [(22, I k.1), (21, I (L.map fun x => [I x]).length), (20, encI L), (7, .loc 8000 0), (6, .loc 7000 0), (0, .loc 1500 0), (1, I n), (2, I 2)], [(8000, .box [I 0, .ls 31000 k.1, .nils] false), (7000, .box [I 0, .nils, .nils] false), (1500, .box (encTp S.2) false), (31000, .row 3 1 ((L.take k.1).map fun x => [I x]) false)]⟩) (fun k => L.length - k.1) (by kernel_rfl) ⟨0, Nat.zero_le _, by first | rfl | simp⟩ ?_ ?_
  · repeat' (first | refine fitE_ls rfl rfl ?_ | refine fitC_ls rfl ?_ | exact congrArg (PV.sl none 1) es | exact congrArg (fun m : List (List PV) => I (m.length : Nat)) es | refine And.intro ?_ ?_ | exact True.intro | rfl | exact ⟨_, _, rfl, rfl⟩ | exact ⟨_, _, rfl⟩ | decide | (simp [St.get, St.obj, look, lookD, unI, List.map_take]; done))
  rintro ⟨k, hk, hx⟩
  repeat (first | refine And.intro (by rfl) ?_ | refine litA ?_ | refine litB ?_ | refine litC ?_ | refine litD ?_ | refine And.intro trivial ?_ | refine And.intro (keptI (by repeat' (first | refine And.intro ?_ ?_ | exact True.intro | rfl | (simp; done)))) ?_)
  refine And.intro (fun h => ?_) (fun h => ?_)
  rotate_left
  · have hl : L.length ≤ k := by simpa using h
    repeat (first | refine And.intro (by rfl) ?_ | refine litA ?_ | refine litB ?_ | refine litC ?_ | refine litD ?_ | refine And.intro trivial ?_ | refine And.intro (keptI (by repeat' (first | refine And.intro ?_ ?_ | exact True.intro | rfl | (simp; done)))) ?_)
    have ek : L.take k = L := List.take_of_length_le hl
    try rw [ek] at hx
    have ekl : k = L.length := by omega
    subst ekl
    have hin := innerT_len n S.2
    have hst : stayT n (L, S.2) = stayT n (L, S.2) := rfl
    conv at hst => lhs; rw [stayT]
    dsimp only at hst
    have hinn : innerT n S.2 = innerT n S.2 := rfl
    conv at hinn => lhs; rw [innerT]
    have hp := S.2.pick_mem (l := [0, 0, 1, 1, 2, 3]) (by simp)
    have h56 := f56_ok S.2 [0, 0, 1, 1, 2, 3] (by simp)
    generalize S.2.pick [0, 0, 1, 1, 2, 3] = Q at *
    generalize stayT n (L, S.2) = Y at *
    obtain ⟨m, hmq⟩ : ∃ m : Nat, Q.1 = m := ⟨Q.1.toNat, by simp at hp; omega⟩
    have hm3 : m ≤ 3 := by simp at hp; omega
    rw [hmq] at hinn h56
    simp only [Int.toNat_natCast] at hinn
    refine ⟨_, _, h56, rfl, rfl, ⟨⟨rfl, rfl⟩, trivial⟩, ?_⟩
    repeat (first | refine And.intro (by rfl) ?_ | refine litA ?_ | refine litB ?_ | refine litC ?_ | refine litD ?_ | refine And.intro trivial ?_ | refine And.intro (keptI (by repeat' (first | refine And.intro ?_ ?_ | exact True.intro | rfl | (simp; done)))) ?_)
    have hml := manyT_len (trust1 n) m Q.2
    rw [← hinn] at hT1 hst hin
    rw [hml] at hT1 hst
    refine loop_ok (G := G) tabOK hm pl92 (α := {k : Nat // k ≤ m}) (fun k => ⟨73, [(11, I ((m - k.1 : Nat) : Int)), (7, .loc 8000 0), (6, .loc 7000 0), (0, .loc 1500 0), (1, I n), (2, I 2)], [(8000, .box [I 0, .ls 31000 L.length, .ls 51000 k.1] false), (7000, .box [I 0, .nils, .nils] false), (1500, .box (encTp (manyT (trust1 n) k.1 Q.2).2) false), (31000, .row 3 1 (L.map fun x => [I x]) false), (51000, .row 27 3 (encTs (manyT (trust1 n) k.1 Q.2).1) false)]⟩) (fun k => m - k.1) (by kernel_rfl) ⟨0, Nat.zero_le _⟩ ?_ ?_
    · repeat' (first | refine fitE_ls rfl rfl ?_ | refine fitC_ls rfl ?_ | exact congrArg (fun m => Obj.row 3 1 (m.map fun x => [I x]) false) ek | refine And.intro ?_ ?_ | exact True.intro | rfl | exact ⟨_, _, rfl, rfl⟩ | exact ⟨_, _, rfl⟩ | decide | (simp [St.get, St.obj, look, lookD, unI, List.map_take]; done))
    rintro ⟨k, hk⟩
    repeat (first | refine And.intro (by rfl) ?_ | refine litA ?_ | refine litB ?_ | refine litC ?_ | refine litD ?_ | refine And.intro trivial ?_ | refine And.intro (keptI (by repeat' (first | refine And.intro ?_ ?_ | exact True.intro | rfl | (simp; done)))) ?_)
    refine And.intro (fun h => ?_) (fun h => ?_)
    rotate_left
    · have hkm : k = m := by simp at h; omega
      subst hkm
      repeat' (first | refine And.intro (by rfl) ?_ | refine litA ?_ | refine litB ?_ | refine litC ?_ | refine litD ?_ | refine And.intro trivial ?_ | refine And.intro (keptI (by repeat' (first | refine And.intro ?_ ?_ | exact True.intro | rfl | (simp; done)))) ?_ | (refine And.intro ?_ ?_ <;> intro h))
      · have hk0 : 0 < k := by simpa using h
        rw [if_pos hk0] at hst
        refine ⟨_, _, f17_ok (manyT (trust1 n) k Q.2).2 3 (by decide) (by decide), rfl, rfl, ⟨⟨rfl, rfl⟩, trivial⟩, ?_⟩
        repeat' (first | refine And.intro (by rfl) ?_ | refine litA ?_ | refine litB ?_ | refine litC ?_ | refine litD ?_ | refine And.intro trivial ?_ | refine And.intro (keptI (by repeat' (first | refine And.intro ?_ ?_ | exact True.intro | rfl | (simp; done)))) ?_ | (refine And.intro ?_ ?_ <;> intro h))
        · have h0 : ((manyT (trust1 n) k Q.2).2.n 3).1 = 0 := by simpa using h
          rw [if_pos h0] at hst
          subst hst
          subst hT1
          refine ⟨_, _, h50g _ 0 k (by omega) (by omega) hm3, rfl, rfl, ⟨⟨rfl, rfl⟩, trivial⟩, ?_⟩
          repeat (first | refine And.intro (by rfl) ?_ | refine litA ?_ | refine litB ?_ | refine litC ?_ | refine litD ?_ | refine And.intro trivial ?_ | refine And.intro (keptI (by repeat' (first | refine And.intro ?_ ?_ | exact True.intro | rfl | (simp; done)))) ?_)
          repeat' (first | refine And.intro ?_ ?_ | exact .inl rfl | rfl | exact .inr ⟨rfl, _, rfl⟩ | (dsimp only; rw [encTs_len, hml]))
        · have h0 : ¬ ((manyT (trust1 n) k Q.2).2.n 3).1 = 0 := by simpa using h
          rw [if_neg h0] at hst
          subst hst
          subst hT1
          refine ⟨_, _, h50g _ L.length k (by omega) (by omega) hm3, rfl, rfl, ⟨⟨rfl, rfl⟩, trivial⟩, ?_⟩
          repeat (first | refine And.intro (by rfl) ?_ | refine litA ?_ | refine litB ?_ | refine litC ?_ | refine litD ?_ | refine And.intro trivial ?_ | refine And.intro (keptI (by repeat' (first | refine And.intro ?_ ?_ | exact True.intro | rfl | (simp; done)))) ?_)
          repeat' (first | refine And.intro ?_ ?_ | exact .inl rfl | rfl | exact .inr ⟨rfl, _, rfl⟩ | (dsimp only; rw [encTs_len, hml]) | (simp; done))
      · have hk0 : k = 0 := by simp at h; omega
        subst hk0
        rw [if_neg (by omega)] at hst
        subst hst
        subst hT1
        refine ⟨_, _, h50g _ L.length 0 (by omega) (by omega) hm3, rfl, rfl, ⟨⟨rfl, rfl⟩, trivial⟩, ?_⟩
        repeat (first | refine And.intro (by rfl) ?_ | refine litA ?_ | refine litB ?_ | refine litC ?_ | refine litD ?_ | refine And.intro trivial ?_ | refine And.intro (keptI (by repeat' (first | refine And.intro ?_ ?_ | exact True.intro | rfl | (simp; done)))) ?_)
        repeat' (first | refine And.intro ?_ ?_ | exact .inl rfl | rfl | exact .inr ⟨rfl, _, rfl⟩ | (dsimp only; rw [encTs_len, hml]) | (simp; done))
    have hk' : k < m := by simp at h; omega
    have h92 := f92a_ok (manyT (trust1 n) k Q.2).2 n ‹0 < n› h2
    have em : IntKind.i64.wrap (((m - k : Nat) : Int) - 1) = ((m - (k + 1) : Nat) : Int) := by rw [wrap_id] <;> omega
    repeat (first | refine And.intro (by rfl) ?_ | refine litA ?_ | refine litB ?_ | refine litC ?_ | refine litD ?_ | refine And.intro trivial ?_ | refine And.intro (keptI (by repeat' (first | refine And.intro ?_ ?_ | exact True.intro | rfl | (simp; done)))) ?_)
    refine ⟨_, _, h92, rfl, rfl, ⟨⟨rfl, rfl⟩, trivial⟩, ?_⟩
    generalize hbT : trust1 n (manyT (trust1 n) k Q.2).2 = B at *
    obtain ⟨⟨bt, bn, bi⟩, bu⟩ := B
    repeat (first | refine And.intro (by rfl) ?_ | refine litA ?_ | refine litB ?_ | refine litC ?_ | refine litD ?_ | refine And.intro trivial ?_ | refine And.intro (keptI (by repeat' (first | refine And.intro ?_ ?_ | exact True.intro | rfl | (simp; done)))) ?_)
    have hkl := manyT_len (trust1 n) k Q.2
    have eo : encTs (manyT (trust1 n) k Q.2).1 ++ [encT (.mk bt bn bi)] = encTs (manyT (trust1 n) (k + 1) Q.2).1 := by rw [manyT, encTs_append, hbT]; rfl
    have et2 : bu = (manyT (trust1 n) (k + 1) Q.2).2 := by rw [manyT, hbT]
    refine ⟨by rw [encTs_len, hkl], (show k + 1 ≤ 1073741824 by omega), rfl, ?_⟩
    repeat (first | refine And.intro (by rfl) ?_ | refine litA ?_ | refine litB ?_ | refine litC ?_ | refine litD ?_ | refine And.intro trivial ?_ | refine And.intro (keptI (by repeat' (first | refine And.intro ?_ ?_ | exact True.intro | rfl | (simp; done)))) ?_)
    refine ⟨⟨k + 1, hk'⟩, ?_, ?_⟩
    · repeat' (first | refine fitE_ls rfl rfl ?_ | refine fitC_ls rfl ?_ | exact congrArg I em | exact congrArg (fun m => Obj.row 27 3 m false) eo | exact congrArg (fun m : Tape => encI m.l) et2 | exact congrArg (fun m : Tape => I (m.at_ : Nat)) et2 | refine And.intro ?_ ?_ | exact True.intro | rfl | exact ⟨_, _, rfl, rfl⟩ | exact ⟨_, _, rfl⟩ | decide | (simp [St.get, St.obj, look, lookD, unI, List.map_take]; done))
    · dsimp only; omega
  have hk' : k < L.length := by simpa using h
  obtain ⟨y, hy⟩ : ∃ y, L[k]? = some y := ⟨_, List.getElem?_eq_getElem hk'⟩
  have e : IntKind.i64.wrap ((k : Int) + 1) = ((k + 1 : Nat) : Int) := by rw [wrap_id] <;> omega
  have et : L.take (k + 1) = L.take k ++ [y] := by rw [List.take_add_one, hy]; rfl
  repeat (first | refine And.intro (by rfl) ?_ | refine litA ?_ | refine litB ?_ | refine litC ?_ | refine litD ?_ | refine And.intro trivial ?_ | refine And.intro (keptI (by repeat' (first | refine And.intro ?_ ?_ | exact True.intro | rfl | (simp; done)))) ?_)
  refine ⟨by simp, [I y], by simp [hy], ?_⟩
  repeat (first | refine And.intro (by rfl) ?_ | refine litA ?_ | refine litB ?_ | refine litC ?_ | refine litD ?_ | refine And.intro trivial ?_ | refine And.intro (keptI (by repeat' (first | refine And.intro ?_ ?_ | exact True.intro | rfl | (simp; done)))) ?_)
  have eo : (L.take k).map (fun x => [I x]) ++ [[I y]] = (L.take (k + 1)).map fun x => [I x] := by rw [et]; simp
  refine ⟨by simp; omega, (show k + 1 ≤ 1073741824 by omega), rfl, ?_⟩
  repeat (first | refine And.intro (by rfl) ?_ | refine litA ?_ | refine litB ?_ | refine litC ?_ | refine litD ?_ | refine And.intro trivial ?_ | refine And.intro (keptI (by repeat' (first | refine And.intro ?_ ?_ | exact True.intro | rfl | (simp; done)))) ?_)
  refine ⟨⟨k + 1, hk', trivial⟩, ?_, ?_⟩
  · repeat' (first | refine fitE_ls rfl rfl ?_ | refine fitC_ls rfl ?_ | exact congrArg I e | exact congrArg (fun m => Obj.row 3 1 m false) eo | refine And.intro ?_ ?_ | exact True.intro | rfl | exact ⟨_, _, rfl, rfl⟩ | exact ⟨_, _, rfl⟩ | decide | (simp [St.get, St.obj, look, lookD, unI, List.map_take]; done))
  · dsimp only; omega
set_option maxRecDepth 10000
/-! slices.DeleteFunc at claims, handed an own slice -/
theorem f178b_ok (l : List Claim) : C 178 [.sl (some 38) 2 (l.map encC), .fn 255 []] (I (idxOf (fun x => !x.ok) l)) [(0, .row 38 2 (l.map encC) false)] :=
  CallOK.borrow (f178_ok l 255 _ f255_ok) (by simp [plain]) rfl
theorem filter_take_succ {l : List Claim} {j : Nat} {y : Claim} (h : l[j]? = some y) : (l.take (j + 1)).filter Claim.ok = (l.take j).filter Claim.ok ++ if y.ok = true then [y] else [] := by
  rw [List.take_add_one, h, List.filter_append]
  simp [List.filter]
  split <;> simp_all
theorem take_set_snoc {r : List Claim} {i : Nat} {y : Claim} (hi : i < r.length) : (r.set i y).take (i + 1) = r.take i ++ [y] := by
  rw [List.take_add_one, List.take_set_of_le (Nat.le_refl _), List.getElem?_set, if_pos rfl, if_pos hi]; rfl
theorem f254_ok (l : List Claim) (hb : l.length ≤ 1073741824) : C 254 [.sl (some 38) 2 (l.map encC), .fn 255 []] (.sl (some 38) 2 ((l.filter Claim.ok).map encC)) := by
  refine fn_ok (G := G) tabOK hm D0 Tryz.func254 rfl (by kernel_rfl) (by kernel_rfl) rfl rfl ?_
  repeat (first | refine And.intro (by rfl) ?_ | refine litA ?_ | refine litB ?_ | refine litC ?_ | refine litD ?_ | refine And.intro trivial ?_ | refine And.intro (keptI (by repeat' (first | refine And.intro ?_ ?_ | exact True.intro | rfl | (simp; done)))) ?_)
  refine ⟨_, _, f178b_ok l, rfl, rfl, ⟨⟨rfl, rfl, rfl, rfl⟩, trivial⟩, ?_⟩
  cases hf : l.findIdx? (fun x => !x.ok) with
  | none =>
    have hi : idxOf (fun x : Claim => !x.ok) l = -1 := by rw [idxOf, hf]
    rw [hi]
    have hall : l.filter Claim.ok = l := by
      rw [List.filter_eq_self]
      intro x hx
      have := List.findIdx?_eq_none_iff.1 hf x hx
      simpa using this
    rw [hall]
    repeat (first | refine And.intro (by rfl) ?_ | refine litA ?_ | refine litB ?_ | refine litC ?_ | refine litD ?_ | refine And.intro trivial ?_ | refine And.intro (keptI (by repeat' (first | refine And.intro ?_ ?_ | exact True.intro | rfl | (simp; done)))) ?_)
    rfl
  | some i =>
    have hi : idxOf (fun x : Claim => !x.ok) l = i := by rw [idxOf, hf]
    rw [hi]
    obtain ⟨hil, hip, hib⟩ := List.findIdx?_eq_some_iff_getElem.1 hf
    have hpre : (l.take (i + 1)).filter Claim.ok = l.take i := by
      rw [filter_take_succ (List.getElem?_eq_getElem hil)]
      have h0 : l[i].ok = false := by simpa using hip
      rw [h0, if_neg (by simp), List.append_nil, List.filter_eq_self]
      intro x hx
      obtain ⟨k, hk, rfl⟩ := List.mem_take_iff_getElem.1 hx
      have := hib k (by omega)
      simpa using this
    have ei : IntKind.i64.wrap ((i : Int) + 1) = ((i + 1 : Nat) : Int) := by rw [wrap_id] <;> omega
    repeat (first | refine And.intro (by rfl) ?_ | refine litA ?_ | refine litB ?_ | refine litC ?_ | refine litD ?_ | refine And.intro trivial ?_ | refine And.intro (keptI (by repeat' (first | refine And.intro ?_ ?_ | exact True.intro | rfl | (simp; done)))) ?_)
    refine loop_ok (G := G) tabOK hm D0 (α := {q : Nat × List Claim // q.1 ≤ l.length ∧ q.2.length = l.length ∧ q.2.take ((l.take q.1).filter Claim.ok).length = (l.take q.1).filter Claim.ok ∧ q.2.drop q.1 = l.drop q.1})
      (fun q => ⟨42, [(6, I q.1.1), (5, I ((l.take q.1.1).filter Claim.ok).length), (0, .ls 1500 (q.1.2.map encC).length), (1, .fn 255 [])], [(1500, .row 38 2 (q.1.2.map encC) false)]⟩) (fun q => l.length - q.1.1) (by kernel_rfl)
      ⟨(i + 1, l), by dsimp only; omega, rfl, by dsimp only; rw [hpre, List.length_take, Nat.min_eq_left (by omega)], rfl⟩ ?_ ?_
    · repeat' (first | refine fitE_ls rfl rfl ?_ | refine fitC_ls rfl ?_ | exact congrArg I ei | exact congrArg I (by rw [hpre]; simp; omega) | refine And.intro ?_ ?_ | exact True.intro | rfl | exact ⟨_, _, rfl, rfl⟩ | exact ⟨_, _, rfl⟩ | decide | (simp [St.get, St.obj, look, lookD, unI, List.map_take]; done))
    rintro ⟨⟨j, r⟩, hj, hr, h1, h2⟩
    dsimp only at hj hr h1 h2
    have hcl : ((l.take j).filter Claim.ok).length ≤ j := Nat.le_trans (List.length_filter_le _ _) (by rw [List.length_take]; omega)
    repeat (first | refine And.intro (by rfl) ?_ | refine litA ?_ | refine litB ?_ | refine litC ?_ | refine litD ?_ | refine And.intro trivial ?_ | refine And.intro (keptI (by repeat' (first | refine And.intro ?_ ?_ | exact True.intro | rfl | (simp; done)))) ?_)
    refine And.intro (fun h => ?_) (fun h => ?_)
    rotate_left
    · have hl : l.length ≤ j := by simp [hr] at h; omega
      have hfl : l.take j = l := List.take_of_length_le hl
      repeat (first | refine And.intro (by rfl) ?_ | refine litA ?_ | refine litB ?_ | refine litC ?_ | refine litD ?_ | refine And.intro trivial ?_ | refine And.intro (keptI (by repeat' (first | refine And.intro ?_ ?_ | exact True.intro | rfl | (simp; done)))) ?_)
      refine .inr ⟨rfl, by simp, by simp, by simp [hr]; omega, Int.le_refl _, .inl ⟨rfl, ?_⟩⟩
      repeat (first | refine And.intro (by rfl) ?_ | refine litA ?_ | refine litB ?_ | refine litC ?_ | refine litD ?_ | refine And.intro trivial ?_ | refine And.intro (keptI (by repeat' (first | refine And.intro ?_ ?_ | exact True.intro | rfl | (simp; done)))) ?_)
      refine ⟨by simp [hr]; omega, ?_⟩
      repeat (first | refine And.intro (by rfl) ?_ | refine litA ?_ | refine litB ?_ | refine litC ?_ | refine litD ?_ | refine And.intro trivial ?_ | refine And.intro (keptI (by repeat' (first | refine And.intro ?_ ?_ | exact True.intro | rfl | (simp; done)))) ?_)
      refine .inr ⟨rfl, by simp [hr]; omega, by decide, by simp, by simp [hr]; omega, .inr ⟨rfl, rfl, ?_⟩⟩
      repeat (first | refine And.intro (by rfl) ?_ | refine litA ?_ | refine litB ?_ | refine litC ?_ | refine litD ?_ | refine And.intro trivial ?_ | refine And.intro (keptI (by repeat' (first | refine And.intro ?_ ?_ | exact True.intro | rfl | (simp; done)))) ?_)
      rw [hfl] at h1 hcl
      have e1 : (((l.take j).filter Claim.ok).length : Int).toNat = (l.filter Claim.ok).length := by rw [hfl]; simp
      have hes : ∀ Z : List (List PV), List.take (((l.take j).filter Claim.ok).length : Int).toNat (List.take (((l.take j).filter Claim.ok).length : Int).toNat (r.map encC) ++ Z) = (l.filter Claim.ok).map encC := by
        intro Z
        rw [e1, List.take_append_of_le_length (by simp [hr]; omega), List.take_take, Nat.min_self, ← List.map_take, h1]
      refine ⟨?_, hes _, rfl⟩
      exact e1.trans ((congrArg List.length (hes _)).trans (by simp)).symm
    have hj' : j < l.length := by simp [hr] at h; omega
    obtain ⟨y, hy⟩ : ∃ y, l[j]? = some y := ⟨_, List.getElem?_eq_getElem hj'⟩
    have hry : r[j]? = some y := by
      have := congrArg (fun q => q[0]?) h2
      simpa [List.getElem?_drop, hy] using this
    have ej : IntKind.i64.wrap ((j : Int) + 1) = ((j + 1 : Nat) : Int) := by rw [wrap_id] <;> omega
    have fs := filter_take_succ hy
    repeat (first | refine And.intro (by rfl) ?_ | refine litA ?_ | refine litB ?_ | refine litC ?_ | refine litD ?_ | refine And.intro trivial ?_ | refine And.intro (keptI (by repeat' (first | refine And.intro ?_ ?_ | exact True.intro | rfl | (simp; done)))) ?_)
    refine ⟨by simp, by simp [hr]; omega, ?_⟩
    repeat (first | refine And.intro (by rfl) ?_ | refine litA ?_ | refine litB ?_ | refine litC ?_ | refine litD ?_ | refine And.intro trivial ?_ | refine And.intro (keptI (by repeat' (first | refine And.intro ?_ ?_ | exact True.intro | rfl | (simp; done)))) ?_)
    refine ⟨encC y, by simp [hry], ?_⟩
    repeat (first | refine And.intro (by rfl) ?_ | refine litA ?_ | refine litB ?_ | refine litC ?_ | refine litD ?_ | refine And.intro trivial ?_ | refine And.intro (keptI (by repeat' (first | refine And.intro ?_ ?_ | exact True.intro | rfl | (simp; done)))) ?_)
    refine ⟨_, _, f255_ok y, rfl, rfl, trivial, ?_⟩
    repeat' (first | refine And.intro (by rfl) ?_ | refine litA ?_ | refine litB ?_ | refine litC ?_ | refine litD ?_ | refine And.intro trivial ?_ | refine And.intro (keptI (by repeat' (first | refine And.intro ?_ ?_ | exact True.intro | rfl | (simp; done)))) ?_ | (refine And.intro ?_ ?_ <;> intro h))
    · have hok : y.ok = true := by simpa using h
      rw [if_pos hok] at fs
      refine ⟨by simp, by simp [hr]; omega, ?_⟩
      repeat (first | refine And.intro (by rfl) ?_ | refine litA ?_ | refine litB ?_ | refine litC ?_ | refine litD ?_ | refine And.intro trivial ?_ | refine And.intro (keptI (by repeat' (first | refine And.intro ?_ ?_ | exact True.intro | rfl | (simp; done)))) ?_)
      obtain ⟨c, hcc⟩ : ∃ c, ((l.take j).filter Claim.ok).length = c := ⟨_, rfl⟩
      rw [hcc] at h1 hcl
      obtain ⟨z, hz⟩ : ∃ z, r[c]? = some z := ⟨_, List.getElem?_eq_getElem (by omega)⟩
      have hfj : ((l.take (j + 1)).filter Claim.ok).length = c + 1 := by rw [fs, List.length_append, hcc]; rfl
      have ec : IntKind.i64.wrap ((((l.take j).filter Claim.ok).length : Int) + 1) = (((l.take (j + 1)).filter Claim.ok).length : Int) := by rw [hfj, hcc, wrap_id] <;> omega
      have hs : (r.map encC).set (((l.take j).filter Claim.ok).length : Int).toNat (encC y) = (r.set c y).map encC := by rw [hcc, List.map_set]; simp
      refine ⟨encC z, ?_, rfl, rfl, rfl, ?_⟩
      · dsimp only; rw [hcc]; simp [hz]
      repeat (first | refine And.intro (by rfl) ?_ | refine litA ?_ | refine litB ?_ | refine litC ?_ | refine litD ?_ | refine And.intro trivial ?_ | refine And.intro (keptI (by repeat' (first | refine And.intro ?_ ?_ | exact True.intro | rfl | (simp; done)))) ?_)
      refine ⟨⟨(j + 1, r.set c y), hj', by simp [hr], ?_, ?_⟩, ?_, ?_⟩
      · dsimp only; rw [hfj, take_set_snoc (by omega), h1, fs]
      · dsimp only; rw [List.drop_set_of_lt (by omega), ← List.drop_drop, h2, List.drop_drop]
      · repeat' (first | refine fitE_ls rfl rfl ?_ | refine fitC_ls rfl ?_ | exact congrArg I ej | exact congrArg I ec | exact congrArg (fun m => Obj.row 38 2 m false) hs | (refine fitE_ls (congrArg (PV.ls 1500) (by simp)) rfl ?_) | refine And.intro ?_ ?_ | exact True.intro | rfl | exact ⟨_, _, rfl, rfl⟩ | exact ⟨_, _, rfl⟩ | decide | (simp [St.get, St.obj, look, lookD, unI, List.map_take]; done))
      · dsimp only; omega
    · have hok : y.ok = false := by simpa using h
      rw [hok, if_neg (by simp), List.append_nil] at fs
      refine ⟨⟨(j + 1, r), hj', hr, by dsimp only; rw [fs]; exact h1, by dsimp only; rw [← List.drop_drop, h2, List.drop_drop]⟩, ?_, ?_⟩
      · repeat' (first | refine fitE_ls rfl rfl ?_ | refine fitC_ls rfl ?_ | exact congrArg I ej | exact congrArg (fun m : List Claim => I (m.length : Nat)) fs.symm | refine And.intro ?_ ?_ | exact True.intro | rfl | exact ⟨_, _, rfl, rfl⟩ | exact ⟨_, _, rfl⟩ | decide | (simp [St.get, St.obj, look, lookD, unI, List.map_take]; done))
      · dsimp only; omega
end Go.Proofs.YtnkpakakgfkpbaaGreat.V
end
