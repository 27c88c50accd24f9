/-
  VotingNumbers: for every list of integers the law's function returns true, and the argument reads behind the call as it read before. No condition.
-/
import Derived.Test.YtnkpakakgfkpbaaGreatK8
import Derived.WalkKit
import Derived.ProofKit
import Derived.OpenShut
import Derived.ChangeOld
import Derived.Below
import Derived.SizedLaws
import Derived.ChangeSlices
set_option linter.unusedVariables false
set_option linter.unusedSimpArgs false
section
namespace Go.Proofs.YtnkpakakgfkpbaaGreat.V
open Go.Vi
set_option maxRecDepth 10000
/-! ref02.Same, ref18.Same, ref19.Same -/
theorem f192_ok (a b : List Int) : C 192 [encI a, encI b] (bval (decide (a = b))) := by
  refine fn_real (G := G) tabOK hm pl192 Tryz.func192 rfl (by kernel_rfl) (by kernel_rfl) rfl rfl fun hr => ?_
  have hla : (a.length : Int) ≤ 9223372036854775807 := by simpa using RealA.len hr (sz := 1) (es := a.map fun x => [I x]) (by simp)
  repeat' (first | refine And.intro (by rfl) ?_ | refine litA ?_ | refine litB ?_ | refine litC ?_ | refine litD ?_ | refine And.intro trivial ?_ | refine And.intro (keptI (by repeat' (first | refine And.intro ?_ ?_ | exact True.intro | rfl | (simp; done)))) ?_ | (refine And.intro ?_ ?_ <;> intro h))
  · exact ⟨subB (by simp at h; simp; intro e; exact h (by rw [e])), rfl⟩
  have hab : a.length = b.length := by simp at h; omega
  refine loop_ok (G := G) tabOK hm pl192 (α := {k : Nat // k ≤ a.length ∧ a.take k = b.take k}) (fun k => ⟨26, [(13, I k.1), (12, I (a.map fun x => [I x]).length), (0, encI a), (1, encI b)], []⟩) (fun k => a.length - k.1) (by kernel_rfl) ⟨0, Nat.zero_le _, by first | rfl | simp⟩ ?_ ?_
  · repeat' (first | refine fitE_ls rfl rfl ?_ | refine fitC_ls rfl ?_ | refine And.intro ?_ ?_ | exact True.intro | rfl | exact ⟨_, _, rfl, rfl⟩ | exact ⟨_, _, rfl⟩ | decide | (simp [St.get, St.obj, look, lookD, unI, List.map_take]; done))
  rintro ⟨k, hk, hx⟩
  repeat (first | refine And.intro (by rfl) ?_ | refine litA ?_ | refine litB ?_ | refine litC ?_ | refine litD ?_ | refine And.intro trivial ?_ | refine And.intro (keptI (by repeat' (first | refine And.intro ?_ ?_ | exact True.intro | rfl | (simp; done)))) ?_)
  refine And.intro (fun h => ?_) (fun h => ?_)
  rotate_left
  · have hl : a.length ≤ k := by simpa using h
    repeat (first | refine And.intro (by rfl) ?_ | refine litA ?_ | refine litB ?_ | refine litC ?_ | refine litD ?_ | refine And.intro trivial ?_ | refine And.intro (keptI (by repeat' (first | refine And.intro ?_ ?_ | exact True.intro | rfl | (simp; done)))) ?_)
    have ek : a.take k = a := List.take_of_length_le hl
    try rw [ek] at hx
    exact ⟨subB (by rw [hab] at hl; rw [List.take_of_length_le (by omega)] at hx; simp [hx]), rfl⟩
  have hk' : k < a.length := by simpa using h
  obtain ⟨y, hy⟩ : ∃ y, a[k]? = some y := ⟨_, List.getElem?_eq_getElem hk'⟩
  have e : IntKind.i64.wrap ((k : Int) + 1) = ((k + 1 : Nat) : Int) := by rw [wrap_id] <;> omega
  have et : a.take (k + 1) = a.take k ++ [y] := by rw [List.take_add_one, hy]; rfl
  repeat (first | refine And.intro (by rfl) ?_ | refine litA ?_ | refine litB ?_ | refine litC ?_ | refine litD ?_ | refine And.intro trivial ?_ | refine And.intro (keptI (by repeat' (first | refine And.intro ?_ ?_ | exact True.intro | rfl | (simp; done)))) ?_)
  obtain ⟨z, hz⟩ : ∃ z, b[k]? = some z := ⟨_, List.getElem?_eq_getElem (by omega)⟩
  refine ⟨by simp, [I y], by simp [hy], ?_⟩
  repeat (first | refine And.intro (by rfl) ?_ | refine litA ?_ | refine litB ?_ | refine litC ?_ | refine litD ?_ | refine And.intro trivial ?_ | refine And.intro (keptI (by repeat' (first | refine And.intro ?_ ?_ | exact True.intro | rfl | (simp; done)))) ?_)
  refine ⟨by simp, [I z], by simp [hz], ?_⟩
  repeat' (first | refine And.intro (by rfl) ?_ | refine litA ?_ | refine litB ?_ | refine litC ?_ | refine litD ?_ | refine And.intro trivial ?_ | refine And.intro (keptI (by repeat' (first | refine And.intro ?_ ?_ | exact True.intro | rfl | (simp; done)))) ?_ | (refine And.intro ?_ ?_ <;> intro h))
  · have h : (y != z) = true := h
    exact ⟨subB (by simp at h; simp; intro e; rw [e] at hy; rw [hy] at hz; exact h (by injection hz)), rfl⟩
  · have h : (y != z) = false := h
    refine ⟨⟨k + 1, hk', (by rw [et, List.take_add_one, hz, hx]; simp at h; simp [h])⟩, ?_, ?_⟩
    · repeat' (first | refine fitE_ls rfl rfl ?_ | refine fitC_ls rfl ?_ | exact congrArg I e | refine And.intro ?_ ?_ | exact True.intro | rfl | exact ⟨_, _, rfl, rfl⟩ | exact ⟨_, _, rfl⟩ | decide | (simp [St.get, St.obj, look, lookD, unI, List.map_take]; done))
    · dsimp only; omega
theorem f119_ok (a b : Trust) : C 119 [.agg (encT a), .agg (encT b)] (bval (decide (a = b))) := by
  induction a using Trust.ind generalizing b with
  | h t n i ih =>
  obtain ⟨t', n', i'⟩ := b
  refine fn_real (G := G) tabOK hm pl119 Tryz.func119 rfl (by kernel_rfl) (by kernel_rfl) rfl rfl fun hr => ?_
  have hli : (i.length : Int) ≤ 9223372036854775807 := by simpa using (hr (.agg (encT (.mk t n i))) (by simp) (encTL i) (by simp [acells, encT]) rfl).len
  clear hr
  repeat' (first | refine And.intro (by rfl) ?_ | refine litA ?_ | refine litB ?_ | refine litC ?_ | refine litD ?_ | refine And.intro trivial ?_ | refine And.intro (keptI (by repeat' (first | refine And.intro ?_ ?_ | exact True.intro | rfl | (simp; done)))) ?_ | refine ⟨_, _, f192_ok n n', rfl, rfl, trivial, ?_⟩ | (refine And.intro ?_ ?_ <;> intro h))
  · exact ⟨subB (by simp at h; simp; intro _ _ e; exact h (by rw [e])), rfl⟩
  rotate_left
  · exact ⟨subB (by simp at h; simp [h]), rfl⟩
  · exact ⟨subB (by simp at h; simp [h]), rfl⟩
  rename_i g1 g2
  have g1 : t = t' := by simpa using g1
  have g2 : n = n' := by simpa using g2
  subst g1 g2
  have hab : i.length = i'.length := by simp at h; omega
  have e0 : decide (Trust.mk t n i = .mk t n i') = decide (i = i') := by simp
  rw [e0]
  clear e0
  refine loop_ok (G := G) tabOK hm pl119 (α := {k : Nat // k ≤ i.length ∧ i.take k = i'.take k}) (fun k => ⟨47, [(31, I k.1), (30, I (encTs i).length), (2, .loc 3000 0), (3, .loc 4000 0)], [(3000, .box (encT (.mk t n i)) false), (4000, .box (encT (.mk t n i')) false)]⟩) (fun k => i.length - k.1) (by kernel_rfl) ⟨0, Nat.zero_le _, by first | rfl | simp⟩ ?_ ?_
  · repeat' (first | refine fitE_ls rfl rfl ?_ | refine fitC_ls rfl ?_ | refine And.intro ?_ ?_ | exact True.intro | rfl | exact ⟨_, _, rfl, rfl⟩ | exact ⟨_, _, rfl⟩ | decide | (simp [St.get, St.obj, look, lookD, unI, List.map_take]; done))
  rintro ⟨k, hk, hx⟩
  repeat (first | refine And.intro (by rfl) ?_ | refine litA ?_ | refine litB ?_ | refine litC ?_ | refine litD ?_ | refine And.intro trivial ?_ | refine And.intro (keptI (by repeat' (first | refine And.intro ?_ ?_ | exact True.intro | rfl | (simp; done)))) ?_)
  refine And.intro (fun h => ?_) (fun h => ?_)
  rotate_left
  · have hl : i.length ≤ k := by simpa using h
    repeat (first | refine And.intro (by rfl) ?_ | refine litA ?_ | refine litB ?_ | refine litC ?_ | refine litD ?_ | refine And.intro trivial ?_ | refine And.intro (keptI (by repeat' (first | refine And.intro ?_ ?_ | exact True.intro | rfl | (simp; done)))) ?_)
    have ek : i.take k = i := List.take_of_length_le hl
    try rw [ek] at hx
    exact ⟨subB (by rw [hab] at hl; rw [List.take_of_length_le (by omega)] at hx; simp [hx]), rfl⟩
  have hk' : k < i.length := by simpa using h
  obtain ⟨y, hy⟩ : ∃ y, i[k]? = some y := ⟨_, List.getElem?_eq_getElem hk'⟩
  have e : IntKind.i64.wrap ((k : Int) + 1) = ((k + 1 : Nat) : Int) := by rw [wrap_id] <;> omega
  have et : i.take (k + 1) = i.take k ++ [y] := by rw [List.take_add_one, hy]; rfl
  repeat (first | refine And.intro (by rfl) ?_ | refine litA ?_ | refine litB ?_ | refine litC ?_ | refine litD ?_ | refine And.intro trivial ?_ | refine And.intro (keptI (by repeat' (first | refine And.intro ?_ ?_ | exact True.intro | rfl | (simp; done)))) ?_)
  obtain ⟨z, hz⟩ : ∃ z, i'[k]? = some z := ⟨_, List.getElem?_eq_getElem (by omega)⟩
  have hyi := List.mem_of_getElem? hy
  obtain ⟨ty, ny, iy⟩ := y
  obtain ⟨tz, nz, iz⟩ := z
  refine ⟨by simp, encT (.mk ty ny iy), by simpa using encTs_get hy, ?_⟩
  repeat (first | refine And.intro (by rfl) ?_ | refine litA ?_ | refine litB ?_ | refine litC ?_ | refine litD ?_ | refine And.intro trivial ?_ | refine And.intro (keptI (by repeat' (first | refine And.intro ?_ ?_ | exact True.intro | rfl | (simp; done)))) ?_)
  refine ⟨by simp, encT (.mk tz nz iz), by simpa using encTs_get hz, ?_⟩
  repeat (first | refine And.intro (by rfl) ?_ | refine litA ?_ | refine litB ?_ | refine litC ?_ | refine litD ?_ | refine And.intro trivial ?_ | refine And.intro (keptI (by repeat' (first | refine And.intro ?_ ?_ | exact True.intro | rfl | (simp; done)))) ?_)
  refine ⟨_, _, ih (.mk ty ny iy) hyi (.mk tz nz iz), rfl, rfl, trivial, ?_⟩
  repeat' (first | refine And.intro (by rfl) ?_ | refine litA ?_ | refine litB ?_ | refine litC ?_ | refine litD ?_ | refine And.intro trivial ?_ | refine And.intro (keptI (by repeat' (first | refine And.intro ?_ ?_ | exact True.intro | rfl | (simp; done)))) ?_ | (refine And.intro ?_ ?_ <;> intro h))
  · have h := of_decide_eq_false (by simpa only [Bool.not_eq_true'] using h)
    exact ⟨subB (by rw [eq_comm, decide_eq_false_iff_not]; intro e; rw [e, hz] at hy; exact h (Option.some.inj hy).symm), rfl⟩
  · refine ⟨⟨k + 1, hk', (by rw [et, List.take_add_one, hz, hx]; simp at h; simp [h])⟩, ?_, ?_⟩
    · repeat' (first | refine fitE_ls rfl rfl ?_ | refine fitC_ls rfl ?_ | exact congrArg I e | refine And.intro ?_ ?_ | exact True.intro | rfl | exact ⟨_, _, rfl, rfl⟩ | exact ⟨_, _, rfl⟩ | decide | (simp [St.get, St.obj, look, lookD, unI, List.map_take]; done))
    · dsimp only; omega
noncomputable instance : DecidableEq Message := fun _ _ => Classical.propDecidable _
noncomputable instance : DecidableEq Voter := fun _ _ => Classical.propDecidable _
theorem f41_ok (a b : Message) : C 41 [.agg (encM a), .agg (encM b)] (bval (decide (a = b))) := by
  obtain ⟨nd, sq, ⟨t, n, i⟩, vs, ac⟩ := a
  obtain ⟨nd', sq', ⟨t', n', i'⟩, vs', ac'⟩ := b
  have e : decide ((⟨nd, sq, .mk t n i, vs, ac⟩ : Message) = ⟨nd', sq', .mk t' n' i', vs', ac'⟩) = (decide (nd = nd') && decide (sq = sq') && decide (Trust.mk t n i = .mk t' n' i') && decide (vs = vs') && decide (ac = ac')) := by
    rw [Bool.eq_iff_iff]; simp [and_assoc]
  rw [e]
  refine fn_ok (G := G) tabOK hm D0 Tryz.func41 rfl (by kernel_rfl) (by kernel_rfl) rfl rfl ?_
  repeat' (first | refine And.intro (by rfl) ?_ | refine litA ?_ | refine litB ?_ | refine litC ?_ | refine litD ?_ | refine And.intro trivial ?_ | refine And.intro (keptI (by repeat' (first | refine And.intro ?_ ?_ | exact True.intro | rfl | (simp; done)))) ?_ | refine ⟨_, _, f119_ok (.mk t n i) (.mk t' n' i'), rfl, rfl, trivial, ?_⟩ | refine ⟨_, _, f20_ok vs vs', rfl, rfl, trivial, ?_⟩ | refine ⟨_, _, f20_ok ac ac', rfl, rfl, trivial, ?_⟩ | (refine And.intro ?_ ?_ <;> intro h))
  all_goals exact ⟨subB (by simp at *; simp_all), rfl⟩
theorem f33_ok (a b : Voter) : C 33 [.agg (encV a), .agg (encV b)] (bval (decide (a = b))) := by
  obtain ⟨nd, sq, ⟨t, n, i⟩, vs, ac, cf, hd⟩ := a
  obtain ⟨nd', sq', ⟨t', n', i'⟩, vs', ac', cf', hd'⟩ := b
  have e : decide ((⟨nd, sq, .mk t n i, vs, ac, cf, hd⟩ : Voter) = ⟨nd', sq', .mk t' n' i', vs', ac', cf', hd'⟩) = (decide (nd = nd') && decide (sq = sq') && decide (Trust.mk t n i = .mk t' n' i') && decide (vs = vs') && decide (ac = ac') && decide (cf = cf') && decide (hd = hd')) := by
    rw [Bool.eq_iff_iff]; simp [and_assoc]
  rw [e]
  clear e
  refine fn_real (G := G) tabOK hm pl33 Tryz.func33 rfl (by kernel_rfl) (by kernel_rfl) rfl rfl fun hr => ?_
  have hlh : (hd.length : Int) ≤ 9223372036854775807 := by simpa using (hr (.agg (encV ⟨nd, sq, .mk t n i, vs, ac, cf, hd⟩)) (by simp) (encML hd) (by simp [acells, encV]) rfl).len
  clear hr
  repeat' (first | refine And.intro (by rfl) ?_ | refine litA ?_ | refine litB ?_ | refine litC ?_ | refine litD ?_ | refine And.intro trivial ?_ | refine And.intro (keptI (by repeat' (first | refine And.intro ?_ ?_ | exact True.intro | rfl | (simp; done)))) ?_ | refine ⟨_, _, f119_ok (.mk t n i) (.mk t' n' i'), rfl, rfl, trivial, ?_⟩ | refine ⟨_, _, f20_ok vs vs', rfl, rfl, trivial, ?_⟩ | refine ⟨_, _, f20_ok ac ac', rfl, rfl, trivial, ?_⟩ | refine ⟨_, _, f20_ok cf cf', rfl, rfl, trivial, ?_⟩ | (refine And.intro ?_ ?_ <;> intro h))
  all_goals try exact ⟨subB (by simp at *; simp_all; try (intros; intro e; simp_all)), rfl⟩
  rename_i g0 g1 g2 g3 g4 g5
  have hab : hd.length = hd'.length := by simp at h; omega
  have e : (decide (nd = nd') && decide (sq = sq') && decide (Trust.mk t n i = .mk t' n' i') && decide (vs = vs') && decide (ac = ac') && decide (cf = cf') && decide (hd = hd')) = decide (hd = hd') := by
    simp only [Bool.not_eq_false'] at g2 g3 g4 g5
    have g0 : decide (nd = nd') = true := by simpa using g0
    have g1 : decide (sq = sq') = true := by simpa using g1
    rw [g0, g1, g2, g3, g4, g5]; simp
  rw [e]
  clear e g0 g1 g2 g3 g4 g5 h
  refine loop_ok (G := G) tabOK hm pl33 (α := {k : Nat // k ≤ hd.length ∧ hd.take k = hd'.take k}) (fun k => ⟨78, [(62, I k.1), (61, I (hd.map encM).length), (2, .loc 3000 0), (3, .loc 4000 0)], [(3000, .box (encV ⟨nd, sq, .mk t n i, vs, ac, cf, hd⟩) false), (4000, .box (encV ⟨nd', sq', .mk t' n' i', vs', ac', cf', hd'⟩) false)]⟩) (fun k => hd.length - k.1) (by kernel_rfl) ⟨0, Nat.zero_le _, by first | rfl | simp⟩ ?_ ?_
  · repeat' (first | refine fitE_ls rfl rfl ?_ | refine fitC_ls rfl ?_ | refine And.intro ?_ ?_ | exact True.intro | rfl | exact ⟨_, _, rfl, rfl⟩ | exact ⟨_, _, rfl⟩ | decide | (simp [St.get, St.obj, look, lookD, unI, List.map_take]; done))
  rintro ⟨k, hk, hx⟩
  repeat (first | refine And.intro (by rfl) ?_ | refine litA ?_ | refine litB ?_ | refine litC ?_ | refine litD ?_ | refine And.intro trivial ?_ | refine And.intro (keptI (by repeat' (first | refine And.intro ?_ ?_ | exact True.intro | rfl | (simp; done)))) ?_)
  refine And.intro (fun h => ?_) (fun h => ?_)
  rotate_left
  · have hl : hd.length ≤ k := by simpa using h
    repeat (first | refine And.intro (by rfl) ?_ | refine litA ?_ | refine litB ?_ | refine litC ?_ | refine litD ?_ | refine And.intro trivial ?_ | refine And.intro (keptI (by repeat' (first | refine And.intro ?_ ?_ | exact True.intro | rfl | (simp; done)))) ?_)
    have ek : hd.take k = hd := List.take_of_length_le hl
    try rw [ek] at hx
    exact ⟨subB (by rw [hab] at hl; rw [List.take_of_length_le (by omega)] at hx; simp [hx]), rfl⟩
  have hk' : k < hd.length := by simpa using h
  obtain ⟨y, hy⟩ : ∃ y, hd[k]? = some y := ⟨_, List.getElem?_eq_getElem hk'⟩
  have e : IntKind.i64.wrap ((k : Int) + 1) = ((k + 1 : Nat) : Int) := by rw [wrap_id] <;> omega
  have et : hd.take (k + 1) = hd.take k ++ [y] := by rw [List.take_add_one, hy]; rfl
  repeat (first | refine And.intro (by rfl) ?_ | refine litA ?_ | refine litB ?_ | refine litC ?_ | refine litD ?_ | refine And.intro trivial ?_ | refine And.intro (keptI (by repeat' (first | refine And.intro ?_ ?_ | exact True.intro | rfl | (simp; done)))) ?_)
  obtain ⟨z, hz⟩ : ∃ z, hd'[k]? = some z := ⟨_, List.getElem?_eq_getElem (by omega)⟩
  have h41 := f41_ok y z
  obtain ⟨yn, ys, ⟨yt, ynn, yi⟩, yv, ya⟩ := y
  obtain ⟨zn, zs, ⟨zt, znn, zi⟩, zv, za⟩ := z
  refine ⟨by simp, encM ⟨yn, ys, .mk yt ynn yi, yv, ya⟩, by simp only [Int.toNat_natCast, List.getElem?_map, hy]; rfl, ?_⟩
  repeat (first | refine And.intro (by rfl) ?_ | refine litA ?_ | refine litB ?_ | refine litC ?_ | refine litD ?_ | refine And.intro trivial ?_ | refine And.intro (keptI (by repeat' (first | refine And.intro ?_ ?_ | exact True.intro | rfl | (simp; done)))) ?_)
  refine ⟨by simp, encM ⟨zn, zs, .mk zt znn zi, zv, za⟩, by simp only [Int.toNat_natCast, List.getElem?_map, hz]; rfl, ?_⟩
  repeat (first | refine And.intro (by rfl) ?_ | refine litA ?_ | refine litB ?_ | refine litC ?_ | refine litD ?_ | refine And.intro trivial ?_ | refine And.intro (keptI (by repeat' (first | refine And.intro ?_ ?_ | exact True.intro | rfl | (simp; done)))) ?_)
  refine ⟨_, _, h41, rfl, rfl, trivial, ?_⟩
  repeat' (first | refine And.intro (by rfl) ?_ | refine litA ?_ | refine litB ?_ | refine litC ?_ | refine litD ?_ | refine And.intro trivial ?_ | refine And.intro (keptI (by repeat' (first | refine And.intro ?_ ?_ | exact True.intro | rfl | (simp; done)))) ?_ | (refine And.intro ?_ ?_ <;> intro h))
  · have h := of_decide_eq_false (by simpa only [Bool.not_eq_true'] using h)
    exact ⟨subB (by rw [eq_comm, decide_eq_false_iff_not]; intro e; rw [e, hz] at hy; exact h (Option.some.inj hy).symm), rfl⟩
  · have h := of_decide_eq_true (by simpa only [Bool.not_eq_false'] using h)
    refine ⟨⟨k + 1, hk', (by rw [et, List.take_add_one, hz, hx, h]; rfl)⟩, ?_, ?_⟩
    · repeat' (first | refine fitE_ls rfl rfl ?_ | refine fitC_ls rfl ?_ | exact congrArg I e | refine And.intro ?_ ?_ | exact True.intro | rfl | exact ⟨_, _, rfl, rfl⟩ | exact ⟨_, _, rfl⟩ | decide | (simp [St.get, St.obj, look, lookD, unI, List.map_take]; done))
    · dsimp only; omega
end Go.Proofs.YtnkpakakgfkpbaaGreat.V
end
section
namespace Go.Proofs.YtnkpakakgfkpbaaGreat.V
open Go.Vi
set_option maxRecDepth 10000
/-! VotingNumbers -/
theorem hearS_numbers {v : Voter} {m : Message} (h : (hearS v m).2 = 0) : (hearS v m).1.votes = v.votes ∧ ((hearS v m).1.seq = v.seq ↔ v.accepts = (hearS v m).1.accepts) := by
  unfold hearS at h ⊢
  split at h
  · rename_i hval
    rw [if_pos hval]
    split at h
    · cases h
    · rename_i ho
      rw [if_neg ho]
      dsimp only
      have e := settleS_shape { v with heard := putM v.heard m }
      have e1 : (settleS { v with heard := putM v.heard m }).votes = v.votes := by rw [e]
      have e2 : (settleS { v with heard := putM v.heard m }).seq = v.seq := by rw [e]
      have e3 : (settleS { v with heard := putM v.heard m }).trust = v.trust := by rw [e]
      unfold turnS
      generalize settleS { v with heard := putM v.heard m } = w at *
      by_cases ha : v.accepts = w.accepts
      · rw [if_neg (by rw [e1, e3, ha]; simp)]
        exact ⟨e1, by rw [e2]; simp [ha]⟩
      · rw [if_pos (.inr (.inr ha))]
        refine ⟨e1, ?_⟩
        dsimp only
        rw [e2]
        constructor
        · intro h; omega
        · intro h; exact absurd h ha
  · cases h
theorem declareS_same {v : Voter} (h : validV v = true) : declareS v v.trust = (v, 0) := by
  have ht := ((validV_iff v).1 h).2.2.1
  unfold declareS
  rw [if_pos h, if_neg (by simp [ht]), if_pos rfl]
theorem voteS_again {v : Voter} {x : Claim} (h : validV v = true) (hx : x ∈ v.votes) : voteS v x = (zeroV, 14) ∨ voteS v x = (v, 0) := by
  have hok := plainL_ok ((validV_iff v).1 h).2.2.2.1 x hx
  unfold voteS
  rw [if_pos ⟨h, hok⟩]
  split
  · exact .inl rfl
  · first | exact .inr rfl | (rw [if_pos hx]; exact .inr rfl)
set_option maxHeartbeats 4000000 in
theorem f6_ok (l : List Int) : C 6 [encI l] (bval true) := by
  have h22 := f22_ok ⟨l.take 400, 0⟩ 4 5 (by decide) (by decide) (by decide)
  obtain ⟨p1, p2, p3, p4, p5⟩ := playS_ok 4 (by decide) (by decide) ⟨l.take 400, 0⟩ 5
  generalize playS 4 ⟨l.take 400, 0⟩ 5 = R at *
  obtain ⟨⟨nd, sq, ⟨t, n, i⟩, vs, ac, cf, hd⟩, tp⟩ := R
  dsimp only at p1 p2 p3
  refine fn_ok (G := G) tabOK hm pl6 Tryz.func6 rfl (by kernel_rfl) (by kernel_rfl) rfl rfl ?_
  repeat (first | refine And.intro (by rfl) ?_ | refine litA ?_ | refine litB ?_ | refine litC ?_ | refine litD ?_ | refine And.intro trivial ?_ | refine And.intro (keptI (by repeat' (first | refine And.intro ?_ ?_ | exact True.intro | rfl | (simp; done)))) ?_)
  refine ⟨_, _, f13_ok l, rfl, rfl, trivial, ?_⟩
  repeat (first | refine And.intro (by rfl) ?_ | refine litA ?_ | refine litB ?_ | refine litC ?_ | refine litD ?_ | refine And.intro trivial ?_ | refine And.intro (keptI (by repeat' (first | refine And.intro ?_ ?_ | exact True.intro | rfl | (simp; done)))) ?_)
  refine ⟨_, _, h22, rfl, rfl, ⟨⟨rfl, rfl⟩, trivial⟩, ?_⟩
  repeat (first | refine And.intro (by rfl) ?_ | refine litA ?_ | refine litB ?_ | refine litC ?_ | refine litD ?_ | refine And.intro trivial ?_ | refine And.intro (keptI (by repeat' (first | refine And.intro ?_ ?_ | exact True.intro | rfl | (simp; done)))) ?_)
  refine loop_ok (G := G) tabOK hm pl6 (α := {q : Nat × (Voter × Tape) // q.1 ≤ 4 ∧ soundV q.2.1 ∧ 1 ≤ q.2.1.seq ∧ q.2.1.seq ≤ 6 + q.1}) (fun q => ⟨119, [(6, I (q.1.1 + 1 : Nat)), (3, .loc 18000 0), (4, .loc 5000 0)], [(5000, .box (encV q.1.2.1) false), (18000, .box (encTp q.1.2.2) false)]⟩) (fun q => 4 - q.1.1) (by kernel_rfl) ⟨(0, (⟨nd, sq, .mk t n i, vs, ac, cf, hd⟩, tp)), by omega, p1, p2, p3⟩ ?_ ?_
  · repeat' (first | refine fitE_ls rfl rfl ?_ | refine fitC_ls rfl ?_ | refine And.intro ?_ ?_ | exact True.intro | rfl | exact ⟨_, _, rfl, rfl⟩ | exact ⟨_, _, rfl⟩ | decide | (simp [St.get, St.obj, look, lookD, unI, List.map_take]; done))
  clear h22 p1 p2 p3 p4 p5 nd sq t n i vs ac cf hd tp
  rintro ⟨⟨k, ⟨⟨nd, sq, ⟨t, n, i⟩, vs, ac, cf, hd⟩, tp⟩⟩, hk, p1, p2, p3⟩
  dsimp only at hk p1 p2 p3
  repeat (first | refine And.intro (by rfl) ?_ | refine litA ?_ | refine litB ?_ | refine litC ?_ | refine litD ?_ | refine And.intro trivial ?_ | refine And.intro (keptI (by repeat' (first | refine And.intro ?_ ?_ | exact True.intro | rfl | (simp; done)))) ?_)
  refine And.intro (fun h => ?_) (fun h => ?_)
  · have hk4 : k < 4 := by simp at h; omega
    have e : IntKind.i64.wrap (((k + 1 : Nat) : Int) + 1) = ((k + 1 + 1 : Nat) : Int) := by rw [wrap_id] <;> omega
    have h31 := f31_ok tp 4 (by decide) (by decide)
    have hts := msgT_small 4 tp (by decide) (by decide)
    have hsq := msgT_seq 4 tp
    generalize msgT 4 tp = c at *
    obtain ⟨⟨cn, cs, ⟨ct, cnn, ci⟩, cv, ca⟩, ctp⟩ := c
    dsimp only at hts h31 hsq
    have em : IntKind.i64.wrap (100 * ((k + 1 : Nat) : Int)) = 100 * ((k + 1 : Nat) : Int) := by rw [wrap_id] <;> omega
    have ew : IntKind.i64.wrap (cs + IntKind.i64.wrap (100 * ((k + 1 : Nat) : Int))) = cs + 100 * ((k + 1 : Nat) : Int) := by rw [em, wrap_id] <;> omega
    have hok := p1.ok
    have h19 := f19_ok ⟨nd, sq, .mk t n i, vs, ac, cf, hd⟩ ⟨cn, cs + 100 * ((k + 1 : Nat) : Int), .mk ct cnn ci, cv, ca⟩ hok hts
    have hst : _ → _ := hearS_step (m := ⟨cn, cs + 100 * ((k + 1 : Nat) : Int), .mk ct cnn ci, cv, ca⟩) hok hts
    have hnm : _ → _ := hearS_numbers (v := ⟨nd, sq, .mk t n i, vs, ac, cf, hd⟩) (m := ⟨cn, cs + 100 * ((k + 1 : Nat) : Int), .mk ct cnn ci, cv, ca⟩)
    generalize hearS ⟨nd, sq, .mk t n i, vs, ac, cf, hd⟩ ⟨cn, cs + 100 * ((k + 1 : Nat) : Int), .mk ct cnn ci, cv, ca⟩ = V at *
    obtain ⟨⟨nd', sq', ⟨t', n', i'⟩, vs', ac', cf', hd'⟩, f'⟩ := V
    dsimp only at h19 hst hnm
    have h19' : C 19 [.agg (encV ⟨nd, sq, .mk t n i, vs, ac, cf, hd⟩), .agg (encM ⟨cn, IntKind.i64.wrap (cs + IntKind.i64.wrap (100 * ((k + 1 : Nat) : Int))), .mk ct cnn ci, cv, ca⟩)] (.tup [.agg (encV ⟨nd', sq', .mk t' n' i', vs', ac', cf', hd'⟩), I f']) := by rw [ew]; exact h19
    repeat (first | refine And.intro (by rfl) ?_ | refine litA ?_ | refine litB ?_ | refine litC ?_ | refine litD ?_ | refine And.intro trivial ?_ | refine And.intro (keptI (by repeat' (first | refine And.intro ?_ ?_ | exact True.intro | rfl | (simp; done)))) ?_)
    refine ⟨_, _, h31, rfl, rfl, ⟨⟨rfl, rfl⟩, trivial⟩, ?_⟩
    repeat (first | refine And.intro (by rfl) ?_ | refine litA ?_ | refine litB ?_ | refine litC ?_ | refine litD ?_ | refine And.intro trivial ?_ | refine And.intro (keptI (by repeat' (first | refine And.intro ?_ ?_ | exact True.intro | rfl | (simp; done)))) ?_)
    refine ⟨_, _, h19', rfl, rfl, trivial, ?_⟩
    repeat' (first | refine And.intro (by rfl) ?_ | refine litA ?_ | refine litB ?_ | refine litC ?_ | refine litD ?_ | refine And.intro trivial ?_ | refine And.intro (keptI (by repeat' (first | refine And.intro ?_ ?_ | exact True.intro | rfl | (simp; done)))) ?_ | (refine And.intro ?_ ?_ <;> intro h))
    · have hf : ¬ f' = 0 := by simpa using h
      refine ⟨⟨(k + 1, (⟨nd, sq, .mk t n i, vs, ac, cf, hd⟩, ctp)), by dsimp only; omega, p1, p2, by dsimp only; omega⟩, ?_, ?_⟩
      · repeat' (first | refine fitE_ls rfl rfl ?_ | refine fitC_ls rfl ?_ | exact congrArg I e | refine And.intro ?_ ?_ | exact True.intro | rfl | exact ⟨_, _, rfl, rfl⟩ | exact ⟨_, _, rfl⟩ | decide | (simp [St.get, St.obj, look, lookD, unI, List.map_take]; done))
      · dsimp only; omega
    · have hf : f' = 0 := by simpa using h
      subst hf
      have hso := hst rfl
      obtain ⟨hvs, hac⟩ := hnm rfl
      have hge : sq ≤ sq' := hso.ge
      have hle : sq' ≤ sq + 1 := hso.le
      subst hvs
      have h20a := f20_ok ac ac'
      have h20b : C 20 [encCs vs', encCs vs'] (bval true) := by have := f20_ok vs' vs'; rwa [decide_eq_true rfl] at this
      have hb : (decide (ac = ac')) = (sq' == sq) := by
        rw [Bool.eq_iff_iff]; simp only [decide_eq_true_eq, beq_iff_eq]; exact hac.symm
      rw [hb] at h20a
      have es : IntKind.i64.wrap (sq + 1) = sq + 1 := by rw [wrap_id] <;> omega
      repeat' (first | refine And.intro (by rfl) ?_ | refine litA ?_ | refine litB ?_ | refine litC ?_ | refine litD ?_ | refine And.intro trivial ?_ | refine And.intro (keptI (by repeat' (first | refine And.intro ?_ ?_ | exact True.intro | rfl | (simp; done)))) ?_ | refine ⟨_, _, h20a, rfl, rfl, trivial, ?_⟩ | refine ⟨_, _, h20b, rfl, rfl, trivial, ?_⟩ | (refine And.intro ?_ ?_ <;> intro h))
      · refine ⟨⟨(k + 1, (⟨nd', sq', .mk t' n' i', vs', ac', cf', hd'⟩, ctp)), by dsimp only; omega, hso.sound, show 1 ≤ sq' by omega, show sq' ≤ 6 + ((k + 1 : Nat) : Int) by omega⟩, ?_, ?_⟩
        · repeat' (first | refine fitE_ls rfl rfl ?_ | refine fitC_ls rfl ?_ | exact congrArg I e | refine And.intro ?_ ?_ | exact True.intro | rfl | exact ⟨_, _, rfl, rfl⟩ | exact ⟨_, _, rfl⟩ | decide | (simp [St.get, St.obj, look, lookD, unI, List.map_take]; done))
        · dsimp only; omega
      · have h : decide (sq' > IntKind.i64.wrap (sq + 1)) = !false := h
        rw [es] at h
        simp at h; omega
      · have h : (!((sq' == sq) == (sq' == sq))) = !false := h
        simp at h
  · have hk4 : k = 4 := by simp at h; omega
    subst hk4
    have hval := p1.valid p2 (show sq ≤ 1000000 by omega)
    have h32 := f32_ok ⟨nd, sq, .mk t n i, vs, ac, cf, hd⟩ (.mk t n i) p1.ok p1.ok.trust
    have hdc := declareS_same hval
    dsimp only at hdc
    rw [hdc] at h32
    have h33 : C 33 [.agg (encV ⟨nd, sq, .mk t n i, vs, ac, cf, hd⟩), .agg (encV ⟨nd, sq, .mk t n i, vs, ac, cf, hd⟩)] (bval true) := by
      have := f33_ok ⟨nd, sq, .mk t n i, vs, ac, cf, hd⟩ ⟨nd, sq, .mk t n i, vs, ac, cf, hd⟩; rwa [decide_eq_true rfl] at this
    have h16 := fun x => f16_ok ⟨nd, sq, .mk t n i, vs, ac, cf, hd⟩ x p1.ok
    have hag := fun x (hx : x ∈ vs) => voteS_again (v := ⟨nd, sq, .mk t n i, vs, ac, cf, hd⟩) hval hx
    have hvl : vs.length ≤ 100000 := p1.ok.votes
    repeat (first | refine And.intro (by rfl) ?_ | refine litA ?_ | refine litB ?_ | refine litC ?_ | refine litD ?_ | refine And.intro trivial ?_ | refine And.intro (keptI (by repeat' (first | refine And.intro ?_ ?_ | exact True.intro | rfl | (simp; done)))) ?_)
    refine ⟨_, _, h32, rfl, rfl, trivial, ?_⟩
    repeat' (first | refine And.intro (by rfl) ?_ | refine litA ?_ | refine litB ?_ | refine litC ?_ | refine litD ?_ | refine And.intro trivial ?_ | refine And.intro (keptI (by repeat' (first | refine And.intro ?_ ?_ | exact True.intro | rfl | (simp; done)))) ?_ | refine ⟨_, _, h33, rfl, rfl, trivial, ?_⟩ | (refine And.intro ?_ ?_ <;> intro h))
    refine loop_ok (G := G) tabOK hm pl6 (α := {k : Nat // k ≤ vs.length ∧ True}) (fun k => ⟨119, [(91, I k.1), (90, I (vs.map encC).length), (89, encCs vs), (4, .loc 5000 0)], [(5000, .box (encV ⟨nd, sq, .mk t n i, vs, ac, cf, hd⟩) false)]⟩) (fun k => vs.length - k.1) (by kernel_rfl) ⟨0, Nat.zero_le _, by first | rfl | simp⟩ ?_ ?_
    · repeat' (first | refine fitE_ls rfl rfl ?_ | refine fitC_ls rfl ?_ | refine And.intro ?_ ?_ | exact True.intro | rfl | exact ⟨_, _, rfl, rfl⟩ | exact ⟨_, _, rfl⟩ | decide | (simp [St.get, St.obj, look, lookD, unI, List.map_take]; done))
    rintro ⟨k, hk, hx⟩
    repeat (first | refine And.intro (by rfl) ?_ | refine litA ?_ | refine litB ?_ | refine litC ?_ | refine litD ?_ | refine And.intro trivial ?_ | refine And.intro (keptI (by repeat' (first | refine And.intro ?_ ?_ | exact True.intro | rfl | (simp; done)))) ?_)
    refine And.intro (fun h => ?_) (fun h => ?_)
    rotate_left
    · have hl : vs.length ≤ k := by simpa using h
      repeat (first | refine And.intro (by rfl) ?_ | refine litA ?_ | refine litB ?_ | refine litC ?_ | refine litD ?_ | refine And.intro trivial ?_ | refine And.intro (keptI (by repeat' (first | refine And.intro ?_ ?_ | exact True.intro | rfl | (simp; done)))) ?_)
      have ek : vs.take k = vs := List.take_of_length_le hl
      try rw [ek] at hx
      refine ⟨_, _, f21_ok, rfl, rfl, trivial, ?_⟩
      repeat (first | refine And.intro (by rfl) ?_ | refine litA ?_ | refine litB ?_ | refine litC ?_ | refine litD ?_ | refine And.intro trivial ?_ | refine And.intro (keptI (by repeat' (first | refine And.intro ?_ ?_ | exact True.intro | rfl | (simp; done)))) ?_)
      repeat' (first | refine And.intro ?_ ?_ | exact .inl rfl | rfl | exact .inr ⟨rfl, _, rfl⟩)
    have hk' : k < vs.length := by simpa using h
    obtain ⟨y, hy⟩ : ∃ y, vs[k]? = some y := ⟨_, List.getElem?_eq_getElem hk'⟩
    have e : IntKind.i64.wrap ((k : Int) + 1) = ((k + 1 : Nat) : Int) := by rw [wrap_id] <;> omega
    have et : vs.take (k + 1) = vs.take k ++ [y] := by rw [List.take_add_one, hy]; rfl
    repeat (first | refine And.intro (by rfl) ?_ | refine litA ?_ | refine litB ?_ | refine litC ?_ | refine litD ?_ | refine And.intro trivial ?_ | refine And.intro (keptI (by repeat' (first | refine And.intro ?_ ?_ | exact True.intro | rfl | (simp; done)))) ?_)
    have h16 := h16 y
    have hag := hag y (List.mem_of_getElem? hy)
    refine ⟨by simp, encC y, by simp [hy], ?_⟩
    repeat (first | refine And.intro (by rfl) ?_ | refine litA ?_ | refine litB ?_ | refine litC ?_ | refine litD ?_ | refine And.intro trivial ?_ | refine And.intro (keptI (by repeat' (first | refine And.intro ?_ ?_ | exact True.intro | rfl | (simp; done)))) ?_)
    rcases hag with hag | hag
    · rw [hag] at h16
      refine ⟨_, _, h16, rfl, rfl, trivial, ?_⟩
      repeat' (first | refine And.intro (by rfl) ?_ | refine litA ?_ | refine litB ?_ | refine litC ?_ | refine litD ?_ | refine And.intro trivial ?_ | refine And.intro (keptI (by repeat' (first | refine And.intro ?_ ?_ | exact True.intro | rfl | (simp; done)))) ?_ | refine ⟨_, _, h33, rfl, rfl, trivial, ?_⟩ | (refine And.intro ?_ ?_ <;> intro h))
      refine ⟨⟨k + 1, hk', trivial⟩, ?_, ?_⟩
      · repeat' (first | refine fitE_ls rfl rfl ?_ | refine fitC_ls rfl ?_ | exact congrArg I e | refine And.intro ?_ ?_ | exact True.intro | rfl | exact ⟨_, _, rfl, rfl⟩ | exact ⟨_, _, rfl⟩ | decide | (simp [St.get, St.obj, look, lookD, unI, List.map_take]; done))
      · dsimp only; omega
    · rw [hag] at h16
      refine ⟨_, _, h16, rfl, rfl, trivial, ?_⟩
      repeat' (first | refine And.intro (by rfl) ?_ | refine litA ?_ | refine litB ?_ | refine litC ?_ | refine litD ?_ | refine And.intro trivial ?_ | refine And.intro (keptI (by repeat' (first | refine And.intro ?_ ?_ | exact True.intro | rfl | (simp; done)))) ?_ | refine ⟨_, _, h33, rfl, rfl, trivial, ?_⟩ | (refine And.intro ?_ ?_ <;> intro h))
      refine ⟨⟨k + 1, hk', trivial⟩, ?_, ?_⟩
      · repeat' (first | refine fitE_ls rfl rfl ?_ | refine fitC_ls rfl ?_ | exact congrArg I e | refine And.intro ?_ ?_ | exact True.intro | rfl | exact ⟨_, _, rfl, rfl⟩ | exact ⟨_, _, rfl⟩ | decide | (simp [St.get, St.obj, look, lookD, unI, List.map_take]; done))
      · dsimp only; omega
end Go.Proofs.YtnkpakakgfkpbaaGreat.V
end
section
namespace Go.Proofs.YtnkpakakgfkpbaaGreat.V
open Go.Vi
set_option maxRecDepth 10000
open Go.ChangeShapes Go.WideShapes Go.ChangeAt Go.RowKit
set_option linter.unusedVariables false
namespace votingNumbers
set_option maxRecDepth 100000 in
theorem lifted (os : Os) (started : os.Started) (H : Type) (enc : TypeId × Value → H) :
    ReturnsInHanded {} Tryz.checked os 6 .any (Rows.votingNumbersSpec.pre6 enc Tryz.prog Tryz.f6 Rows.votingNumbersRow.domain false) (Rows.votingNumbersSpec.post enc Tryz.prog Tryz.f6 false true false false) := by
  refine returnsInHanded_of_change_sized (C := Tryz.checked) own started (by kernel_rfl) Tryz.func6
    (ChangeSpec.witness6 (enc := enc) (C := Tryz.checked) false ⟨#[], #[.slice none 0 0], []⟩ 8 (by kernel_rfl) (by kernel_rfl) (by kernel_rfl) (by kernel_rfl)) ?_
  intro W base args ds gs before hval0 hW hcnd hsz0 _
  have hval : ∀ (j : Nat) t v, Tryz.f6.params[j]? = some t → args[j]? = some v → Value.okWide Tryz.prog W .any base t v := hval0
  have hW' := hW
  obtain ⟨p, q, hA0, hV, rfl, hfz, hnd⟩ := hW
  have hA : DataW.TrodAll enc Tryz.prog W 0 (fun _ => true) true Tryz.f6.params.toList args.toList ds p := hA0
  rw [Tryz.params6] at hA hval
  obtain ⟨v0, vs0, d0, ds0, p0, q0, hargs, rfl, rfl, h0, r0⟩ := trodAll_cons hA
  obtain ⟨rfl, rfl, rfl⟩ := trodAll_nil r0
  obtain rfl : args = #[v0] := by cases args; simp_all
  obtain ⟨rfl, rfl⟩ := trodVars_none hV
  obtain ⟨a0, len0, cap0, rfl⟩ := okWide_slice Tryz.underlying22 (hval 0 22 v0 rfl rfl)
  have k0 := h0
  have lt0 : ∀ x ∈ p0, x.block < W.heap.size := by obtain ⟨m, hm'⟩ := k0; exact DataW.trod_lt m _ _ _ hm'
  obtain ⟨l, hl⟩ := ints_rep h0
  clear hA0 hval0 hsz0
  refine (top_ok (b := true) (f6_ok l) rfl (vs := [.slice a0 len0 cap0]) (W := W) (fun L => .cons hl .nil)).mono fun e W' ⟨he, bel⟩ => ?_
  subst he
  exact ⟨_, rfl, _, _, _, [], _, [], hW', trodAll_mk1 (shut_bool Tryz.underlying4 _), trodAll_cons_mk (Below.trod laidOut (by kernel_rfl) (of_decide_eq_true (by kernel_rfl)) k0 bel lt0) trodAll_mk0, rfl, bel.frame _, fun h => by cases h⟩
set_option maxRecDepth 100000 in
theorem j_in : (Rows.votingNumbersRow.inPlace == Tryz.prog.inPlace 6) = true := by kernel_rfl
set_option maxRecDepth 100000 in
theorem j_un : (Rows.votingNumbersRow.unfollowed == Tryz.prog.unfollowed 6) = true := by kernel_rfl
set_option maxRecDepth 100000 in
theorem j_re : (Rows.votingNumbersRow.recurses == Tryz.prog.recurses 6) = true := by
  have h : Tryz.prog.recurses 6 = true := by
    unfold Program.recurses
    have := j_un
    rw [beq_iff_eq] at this
    rw [← this]; rfl
  rw [h]; rfl
set_option maxRecDepth 100000 in
theorem j_na : (Rows.votingNumbersRow.named == Tryz.prog.varsNamed 6) = true := by kernel_rfl
set_option maxRecDepth 100000 in
theorem closed : joinedFacts Tryz.prog 6 Tryz.f6 Rows.votingNumbersSpec Rows.votingNumbersRow = true := by
  unfold joinedFacts
  rw [j_in, j_un, j_re, j_na]
  kernel_rfl
set_option maxRecDepth 100000 in
theorem over : Rows.votingNumbersRow.holds Tryz.pinned (OpenSpec.ofChange Rows.votingNumbersSpec) :=
  OpenClaim.holds_of_wide 6 Tryz.f6 rfl rfl rfl rfl rfl rfl rfl ⟨rfl, rfl, rfl, rfl, rfl⟩ rfl rfl rfl rfl rfl (by kernel_rfl) Tryz.func6 closed
    (of_decide_eq_true (by kernel_rfl)) (by unfold Func.isWrapper; first | (rw [if_pos (by decide +kernel)]; kernel_rfl) | (rw [if_neg (by decide +kernel)]; exact ⟨rfl, rfl⟩))
    (fun os started H enc _ => lifted os started H enc)
theorem proved : Rows.VotingNumbersSaid := over
end votingNumbers
theorem votingNumbers_holds : Rows.VotingNumbersSaid := votingNumbers.proved
end Go.Proofs.YtnkpakakgfkpbaaGreat.V
end
namespace Go.Proofs.YtnkpakakgfkpbaaGreat
theorem votingNumbers_holds : Rows.VotingNumbersSaid := V.votingNumbers_holds
end Go.Proofs.YtnkpakakgfkpbaaGreat
