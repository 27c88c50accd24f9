/-
  VotingSettles: for every list of integers the law's function returns true, and the argument reads behind the call as it read before. No condition.
-/
import Derived.Test.YtnkpakakgfkpbaaGreatK8
import Derived.WalkKit
import Derived.ProofKit
import Derived.OpenShut
import Derived.ChangeOld
import Derived.Below
import Derived.SizedLaws
import Derived.ChangeSlices
set_option linter.unusedVariables false
set_option linter.unusedSimpArgs false
section
namespace Go.Proofs.YtnkpakakgfkpbaaGreat.V
open Go.Vi
set_option maxRecDepth 10000
/-! ref02.Same, ref18.Same, ref19.Same -/
theorem f192_ok (a b : List Int) : C 192 [encI a, encI b] (bval (decide (a = b))) := by
  refine fn_real (G := G) tabOK hm pl192 Tryz.func192 rfl (by kernel_rfl) (by kernel_rfl) rfl rfl fun hr => ?_
  have hla : (a.length : Int) ≤ 9223372036854775807 := by simpa using RealA.len hr (sz := 1) (es := a.map fun x => [I x]) (by simp)
  repeat' (first | refine And.intro (by rfl) ?_ | refine litA ?_ | refine litB ?_ | refine litC ?_ | refine litD ?_ | refine And.intro trivial ?_ | refine And.intro (keptI (by repeat' (first | refine And.intro ?_ ?_ | exact True.intro | rfl | (simp; done)))) ?_ | (refine And.intro ?_ ?_ <;> intro h))
  · exact ⟨subB (by simp at h; simp; intro e; exact h (by rw [e])), rfl⟩
  have hab : a.length = b.length := by simp at h; omega
  refine loop_ok (G := G) tabOK hm pl192 (α := {k : Nat // k ≤ a.length ∧ a.take k = b.take k}) (fun k => ⟨26, [(13, I k.1), (12, I (a.map fun x => [I x]).length), (0, encI a), (1, encI b)], []⟩) (fun k => a.length - k.1) (by kernel_rfl) ⟨0, Nat.zero_le _, by first | rfl | simp⟩ ?_ ?_
  · repeat' (first | refine fitE_ls rfl rfl ?_ | refine fitC_ls rfl ?_ | refine And.intro ?_ ?_ | exact True.intro | rfl | exact ⟨_, _, rfl, rfl⟩ | exact ⟨_, _, rfl⟩ | decide | (simp [St.get, St.obj, look, lookD, unI, List.map_take]; done))
  rintro ⟨k, hk, hx⟩
  repeat (first | refine And.intro (by rfl) ?_ | refine litA ?_ | refine litB ?_ | refine litC ?_ | refine litD ?_ | refine And.intro trivial ?_ | refine And.intro (keptI (by repeat' (first | refine And.intro ?_ ?_ | exact True.intro | rfl | (simp; done)))) ?_)
  refine And.intro (fun h => ?_) (fun h => ?_)
  rotate_left
  · have hl : a.length ≤ k := by simpa using h
    repeat (first | refine And.intro (by rfl) ?_ | refine litA ?_ | refine litB ?_ | refine litC ?_ | refine litD ?_ | refine And.intro trivial ?_ | refine And.intro (keptI (by repeat' (first | refine And.intro ?_ ?_ | exact True.intro | rfl | (simp; done)))) ?_)
    have ek : a.take k = a := List.take_of_length_le hl
    try rw [ek] at hx
    exact ⟨subB (by rw [hab] at hl; rw [List.take_of_length_le (by omega)] at hx; simp [hx]), rfl⟩
  have hk' : k < a.length := by simpa using h
  obtain ⟨y, hy⟩ : ∃ y, a[k]? = some y := ⟨_, List.getElem?_eq_getElem hk'⟩
  have e : IntKind.i64.wrap ((k : Int) + 1) = ((k + 1 : Nat) : Int) := by rw [wrap_id] <;> omega
  have et : a.take (k + 1) = a.take k ++ [y] := by rw [List.take_add_one, hy]; rfl
  repeat (first | refine And.intro (by rfl) ?_ | refine litA ?_ | refine litB ?_ | refine litC ?_ | refine litD ?_ | refine And.intro trivial ?_ | refine And.intro (keptI (by repeat' (first | refine And.intro ?_ ?_ | exact True.intro | rfl | (simp; done)))) ?_)
  obtain ⟨z, hz⟩ : ∃ z, b[k]? = some z := ⟨_, List.getElem?_eq_getElem (by omega)⟩
  refine ⟨by simp, [I y], by simp [hy], ?_⟩
  repeat (first | refine And.intro (by rfl) ?_ | refine litA ?_ | refine litB ?_ | refine litC ?_ | refine litD ?_ | refine And.intro trivial ?_ | refine And.intro (keptI (by repeat' (first | refine And.intro ?_ ?_ | exact True.intro | rfl | (simp; done)))) ?_)
  refine ⟨by simp, [I z], by simp [hz], ?_⟩
  repeat' (first | refine And.intro (by rfl) ?_ | refine litA ?_ | refine litB ?_ | refine litC ?_ | refine litD ?_ | refine And.intro trivial ?_ | refine And.intro (keptI (by repeat' (first | refine And.intro ?_ ?_ | exact True.intro | rfl | (simp; done)))) ?_ | (refine And.intro ?_ ?_ <;> intro h))
  · have h : (y != z) = true := h
    exact ⟨subB (by simp at h; simp; intro e; rw [e] at hy; rw [hy] at hz; exact h (by injection hz)), rfl⟩
  · have h : (y != z) = false := h
    refine ⟨⟨k + 1, hk', (by rw [et, List.take_add_one, hz, hx]; simp at h; simp [h])⟩, ?_, ?_⟩
    · repeat' (first | refine fitE_ls rfl rfl ?_ | refine fitC_ls rfl ?_ | exact congrArg I e | refine And.intro ?_ ?_ | exact True.intro | rfl | exact ⟨_, _, rfl, rfl⟩ | exact ⟨_, _, rfl⟩ | decide | (simp [St.get, St.obj, look, lookD, unI, List.map_take]; done))
    · dsimp only; omega
theorem f119_ok (a b : Trust) : C 119 [.agg (encT a), .agg (encT b)] (bval (decide (a = b))) := by
  induction a using Trust.ind generalizing b with
  | h t n i ih =>
  obtain ⟨t', n', i'⟩ := b
  refine fn_real (G := G) tabOK hm pl119 Tryz.func119 rfl (by kernel_rfl) (by kernel_rfl) rfl rfl fun hr => ?_
  have hli : (i.length : Int) ≤ 9223372036854775807 := by simpa using (hr (.agg (encT (.mk t n i))) (by simp) (encTL i) (by simp [acells, encT]) rfl).len
  clear hr
  repeat' (first | refine And.intro (by rfl) ?_ | refine litA ?_ | refine litB ?_ | refine litC ?_ | refine litD ?_ | refine And.intro trivial ?_ | refine And.intro (keptI (by repeat' (first | refine And.intro ?_ ?_ | exact True.intro | rfl | (simp; done)))) ?_ | refine ⟨_, _, f192_ok n n', rfl, rfl, trivial, ?_⟩ | (refine And.intro ?_ ?_ <;> intro h))
  · exact ⟨subB (by simp at h; simp; intro _ _ e; exact h (by rw [e])), rfl⟩
  rotate_left
  · exact ⟨subB (by simp at h; simp [h]), rfl⟩
  · exact ⟨subB (by simp at h; simp [h]), rfl⟩
  rename_i g1 g2
  have g1 : t = t' := by simpa using g1
  have g2 : n = n' := by simpa using g2
  subst g1 g2
  have hab : i.length = i'.length := by simp at h; omega
  have e0 : decide (Trust.mk t n i = .mk t n i') = decide (i = i') := by simp
  rw [e0]
  clear e0
  refine loop_ok (G := G) tabOK hm pl119 (α := {k : Nat // k ≤ i.length ∧ i.take k = i'.take k}) (fun k => ⟨47, [(31, I k.1), (30, I (encTs i).length), (2, .loc 3000 0), (3, .loc 4000 0)], [(3000, .box (encT (.mk t n i)) false), (4000, .box (encT (.mk t n i')) false)]⟩) (fun k => i.length - k.1) (by kernel_rfl) ⟨0, Nat.zero_le _, by first | rfl | simp⟩ ?_ ?_
  · repeat' (first | refine fitE_ls rfl rfl ?_ | refine fitC_ls rfl ?_ | refine And.intro ?_ ?_ | exact True.intro | rfl | exact ⟨_, _, rfl, rfl⟩ | exact ⟨_, _, rfl⟩ | decide | (simp [St.get, St.obj, look, lookD, unI, List.map_take]; done))
  rintro ⟨k, hk, hx⟩
  repeat (first | refine And.intro (by rfl) ?_ | refine litA ?_ | refine litB ?_ | refine litC ?_ | refine litD ?_ | refine And.intro trivial ?_ | refine And.intro (keptI (by repeat' (first | refine And.intro ?_ ?_ | exact True.intro | rfl | (simp; done)))) ?_)
  refine And.intro (fun h => ?_) (fun h => ?_)
  rotate_left
  · have hl : i.length ≤ k := by simpa using h
    repeat (first | refine And.intro (by rfl) ?_ | refine litA ?_ | refine litB ?_ | refine litC ?_ | refine litD ?_ | refine And.intro trivial ?_ | refine And.intro (keptI (by repeat' (first | refine And.intro ?_ ?_ | exact True.intro | rfl | (simp; done)))) ?_)
    have ek : i.take k = i := List.take_of_length_le hl
    try rw [ek] at hx
    exact ⟨subB (by rw [hab] at hl; rw [List.take_of_length_le (by omega)] at hx; simp [hx]), rfl⟩
  have hk' : k < i.length := by simpa using h
  obtain ⟨y, hy⟩ : ∃ y, i[k]? = some y := ⟨_, List.getElem?_eq_getElem hk'⟩
  have e : IntKind.i64.wrap ((k : Int) + 1) = ((k + 1 : Nat) : Int) := by rw [wrap_id] <;> omega
  have et : i.take (k + 1) = i.take k ++ [y] := by rw [List.take_add_one, hy]; rfl
  repeat (first | refine And.intro (by rfl) ?_ | refine litA ?_ | refine litB ?_ | refine litC ?_ | refine litD ?_ | refine And.intro trivial ?_ | refine And.intro (keptI (by repeat' (first | refine And.intro ?_ ?_ | exact True.intro | rfl | (simp; done)))) ?_)
  obtain ⟨z, hz⟩ : ∃ z, i'[k]? = some z := ⟨_, List.getElem?_eq_getElem (by omega)⟩
  have hyi := List.mem_of_getElem? hy
  obtain ⟨ty, ny, iy⟩ := y
  obtain ⟨tz, nz, iz⟩ := z
  refine ⟨by simp, encT (.mk ty ny iy), by simpa using encTs_get hy, ?_⟩
  repeat (first | refine And.intro (by rfl) ?_ | refine litA ?_ | refine litB ?_ | refine litC ?_ | refine litD ?_ | refine And.intro trivial ?_ | refine And.intro (keptI (by repeat' (first | refine And.intro ?_ ?_ | exact True.intro | rfl | (simp; done)))) ?_)
  refine ⟨by simp, encT (.mk tz nz iz), by simpa using encTs_get hz, ?_⟩
  repeat (first | refine And.intro (by rfl) ?_ | refine litA ?_ | refine litB ?_ | refine litC ?_ | refine litD ?_ | refine And.intro trivial ?_ | refine And.intro (keptI (by repeat' (first | refine And.intro ?_ ?_ | exact True.intro | rfl | (simp; done)))) ?_)
  refine ⟨_, _, ih (.mk ty ny iy) hyi (.mk tz nz iz), rfl, rfl, trivial, ?_⟩
  repeat' (first | refine And.intro (by rfl) ?_ | refine litA ?_ | refine litB ?_ | refine litC ?_ | refine litD ?_ | refine And.intro trivial ?_ | refine And.intro (keptI (by repeat' (first | refine And.intro ?_ ?_ | exact True.intro | rfl | (simp; done)))) ?_ | (refine And.intro ?_ ?_ <;> intro h))
  · have h := of_decide_eq_false (by simpa only [Bool.not_eq_true'] using h)
    exact ⟨subB (by rw [eq_comm, decide_eq_false_iff_not]; intro e; rw [e, hz] at hy; exact h (Option.some.inj hy).symm), rfl⟩
  · refine ⟨⟨k + 1, hk', (by rw [et, List.take_add_one, hz, hx]; simp at h; simp [h])⟩, ?_, ?_⟩
    · repeat' (first | refine fitE_ls rfl rfl ?_ | refine fitC_ls rfl ?_ | exact congrArg I e | refine And.intro ?_ ?_ | exact True.intro | rfl | exact ⟨_, _, rfl, rfl⟩ | exact ⟨_, _, rfl⟩ | decide | (simp [St.get, St.obj, look, lookD, unI, List.map_take]; done))
    · dsimp only; omega
noncomputable instance : DecidableEq Message := fun _ _ => Classical.propDecidable _
noncomputable instance : DecidableEq Voter := fun _ _ => Classical.propDecidable _
theorem f41_ok (a b : Message) : C 41 [.agg (encM a), .agg (encM b)] (bval (decide (a = b))) := by
  obtain ⟨nd, sq, ⟨t, n, i⟩, vs, ac⟩ := a
  obtain ⟨nd', sq', ⟨t', n', i'⟩, vs', ac'⟩ := b
  have e : decide ((⟨nd, sq, .mk t n i, vs, ac⟩ : Message) = ⟨nd', sq', .mk t' n' i', vs', ac'⟩) = (decide (nd = nd') && decide (sq = sq') && decide (Trust.mk t n i = .mk t' n' i') && decide (vs = vs') && decide (ac = ac')) := by
    rw [Bool.eq_iff_iff]; simp [and_assoc]
  rw [e]
  refine fn_ok (G := G) tabOK hm D0 Tryz.func41 rfl (by kernel_rfl) (by kernel_rfl) rfl rfl ?_
  repeat' (first | refine And.intro (by rfl) ?_ | refine litA ?_ | refine litB ?_ | refine litC ?_ | refine litD ?_ | refine And.intro trivial ?_ | refine And.intro (keptI (by repeat' (first | refine And.intro ?_ ?_ | exact True.intro | rfl | (simp; done)))) ?_ | refine ⟨_, _, f119_ok (.mk t n i) (.mk t' n' i'), rfl, rfl, trivial, ?_⟩ | refine ⟨_, _, f20_ok vs vs', rfl, rfl, trivial, ?_⟩ | refine ⟨_, _, f20_ok ac ac', rfl, rfl, trivial, ?_⟩ | (refine And.intro ?_ ?_ <;> intro h))
  all_goals exact ⟨subB (by simp at *; simp_all), rfl⟩
theorem f33_ok (a b : Voter) : C 33 [.agg (encV a), .agg (encV b)] (bval (decide (a = b))) := by
  obtain ⟨nd, sq, ⟨t, n, i⟩, vs, ac, cf, hd⟩ := a
  obtain ⟨nd', sq', ⟨t', n', i'⟩, vs', ac', cf', hd'⟩ := b
  have e : decide ((⟨nd, sq, .mk t n i, vs, ac, cf, hd⟩ : Voter) = ⟨nd', sq', .mk t' n' i', vs', ac', cf', hd'⟩) = (decide (nd = nd') && decide (sq = sq') && decide (Trust.mk t n i = .mk t' n' i') && decide (vs = vs') && decide (ac = ac') && decide (cf = cf') && decide (hd = hd')) := by
    rw [Bool.eq_iff_iff]; simp [and_assoc]
  rw [e]
  clear e
  refine fn_real (G := G) tabOK hm pl33 Tryz.func33 rfl (by kernel_rfl) (by kernel_rfl) rfl rfl fun hr => ?_
  have hlh : (hd.length : Int) ≤ 9223372036854775807 := by simpa using (hr (.agg (encV ⟨nd, sq, .mk t n i, vs, ac, cf, hd⟩)) (by simp) (encML hd) (by simp [acells, encV]) rfl).len
  clear hr
  repeat' (first | refine And.intro (by rfl) ?_ | refine litA ?_ | refine litB ?_ | refine litC ?_ | refine litD ?_ | refine And.intro trivial ?_ | refine And.intro (keptI (by repeat' (first | refine And.intro ?_ ?_ | exact True.intro | rfl | (simp; done)))) ?_ | refine ⟨_, _, f119_ok (.mk t n i) (.mk t' n' i'), rfl, rfl, trivial, ?_⟩ | refine ⟨_, _, f20_ok vs vs', rfl, rfl, trivial, ?_⟩ | refine ⟨_, _, f20_ok ac ac', rfl, rfl, trivial, ?_⟩ | refine ⟨_, _, f20_ok cf cf', rfl, rfl, trivial, ?_⟩ | (refine And.intro ?_ ?_ <;> intro h))
  all_goals try exact ⟨subB (by simp at *; simp_all; try (intros; intro e; simp_all)), rfl⟩
  rename_i g0 g1 g2 g3 g4 g5
  have hab : hd.length = hd'.length := by simp at h; omega
  have e : (decide (nd = nd') && decide (sq = sq') && decide (Trust.mk t n i = .mk t' n' i') && decide (vs = vs') && decide (ac = ac') && decide (cf = cf') && decide (hd = hd')) = decide (hd = hd') := by
    simp only [Bool.not_eq_false'] at g2 g3 g4 g5
    have g0 : decide (nd = nd') = true := by simpa using g0
    have g1 : decide (sq = sq') = true := by simpa using g1
    rw [g0, g1, g2, g3, g4, g5]; simp
  rw [e]
  clear e g0 g1 g2 g3 g4 g5 h
  refine loop_ok (G := G) tabOK hm pl33 (α := {k : Nat // k ≤ hd.length ∧ hd.take k = hd'.take k}) (fun k => ⟨78, [(62, I k.1), (61, I (hd.map encM).length), (2, .loc 3000 0), (3, .loc 4000 0)], [(3000, .box (encV ⟨nd, sq, .mk t n i, vs, ac, cf, hd⟩) false), (4000, .box (encV ⟨nd', sq', .mk t' n' i', vs', ac', cf', hd'⟩) false)]⟩) (fun k => hd.length - k.1) (by kernel_rfl) ⟨0, Nat.zero_le _, by first | rfl | simp⟩ ?_ ?_
  · repeat' (first | refine fitE_ls rfl rfl ?_ | refine fitC_ls rfl ?_ | refine And.intro ?_ ?_ | exact True.intro | rfl | exact ⟨_, _, rfl, rfl⟩ | exact ⟨_, _, rfl⟩ | decide | (simp [St.get, St.obj, look, lookD, unI, List.map_take]; done))
  rintro ⟨k, hk, hx⟩
  repeat (first | refine And.intro (by rfl) ?_ | refine litA ?_ | refine litB ?_ | refine litC ?_ | refine litD ?_ | refine And.intro trivial ?_ | refine And.intro (keptI (by repeat' (first | refine And.intro ?_ ?_ | exact True.intro | rfl | (simp; done)))) ?_)
  refine And.intro (fun h => ?_) (fun h => ?_)
  rotate_left
  · have hl : hd.length ≤ k := by simpa using h
    repeat (first | refine And.intro (by rfl) ?_ | refine litA ?_ | refine litB ?_ | refine litC ?_ | refine litD ?_ | refine And.intro trivial ?_ | refine And.intro (keptI (by repeat' (first | refine And.intro ?_ ?_ | exact True.intro | rfl | (simp; done)))) ?_)
    have ek : hd.take k = hd := List.take_of_length_le hl
    try rw [ek] at hx
    exact ⟨subB (by rw [hab] at hl; rw [List.take_of_length_le (by omega)] at hx; simp [hx]), rfl⟩
  have hk' : k < hd.length := by simpa using h
  obtain ⟨y, hy⟩ : ∃ y, hd[k]? = some y := ⟨_, List.getElem?_eq_getElem hk'⟩
  have e : IntKind.i64.wrap ((k : Int) + 1) = ((k + 1 : Nat) : Int) := by rw [wrap_id] <;> omega
  have et : hd.take (k + 1) = hd.take k ++ [y] := by rw [List.take_add_one, hy]; rfl
  repeat (first | refine And.intro (by rfl) ?_ | refine litA ?_ | refine litB ?_ | refine litC ?_ | refine litD ?_ | refine And.intro trivial ?_ | refine And.intro (keptI (by repeat' (first | refine And.intro ?_ ?_ | exact True.intro | rfl | (simp; done)))) ?_)
  obtain ⟨z, hz⟩ : ∃ z, hd'[k]? = some z := ⟨_, List.getElem?_eq_getElem (by omega)⟩
  have h41 := f41_ok y z
  obtain ⟨yn, ys, ⟨yt, ynn, yi⟩, yv, ya⟩ := y
  obtain ⟨zn, zs, ⟨zt, znn, zi⟩, zv, za⟩ := z
  refine ⟨by simp, encM ⟨yn, ys, .mk yt ynn yi, yv, ya⟩, by simp only [Int.toNat_natCast, List.getElem?_map, hy]; rfl, ?_⟩
  repeat (first | refine And.intro (by rfl) ?_ | refine litA ?_ | refine litB ?_ | refine litC ?_ | refine litD ?_ | refine And.intro trivial ?_ | refine And.intro (keptI (by repeat' (first | refine And.intro ?_ ?_ | exact True.intro | rfl | (simp; done)))) ?_)
  refine ⟨by simp, encM ⟨zn, zs, .mk zt znn zi, zv, za⟩, by simp only [Int.toNat_natCast, List.getElem?_map, hz]; rfl, ?_⟩
  repeat (first | refine And.intro (by rfl) ?_ | refine litA ?_ | refine litB ?_ | refine litC ?_ | refine litD ?_ | refine And.intro trivial ?_ | refine And.intro (keptI (by repeat' (first | refine And.intro ?_ ?_ | exact True.intro | rfl | (simp; done)))) ?_)
  refine ⟨_, _, h41, rfl, rfl, trivial, ?_⟩
  repeat' (first | refine And.intro (by rfl) ?_ | refine litA ?_ | refine litB ?_ | refine litC ?_ | refine litD ?_ | refine And.intro trivial ?_ | refine And.intro (keptI (by repeat' (first | refine And.intro ?_ ?_ | exact True.intro | rfl | (simp; done)))) ?_ | (refine And.intro ?_ ?_ <;> intro h))
  · have h := of_decide_eq_false (by simpa only [Bool.not_eq_true'] using h)
    exact ⟨subB (by rw [eq_comm, decide_eq_false_iff_not]; intro e; rw [e, hz] at hy; exact h (Option.some.inj hy).symm), rfl⟩
  · have h := of_decide_eq_true (by simpa only [Bool.not_eq_false'] using h)
    refine ⟨⟨k + 1, hk', (by rw [et, List.take_add_one, hz, hx, h]; rfl)⟩, ?_, ?_⟩
    · repeat' (first | refine fitE_ls rfl rfl ?_ | refine fitC_ls rfl ?_ | exact congrArg I e | refine And.intro ?_ ?_ | exact True.intro | rfl | exact ⟨_, _, rfl, rfl⟩ | exact ⟨_, _, rfl⟩ | decide | (simp [St.get, St.obj, look, lookD, unI, List.map_take]; done))
    · dsimp only; omega
end Go.Proofs.YtnkpakakgfkpbaaGreat.V
end
section
namespace Go.Proofs.YtnkpakakgfkpbaaGreat.V
open Go.Vi
set_option maxRecDepth 10000
/-! reference functions of chapters 01, 02, 06, 11 -/
theorem f64_ok (s : Int) : C 64 [I s] (encI (nodesUpTo s 10)) := by
  refine fn_ok (G := G) tabOK hm D0 Tryz.func64 rfl (by kernel_rfl) (by kernel_rfl) rfl rfl ?_
  repeat (first | refine And.intro (by rfl) ?_ | refine litA ?_ | refine litB ?_ | refine litC ?_ | refine litD ?_ | refine And.intro trivial ?_ | refine And.intro (keptI (by repeat' (first | refine And.intro ?_ ?_ | exact True.intro | rfl | (simp; done)))) ?_)
  refine loop_ok (G := G) tabOK hm D0 (α := {k : Nat // k ≤ 10}) (fun k => ⟨17, [(4, I k.1), (3, .ls 16000 ((nodesUpTo s k.1).map fun x => [I x]).length), (0, I s)], [(16000, .row 3 1 ((nodesUpTo s k.1).map fun x => [I x]) false)]⟩) (fun k => 10 - k.1) (by kernel_rfl) ⟨0, by omega⟩ ?_ ?_
  · repeat' (first | refine fitE_ls rfl rfl ?_ | refine fitC_ls rfl ?_ | refine And.intro ?_ ?_ | exact True.intro | rfl | exact ⟨_, _, rfl, rfl⟩ | exact ⟨_, _, rfl⟩ | decide | (simp [St.get, St.obj, look, lookD, unI, List.map_take]; done))
  rintro ⟨k, hk⟩
  repeat (first | refine And.intro (by rfl) ?_ | refine litA ?_ | refine litB ?_ | refine litC ?_ | refine litD ?_ | refine And.intro trivial ?_ | refine And.intro (keptI (by repeat' (first | refine And.intro ?_ ?_ | exact True.intro | rfl | (simp; done)))) ?_)
  refine And.intro (fun h => ?_) (fun h => ?_)
  rotate_left
  · have : k = 10 := by simp at h; omega
    subst this
    repeat (first | refine And.intro (by rfl) ?_ | refine litA ?_ | refine litB ?_ | refine litC ?_ | refine litD ?_ | refine And.intro trivial ?_ | refine And.intro (keptI (by repeat' (first | refine And.intro ?_ ?_ | exact True.intro | rfl | (simp; done)))) ?_)
    repeat' (first | refine And.intro ?_ ?_ | exact .inl rfl | rfl | exact .inr ⟨rfl, _, rfl⟩)
  have hk' : k < 10 := by simp at h; omega
  have e : IntKind.i64.wrap ((k : Int) + 1) = ((k + 1 : Nat) : Int) := by rw [wrap_id] <;> omega
  have hl := nodesUpTo_len s k
  repeat (first | refine And.intro (by rfl) ?_ | refine litA ?_ | refine litB ?_ | refine litC ?_ | refine litD ?_ | refine And.intro trivial ?_ | refine And.intro (keptI (by repeat' (first | refine And.intro ?_ ?_ | exact True.intro | rfl | (simp; done)))) ?_)
  refine ⟨_, _, f61_ok s k, rfl, rfl, trivial, ?_⟩
  repeat' (first | refine And.intro (by rfl) ?_ | refine litA ?_ | refine litB ?_ | refine litC ?_ | refine litD ?_ | refine And.intro trivial ?_ | refine And.intro (keptI (by repeat' (first | refine And.intro ?_ ?_ | exact True.intro | rfl | (simp; done)))) ?_ | (refine And.intro ?_ ?_ <;> intro h))
  · refine ⟨(show ((nodesUpTo s k).map fun x => [I x]).length + 1 ≤ 1073741824 by simp; omega), rfl, ?_⟩
    repeat (first | refine And.intro (by rfl) ?_ | refine litA ?_ | refine litB ?_ | refine litC ?_ | refine litD ?_ | refine And.intro trivial ?_ | refine And.intro (keptI (by repeat' (first | refine And.intro ?_ ?_ | exact True.intro | rfl | (simp; done)))) ?_)
    have hsn := nodesUpTo_succ s k
    rw [if_pos h] at hsn
    have el : ((nodesUpTo s k).map fun x => [I x]).length + 1 = ((nodesUpTo s (k + 1)).map fun x => [I x]).length := by rw [hsn]; simp
    have eo : ((nodesUpTo s k).map fun x => [I x]) ++ [[I k]] = (nodesUpTo s (k + 1)).map fun x => [I x] := by rw [hsn]; simp
    refine ⟨⟨k + 1, hk'⟩, ?_, ?_⟩
    · repeat' (first | refine fitE_ls rfl rfl ?_ | refine fitC_ls rfl ?_ | refine fitE_ls (congrArg (PV.ls 16000) el) rfl ?_ | exact congrArg I e | exact congrArg (fun m => Obj.row 3 1 m false) eo | refine And.intro ?_ ?_ | exact True.intro | rfl | exact ⟨_, _, rfl, rfl⟩ | exact ⟨_, _, rfl⟩ | decide | (simp [St.get, St.obj, look, lookD, unI, List.map_take]; done))
    · dsimp only; omega
  · have hsn := nodesUpTo_succ s k
    rw [if_neg (by rw [h]; simp), List.append_nil] at hsn
    refine ⟨⟨k + 1, hk'⟩, ?_, ?_⟩
    · rw [hsn]
      repeat' (first | refine fitE_ls rfl rfl ?_ | refine fitC_ls rfl ?_ | exact congrArg I e | refine And.intro ?_ ?_ | exact True.intro | rfl | exact ⟨_, _, rfl, rfl⟩ | exact ⟨_, _, rfl⟩ | decide | (simp [St.get, St.obj, look, lookD, unI, List.map_take]; done))
    · dsimp only; omega
theorem f188_ok (c : List Member) : C 188 [encCfg c] (I (declS c)) := by
  refine fn_real (G := G) tabOK hm D0 Tryz.func188 rfl (by kernel_rfl) (by kernel_rfl) rfl rfl fun hr => ?_
  have hlen : (c.length : Int) ≤ 9223372036854775807 := by simpa using (hr (encCfg c) (by simp) (.sl none 4 (c.map encMb)) (by simp [acells]) rfl).len
  clear hr
  repeat (first | refine And.intro (by rfl) ?_ | refine litA ?_ | refine litB ?_ | refine litC ?_ | refine litD ?_ | refine And.intro trivial ?_ | refine And.intro (keptI (by repeat' (first | refine And.intro ?_ ?_ | exact True.intro | rfl | (simp; done)))) ?_)
  refine loop_ok (G := G) tabOK hm D0 (α := {p : Nat × Int // p.1 ≤ c.length ∧ 0 ≤ p.2 ∧ p.2 < 1024 ∧ declS c = declP (c.drop p.1) p.1 p.2}) (fun p => ⟨26, [(3, I p.1.2), (9, I p.1.1), (8, I (c.map encMb).length), (7, .sl none 4 (c.map encMb))], []⟩) (fun p => c.length - p.1.1) (by kernel_rfl) ⟨(0, 0), by simp [declS]⟩ ?_ ?_
  · repeat' (first | refine fitE_ls rfl rfl ?_ | refine fitC_ls rfl ?_ | refine And.intro ?_ ?_ | exact True.intro | rfl | exact ⟨_, _, rfl, rfl⟩ | exact ⟨_, _, rfl⟩ | decide | (simp [St.get, St.obj, look, lookD, unI, List.map_take]; done))
  rintro ⟨⟨k, s⟩, hk, h1, h2, hx⟩
  dsimp only at hk h1 h2 hx
  repeat (first | refine And.intro (by rfl) ?_ | refine litA ?_ | refine litB ?_ | refine litC ?_ | refine litD ?_ | refine And.intro trivial ?_ | refine And.intro (keptI (by repeat' (first | refine And.intro ?_ ?_ | exact True.intro | rfl | (simp; done)))) ?_)
  refine And.intro (fun h => ?_) (fun h => ?_)
  rotate_left
  · have hl : c.length ≤ k := by simpa using h
    rw [List.drop_of_length_le hl, declP] at hx
    repeat (first | refine And.intro (by rfl) ?_ | refine litA ?_ | refine litB ?_ | refine litC ?_ | refine litD ?_ | refine And.intro trivial ?_ | refine And.intro (keptI (by repeat' (first | refine And.intro ?_ ?_ | exact True.intro | rfl | (simp; done)))) ?_)
    exact ⟨subI hx.symm, rfl⟩
  have hk' : k < c.length := by simpa using h
  obtain ⟨y, hy⟩ : ∃ y, c[k]? = some y := ⟨_, List.getElem?_eq_getElem hk'⟩
  have e : IntKind.i64.wrap ((k : Int) + 1) = ((k + 1 : Nat) : Int) := by rw [wrap_id] <;> omega
  rw [drop_at hy, declP] at hx
  cases y with
  | none =>
    rw [if_neg (fun g => by cases g.1)] at hx
    repeat (first | refine And.intro (by rfl) ?_ | refine litA ?_ | refine litB ?_ | refine litC ?_ | refine litD ?_ | refine And.intro trivial ?_ | refine And.intro (keptI (by repeat' (first | refine And.intro ?_ ?_ | exact True.intro | rfl | (simp; done)))) ?_)
    refine ⟨by simp, encMb none, by simp only [Int.toNat_natCast, List.getElem?_map, hy]; rfl, ?_⟩
    repeat' (first | refine And.intro (by rfl) ?_ | refine litA ?_ | refine litB ?_ | refine litC ?_ | refine litD ?_ | refine And.intro trivial ?_ | refine And.intro (keptI (by repeat' (first | refine And.intro ?_ ?_ | exact True.intro | rfl | (simp; done)))) ?_ | (refine And.intro ?_ ?_ <;> intro h))
    · refine ⟨⟨(k + 1, s), hk', h1, h2, hx⟩, ?_, ?_⟩
      · repeat' (first | refine fitE_ls rfl rfl ?_ | refine fitC_ls rfl ?_ | exact congrArg I e | refine And.intro ?_ ?_ | exact True.intro | rfl | exact ⟨_, _, rfl, rfl⟩ | exact ⟨_, _, rfl⟩ | decide | (simp [St.get, St.obj, look, lookD, unI, List.map_take]; done))
      · dsimp only; omega
    · refine ⟨⟨(k + 1, s), hk', h1, h2, hx⟩, ?_, ?_⟩
      · repeat' (first | refine fitE_ls rfl rfl ?_ | refine fitC_ls rfl ?_ | exact congrArg I e | refine And.intro ?_ ?_ | exact True.intro | rfl | exact ⟨_, _, rfl, rfl⟩ | exact ⟨_, _, rfl⟩ | decide | (simp [St.get, St.obj, look, lookD, unI, List.map_take]; done))
      · dsimp only; omega
  | some y =>
    obtain ⟨ty, ny, iy⟩ := y
    repeat (first | refine And.intro (by rfl) ?_ | refine litA ?_ | refine litB ?_ | refine litC ?_ | refine litD ?_ | refine And.intro trivial ?_ | refine And.intro (keptI (by repeat' (first | refine And.intro ?_ ?_ | exact True.intro | rfl | (simp; done)))) ?_)
    refine ⟨by simp, encMb (some (.mk ty ny iy)), by simp only [Int.toNat_natCast, List.getElem?_map, hy]; rfl, ?_⟩
    repeat' (first | refine And.intro (by rfl) ?_ | refine litA ?_ | refine litB ?_ | refine litC ?_ | refine litD ?_ | refine And.intro trivial ?_ | refine And.intro (keptI (by repeat' (first | refine And.intro ?_ ?_ | exact True.intro | rfl | (simp; done)))) ?_ | (refine And.intro ?_ ?_ <;> intro h))
    · have h10 : k < 10 := by simp at h; omega
      rw [if_pos ⟨rfl, h10⟩] at hx
      refine ⟨by simp, ?_⟩
      repeat (first | refine And.intro (by rfl) ?_ | refine litA ?_ | refine litB ?_ | refine litC ?_ | refine litD ?_ | refine And.intro trivial ?_ | refine And.intro (keptI (by repeat' (first | refine And.intro ?_ ?_ | exact True.intro | rfl | (simp; done)))) ?_)
      have hb := orS_lt h1 h2 (show (0 : Int) ≤ k by omega) (by omega)
      have eor := or_pow h1 h2 (show (0 : Int) ≤ (k : Int) by omega) (by omega)
      refine ⟨⟨(k + 1, orS s k), hk', hb.1, hb.2, hx⟩, ?_, ?_⟩
      · repeat' (first | refine fitE_ls rfl rfl ?_ | refine fitC_ls rfl ?_ | exact congrArg I e | exact congrArg I eor | refine And.intro ?_ ?_ | exact True.intro | rfl | exact ⟨_, _, rfl, rfl⟩ | exact ⟨_, _, rfl⟩ | decide | (simp [St.get, St.obj, look, lookD, unI, List.map_take]; done))
      · dsimp only; omega
    · have h10 : ¬ k < 10 := by simp at h; omega
      rw [if_neg (fun g => h10 g.2)] at hx
      refine ⟨⟨(k + 1, s), hk', h1, h2, hx⟩, ?_, ?_⟩
      · repeat' (first | refine fitE_ls rfl rfl ?_ | refine fitC_ls rfl ?_ | exact congrArg I e | refine And.intro ?_ ?_ | exact True.intro | rfl | exact ⟨_, _, rfl, rfl⟩ | exact ⟨_, _, rfl⟩ | decide | (simp [St.get, St.obj, look, lookD, unI, List.map_take]; done))
      · dsimp only; omega
theorem f233_ok (x : Trust) (s : Int) (hs : smallT 1000000 x) : C 233 [.agg (encT x), I s] (bval (satT s x)) := by
  induction x using Trust.ind with
  | h t n i ih =>
  obtain ⟨hn, hi, hsi⟩ := hs
  refine fn_ok (G := G) tabOK hm D0 Tryz.func233 rfl (by kernel_rfl) (by kernel_rfl) rfl rfl ?_
  repeat' (first | refine And.intro (by rfl) ?_ | refine litA ?_ | refine litB ?_ | refine litC ?_ | refine litD ?_ | refine And.intro trivial ?_ | refine And.intro (keptI (by repeat' (first | refine And.intro ?_ ?_ | exact True.intro | rfl | (simp; done)))) ?_ | refine ⟨_, _, f148_ok s, rfl, rfl, trivial, ?_⟩ | (refine And.intro ?_ ?_ <;> intro h))
  · exact ⟨subB (by simp at h; simp [satT, h]), rfl⟩
  have hvs : validS s = true := by simpa using h
  clear h
  refine loop_ok (G := G) tabOK hm D0 (α := {k : Nat // k ≤ n.length ∧ True}) (fun k => ⟨43, [(16, I k.1), (15, I (n.map fun x => [I x]).length), (14, encI n), (5, I (((n.take k.1).countP (hasS s) : Nat) : Int)), (1, I s), (2, .loc 3000 0)], [(3000, .box (encT (.mk t n i)) false)]⟩) (fun k => n.length - k.1) (by kernel_rfl) ⟨0, Nat.zero_le _, by first | rfl | simp⟩ ?_ ?_
  · repeat' (first | refine fitE_ls rfl rfl ?_ | refine fitC_ls rfl ?_ | refine And.intro ?_ ?_ | exact True.intro | rfl | exact ⟨_, _, rfl, rfl⟩ | exact ⟨_, _, rfl⟩ | decide | (simp [St.get, St.obj, look, lookD, unI, List.map_take]; done))
  rintro ⟨k, hk, hx⟩
  repeat (first | refine And.intro (by rfl) ?_ | refine litA ?_ | refine litB ?_ | refine litC ?_ | refine litD ?_ | refine And.intro trivial ?_ | refine And.intro (keptI (by repeat' (first | refine And.intro ?_ ?_ | exact True.intro | rfl | (simp; done)))) ?_)
  refine And.intro (fun h => ?_) (fun h => ?_)
  rotate_left
  · have hl : n.length ≤ k := by simpa using h
    repeat (first | refine And.intro (by rfl) ?_ | refine litA ?_ | refine litB ?_ | refine litC ?_ | refine litD ?_ | refine And.intro trivial ?_ | refine And.intro (keptI (by repeat' (first | refine And.intro ?_ ?_ | exact True.intro | rfl | (simp; done)))) ?_)
    have ek : n.take k = n := List.take_of_length_le hl
    try rw [ek] at hx
    rw [ek]
    refine loop_ok (G := G) tabOK hm D0 (α := {j : Nat // j ≤ i.length ∧ True}) (fun j => ⟨43, [(29, I j.1), (28, I (encTs i).length), (27, encTL i), (5, I ((n.countP (hasS s) + satL s (i.take j.1) : Nat) : Int)), (1, I s), (2, .loc 3000 0)], [(3000, .box (encT (.mk t n i)) false)]⟩) (fun j => i.length - j.1) (by kernel_rfl) ⟨0, Nat.zero_le _, by first | rfl | simp⟩ ?_ ?_
    · repeat' (first | refine fitE_ls rfl rfl ?_ | refine fitC_ls rfl ?_ | refine And.intro ?_ ?_ | exact True.intro | rfl | exact ⟨_, _, rfl, rfl⟩ | exact ⟨_, _, rfl⟩ | decide | (simp [St.get, St.obj, look, lookD, unI, List.map_take]; done))
    rintro ⟨j, hj, hx2⟩
    repeat (first | refine And.intro (by rfl) ?_ | refine litA ?_ | refine litB ?_ | refine litC ?_ | refine litD ?_ | refine And.intro trivial ?_ | refine And.intro (keptI (by repeat' (first | refine And.intro ?_ ?_ | exact True.intro | rfl | (simp; done)))) ?_)
    refine And.intro (fun h => ?_) (fun h => ?_)
    rotate_left
    · have hl2 : i.length ≤ j := by simpa using h
      repeat (first | refine And.intro (by rfl) ?_ | refine litA ?_ | refine litB ?_ | refine litC ?_ | refine litD ?_ | refine And.intro trivial ?_ | refine And.intro (keptI (by repeat' (first | refine And.intro ?_ ?_ | exact True.intro | rfl | (simp; done)))) ?_)
      have ek2 : i.take j = i := List.take_of_length_le hl2
      try rw [ek2] at hx2
      exact ⟨subB (by rw [satT, hvs, Bool.true_and]; show decide (_ ≥ t) = _; rw [ek2]), rfl⟩
    have hj' : j < i.length := by simpa using h
    obtain ⟨z, hz⟩ : ∃ z, i[j]? = some z := ⟨_, List.getElem?_eq_getElem hj'⟩
    have e2 : IntKind.i64.wrap ((j : Int) + 1) = ((j + 1 : Nat) : Int) := by rw [wrap_id] <;> omega
    have et2 : i.take (j + 1) = i.take j ++ [z] := by rw [List.take_add_one, hz]; rfl
    repeat (first | refine And.intro (by rfl) ?_ | refine litA ?_ | refine litB ?_ | refine litC ?_ | refine litD ?_ | refine And.intro trivial ?_ | refine And.intro (keptI (by repeat' (first | refine And.intro ?_ ?_ | exact True.intro | rfl | (simp; done)))) ?_)
    obtain ⟨ty, ny, iy⟩ := z
    refine ⟨by simp, encT (.mk ty ny iy), by simpa using encTs_get hz, ?_⟩
    repeat (first | refine And.intro (by rfl) ?_ | refine litA ?_ | refine litB ?_ | refine litC ?_ | refine litD ?_ | refine And.intro trivial ?_ | refine And.intro (keptI (by repeat' (first | refine And.intro ?_ ?_ | exact True.intro | rfl | (simp; done)))) ?_)
    refine ⟨_, _, ih _ (List.mem_of_getElem? hz) (smallTs_mem hsi _ (List.mem_of_getElem? hz)), rfl, rfl, trivial, ?_⟩
    have hcl := List.countP_le_length (p := hasS s) (l := n)
    have hsl := satL_le s (i.take j)
    have htl := List.length_take_le j i
    repeat' (first | refine And.intro (by rfl) ?_ | refine litA ?_ | refine litB ?_ | refine litC ?_ | refine litD ?_ | refine And.intro trivial ?_ | refine And.intro (keptI (by repeat' (first | refine And.intro ?_ ?_ | exact True.intro | rfl | (simp; done)))) ?_ | (refine And.intro ?_ ?_ <;> intro h))
    · have ec : IntKind.i64.wrap (((n.countP (hasS s) + satL s (i.take j) : Nat) : Int) + 1) = ((n.countP (hasS s) + satL s (i.take (j + 1)) : Nat) : Int) := by
        rw [wrap_id (by omega) (by omega), et2, satL_append]; simp [satL, h]; omega
      refine ⟨⟨j + 1, hj', trivial⟩, ?_, ?_⟩
      · repeat' (first | refine fitE_ls rfl rfl ?_ | refine fitC_ls rfl ?_ | exact congrArg I e2 | exact congrArg I ec | refine And.intro ?_ ?_ | exact True.intro | rfl | exact ⟨_, _, rfl, rfl⟩ | exact ⟨_, _, rfl⟩ | decide | (simp [St.get, St.obj, look, lookD, unI, List.map_take]; done))
      · dsimp only; omega
    · have ec : ((n.countP (hasS s) + satL s (i.take j) : Nat) : Int) = ((n.countP (hasS s) + satL s (i.take (j + 1)) : Nat) : Int) := by
        rw [et2, satL_append]; simp [satL, h]
      refine ⟨⟨j + 1, hj', trivial⟩, ?_, ?_⟩
      · repeat' (first | refine fitE_ls rfl rfl ?_ | refine fitC_ls rfl ?_ | exact congrArg I e2 | exact congrArg I ec | refine And.intro ?_ ?_ | exact True.intro | rfl | exact ⟨_, _, rfl, rfl⟩ | exact ⟨_, _, rfl⟩ | decide | (simp [St.get, St.obj, look, lookD, unI, List.map_take]; done))
      · dsimp only; omega
  have hk' : k < n.length := by simpa using h
  obtain ⟨y, hy⟩ : ∃ y, n[k]? = some y := ⟨_, List.getElem?_eq_getElem hk'⟩
  have e : IntKind.i64.wrap ((k : Int) + 1) = ((k + 1 : Nat) : Int) := by rw [wrap_id] <;> omega
  have et : n.take (k + 1) = n.take k ++ [y] := by rw [List.take_add_one, hy]; rfl
  repeat (first | refine And.intro (by rfl) ?_ | refine litA ?_ | refine litB ?_ | refine litC ?_ | refine litD ?_ | refine And.intro trivial ?_ | refine And.intro (keptI (by repeat' (first | refine And.intro ?_ ?_ | exact True.intro | rfl | (simp; done)))) ?_)
  refine ⟨by simp, [I y], by simp [hy], ?_⟩
  have hcl := List.countP_le_length (p := hasS s) (l := n.take k)
  have htl := List.length_take_le k n
  repeat' (first | refine And.intro (by rfl) ?_ | refine litA ?_ | refine litB ?_ | refine litC ?_ | refine litD ?_ | refine And.intro trivial ?_ | refine And.intro (keptI (by repeat' (first | refine And.intro ?_ ?_ | exact True.intro | rfl | (simp; done)))) ?_ | refine ⟨_, _, f61_ok s y, rfl, rfl, trivial, ?_⟩ | (refine And.intro ?_ ?_ <;> intro h))
  · have ec : IntKind.i64.wrap (((n.take k).countP (hasS s) : Nat) + 1 : Int) = (((n.take (k + 1)).countP (hasS s) : Nat) : Int) := by
      rw [wrap_id (by omega) (by omega), et, List.countP_append]; simp [List.countP_cons, h]
    refine ⟨⟨k + 1, hk', trivial⟩, ?_, ?_⟩
    · repeat' (first | refine fitE_ls rfl rfl ?_ | refine fitC_ls rfl ?_ | exact congrArg I e | exact congrArg I ec | refine And.intro ?_ ?_ | exact True.intro | rfl | exact ⟨_, _, rfl, rfl⟩ | exact ⟨_, _, rfl⟩ | decide | (simp [St.get, St.obj, look, lookD, unI, List.map_take]; done))
    · dsimp only; omega
  · have ec : (((n.take k).countP (hasS s) : Nat) : Int) = (((n.take (k + 1)).countP (hasS s) : Nat) : Int) := by
      rw [et, List.countP_append]; simp [List.countP_cons, h]
    refine ⟨⟨k + 1, hk', trivial⟩, ?_, ?_⟩
    · repeat' (first | refine fitE_ls rfl rfl ?_ | refine fitC_ls rfl ?_ | exact congrArg I e | exact congrArg I ec | refine And.intro ?_ ?_ | exact True.intro | rfl | exact ⟨_, _, rfl, rfl⟩ | exact ⟨_, _, rfl⟩ | decide | (simp [St.get, St.obj, look, lookD, unI, List.map_take]; done))
    · dsimp only; omega
theorem satN2 (s : Int) : C 233 [.agg [I 0, .nils, .nils], I s] (bval (satT s (.mk 0 [] []))) :=
  CallOK.weak (args' := [.agg [I 0, .nils, .nils], I s]) (f233_ok (.mk 0 [] []) s ⟨by simp, by simp, trivial⟩) ⟨⟨.inl rfl, .inr ⟨rfl, _, rfl⟩, .inr ⟨rfl, _, rfl⟩, trivial⟩, .inl rfl, trivial⟩
theorem f187_ok (c : List Member) (v s : Int) (hc : smallC c) : C 187 [encCfg c, I v, I s] (bval (blocksS c v s)) := by
  refine fn_ok (G := G) tabOK hm pl187 Tryz.func187 rfl (by kernel_rfl) (by kernel_rfl) rfl rfl ?_
  repeat' (first | refine And.intro (by rfl) ?_ | refine litA ?_ | refine litB ?_ | refine litC ?_ | refine litD ?_ | refine And.intro trivial ?_ | refine And.intro (keptI (by repeat' (first | refine And.intro ?_ ?_ | exact True.intro | rfl | (simp; done)))) ?_ | refine ⟨_, _, f148_ok s, rfl, rfl, trivial, ?_⟩ | refine ⟨_, _, f188_ok c, rfl, rfl, trivial, ?_⟩ | refine ⟨_, _, f61_ok (declS c) v, rfl, rfl, trivial, ?_⟩ | (refine And.intro ?_ ?_ <;> intro h))
  · exact ⟨subB (by simp at h; simp [blocksS, h]), rfl⟩
  rotate_left
  · exact ⟨subB (by simp at h; simp [blocksS, h]), rfl⟩
  rename_i hv
  have hv : validS s = true := by simpa using hv
  have h : hasS (declS c) v = true := by simpa using h
  have hr : 0 ≤ s ∧ s < 1024 := by simpa [validS] using hv
  have hk := hasS_spec h
  have hkl : v.toNat < c.length := by have := hc.1; omega
  obtain ⟨m, hm'⟩ : ∃ m, c[v.toNat]? = some m := ⟨_, List.getElem?_eq_getElem hkl⟩
  have hsm := smallC_trust hc v
  have hb : blocksS c v s = !satT (orS (1023 - s) v) (trustOf c v) := by rw [blocksS, hv, h]; rfl
  rw [hb]
  have hor : IntKind.i64.wrap ((BitVec.ofInt 64 (IntKind.i64.wrap (1023 - s)) ||| BitVec.ofInt 64 (IntKind.i64.wrap (1 * 2 ^ min v.toNat 64))).toNat : Int) = orS (1023 - s) v := by
    rw [wrap_id (n := 1023 - s) (by omega) (by omega)]
    exact or_pow (by omega) (by omega) hk.2.2.1 hk.2.2.2.1
  cases m with
  | none =>
    have ht : trustOf c v = .mk 0 [] [] := by simp [trustOf, hm']
    rw [ht]
    have hcall : C 233 [.agg [I 0, .nils, .nils], I (IntKind.i64.wrap ((BitVec.ofInt 64 (IntKind.i64.wrap (1023 - s)) ||| BitVec.ofInt 64 (IntKind.i64.wrap (1 * 2 ^ min v.toNat 64))).toNat : Int))] (bval (satT (orS (1023 - s) v) (.mk 0 [] []))) := by
      rw [hor]
      exact satN2 _
    repeat (first | refine And.intro (by rfl) ?_ | refine litA ?_ | refine litB ?_ | refine litC ?_ | refine litD ?_ | refine And.intro trivial ?_ | refine And.intro (keptI (by repeat' (first | refine And.intro ?_ ?_ | exact True.intro | rfl | (simp; done)))) ?_)
    refine ⟨hk.2.2.1, encMb none, by rw [List.getElem?_map, hm']; rfl, ?_⟩
    repeat (first | refine And.intro (by rfl) ?_ | refine litA ?_ | refine litB ?_ | refine litC ?_ | refine litD ?_ | refine And.intro trivial ?_ | refine And.intro (keptI (by repeat' (first | refine And.intro ?_ ?_ | exact True.intro | rfl | (simp; done)))) ?_)
    refine ⟨hk.2.2.1, ?_⟩
    repeat (first | refine And.intro (by rfl) ?_ | refine litA ?_ | refine litB ?_ | refine litC ?_ | refine litD ?_ | refine And.intro trivial ?_ | refine And.intro (keptI (by repeat' (first | refine And.intro ?_ ?_ | exact True.intro | rfl | (simp; done)))) ?_)
    refine ⟨_, _, hcall, rfl, rfl, trivial, ?_⟩
    repeat (first | refine And.intro (by rfl) ?_ | refine litA ?_ | refine litB ?_ | refine litC ?_ | refine litD ?_ | refine And.intro trivial ?_ | refine And.intro (keptI (by repeat' (first | refine And.intro ?_ ?_ | exact True.intro | rfl | (simp; done)))) ?_)
    repeat' (first | refine And.intro ?_ ?_ | exact .inl rfl | rfl | exact .inr ⟨rfl, _, rfl⟩)
  | some t =>
    have ht : trustOf c v = t := by simp [trustOf, hm']
    rw [ht] at hsm ⊢
    obtain ⟨ty, ny, iy⟩ := t
    have hcall : C 233 [.agg (encT (.mk ty ny iy)), I (IntKind.i64.wrap ((BitVec.ofInt 64 (IntKind.i64.wrap (1023 - s)) ||| BitVec.ofInt 64 (IntKind.i64.wrap (1 * 2 ^ min v.toNat 64))).toNat : Int))] (bval (satT (orS (1023 - s) v) (.mk ty ny iy))) := by
      rw [hor]
      exact f233_ok _ _ hsm
    repeat (first | refine And.intro (by rfl) ?_ | refine litA ?_ | refine litB ?_ | refine litC ?_ | refine litD ?_ | refine And.intro trivial ?_ | refine And.intro (keptI (by repeat' (first | refine And.intro ?_ ?_ | exact True.intro | rfl | (simp; done)))) ?_)
    refine ⟨hk.2.2.1, encMb (some (.mk ty ny iy)), by rw [List.getElem?_map, hm']; rfl, ?_⟩
    repeat (first | refine And.intro (by rfl) ?_ | refine litA ?_ | refine litB ?_ | refine litC ?_ | refine litD ?_ | refine And.intro trivial ?_ | refine And.intro (keptI (by repeat' (first | refine And.intro ?_ ?_ | exact True.intro | rfl | (simp; done)))) ?_)
    refine ⟨hk.2.2.1, ?_⟩
    repeat (first | refine And.intro (by rfl) ?_ | refine litA ?_ | refine litB ?_ | refine litC ?_ | refine litD ?_ | refine And.intro trivial ?_ | refine And.intro (keptI (by repeat' (first | refine And.intro ?_ ?_ | exact True.intro | rfl | (simp; done)))) ?_)
    refine ⟨_, _, hcall, rfl, rfl, trivial, ?_⟩
    repeat (first | refine And.intro (by rfl) ?_ | refine litA ?_ | refine litB ?_ | refine litC ?_ | refine litD ?_ | refine And.intro trivial ?_ | refine And.intro (keptI (by repeat' (first | refine And.intro ?_ ?_ | exact True.intro | rfl | (simp; done)))) ?_)
    repeat' (first | refine And.intro ?_ ?_ | exact .inl rfl | rfl | exact .inr ⟨rfl, _, rfl⟩)
/-! reference functions of chapters 09, 18, 19 -/
theorem f26_ok (v : Voter) : C 26 [.agg (encV v)] (.agg (encM (sayV v))) := by
  obtain ⟨nd, sq, ⟨t, n, i⟩, vs, ac, cf, hd⟩ := v
  refine fn_ok (G := G) tabOK hm D0 Tryz.func26 rfl (by kernel_rfl) (by kernel_rfl) rfl rfl ?_
  repeat (first | refine And.intro (by rfl) ?_ | refine litA ?_ | refine litB ?_ | refine litC ?_ | refine litD ?_ | refine And.intro trivial ?_ | refine And.intro (keptI (by repeat' (first | refine And.intro ?_ ?_ | exact True.intro | rfl | (simp; done)))) ?_)
  repeat' (first | refine And.intro ?_ ?_ | exact .inl rfl | rfl | exact .inr ⟨rfl, _, rfl⟩)
theorem f29_ok (l : List Message) (x : Claim) : C 29 [encML l, .agg (encC x)] (I (sayP Message.accepts x l 0)) := by
  refine fn_real (G := G) tabOK hm D0 Tryz.func29 rfl (by kernel_rfl) (by kernel_rfl) rfl rfl fun hr => ?_
  have hlen : (l.length : Int) ≤ 9223372036854775807 := by simpa using RealA.len hr (sz := 7) (es := l.map encM) (by simp)
  clear hr
  generalize hR : sayP Message.accepts x l 0 = R
  repeat (first | refine And.intro (by rfl) ?_ | refine litA ?_ | refine litB ?_ | refine litC ?_ | refine litD ?_ | refine And.intro trivial ?_ | refine And.intro (keptI (by repeat' (first | refine And.intro ?_ ?_ | exact True.intro | rfl | (simp; done)))) ?_)
  refine loop_ok (G := G) tabOK hm D0 (α := {q : Nat × Int // q.1 ≤ l.length ∧ 0 ≤ q.2 ∧ q.2 < 1024 ∧ R = sayP Message.accepts x (l.drop q.1) q.2}) (fun q => ⟨29, [(5, I q.1.2), (10, I q.1.1), (9, I (l.map encM).length), (8, encML l), (3, .loc 4000 0)], [(4000, .box (encC x) false)]⟩) (fun q => l.length - q.1.1) (by kernel_rfl) ⟨(0, 0), by simp [← hR]⟩ ?_ ?_
  · repeat' (first | refine fitE_ls rfl rfl ?_ | refine fitC_ls rfl ?_ | refine And.intro ?_ ?_ | exact True.intro | rfl | exact ⟨_, _, rfl, rfl⟩ | exact ⟨_, _, rfl⟩ | decide | (simp [St.get, St.obj, look, lookD, unI, List.map_take]; done))
  rintro ⟨⟨k, s⟩, hk, h1, h2, hx⟩
  dsimp only at hk h1 h2 hx
  repeat (first | refine And.intro (by rfl) ?_ | refine litA ?_ | refine litB ?_ | refine litC ?_ | refine litD ?_ | refine And.intro trivial ?_ | refine And.intro (keptI (by repeat' (first | refine And.intro ?_ ?_ | exact True.intro | rfl | (simp; done)))) ?_)
  refine And.intro (fun h => ?_) (fun h => ?_)
  rotate_left
  · have hl : l.length ≤ k := by simpa using h
    rw [List.drop_of_length_le hl, sayP] at hx
    repeat (first | refine And.intro (by rfl) ?_ | refine litA ?_ | refine litB ?_ | refine litC ?_ | refine litD ?_ | refine And.intro trivial ?_ | refine And.intro (keptI (by repeat' (first | refine And.intro ?_ ?_ | exact True.intro | rfl | (simp; done)))) ?_)
    exact ⟨subI hx.symm, rfl⟩
  have hk' : k < l.length := by simpa using h
  obtain ⟨y, hy⟩ : ∃ y, l[k]? = some y := ⟨_, List.getElem?_eq_getElem hk'⟩
  have e : IntKind.i64.wrap ((k : Int) + 1) = ((k + 1 : Nat) : Int) := by rw [wrap_id] <;> omega
  rw [drop_at hy, sayP] at hx
  obtain ⟨mn, ms, ⟨mt, mnn, mi⟩, mv, ma⟩ := y
  repeat (first | refine And.intro (by rfl) ?_ | refine litA ?_ | refine litB ?_ | refine litC ?_ | refine litD ?_ | refine And.intro trivial ?_ | refine And.intro (keptI (by repeat' (first | refine And.intro ?_ ?_ | exact True.intro | rfl | (simp; done)))) ?_)
  refine ⟨by simp, encM ⟨mn, ms, .mk mt mnn mi, mv, ma⟩, by simp only [Int.toNat_natCast, List.getElem?_map, hy]; rfl, ?_⟩
  repeat' (first | refine And.intro (by rfl) ?_ | refine litA ?_ | refine litB ?_ | refine litC ?_ | refine litD ?_ | refine And.intro trivial ?_ | refine And.intro (keptI (by repeat' (first | refine And.intro ?_ ?_ | exact True.intro | rfl | (simp; done)))) ?_ | refine ⟨_, _, f116_ok ⟨mn, ms, .mk mt mnn mi, mv, ma⟩, rfl, rfl, trivial, ?_⟩ | refine ⟨_, _, f30_ok (Message.accepts ⟨mn, ms, .mk mt mnn mi, mv, ma⟩) x, rfl, rfl, trivial, ?_⟩ | (refine And.intro ?_ ?_ <;> intro h))
  · rename_i hp
    have h : x ∈ Message.accepts ⟨mn, ms, .mk mt mnn mi, mv, ma⟩ := by simpa using h
    rw [if_pos ⟨hp, h⟩] at hx
    have hn := plainM_node hp
    have hb := orS_lt h1 h2 hn.1 hn.2
    have eor := or_pow h1 h2 hn.1 hn.2
    refine ⟨hn.1, ?_⟩
    repeat (first | refine And.intro (by rfl) ?_ | refine litA ?_ | refine litB ?_ | refine litC ?_ | refine litD ?_ | refine And.intro trivial ?_ | refine And.intro (keptI (by repeat' (first | refine And.intro ?_ ?_ | exact True.intro | rfl | (simp; done)))) ?_)
    refine ⟨⟨(k + 1, orS s mn), hk', hb.1, hb.2, hx⟩, ?_, ?_⟩
    · repeat' (first | refine fitE_ls rfl rfl ?_ | refine fitC_ls rfl ?_ | exact congrArg I e | exact congrArg I eor | refine And.intro ?_ ?_ | exact True.intro | rfl | exact ⟨_, _, rfl, rfl⟩ | exact ⟨_, _, rfl⟩ | decide | (simp [St.get, St.obj, look, lookD, unI, List.map_take]; done))
    · dsimp only; omega
  · rename_i hp
    have h : ¬ x ∈ Message.accepts ⟨mn, ms, .mk mt mnn mi, mv, ma⟩ := by simpa using h
    rw [if_neg (fun q => h q.2)] at hx
    refine ⟨⟨(k + 1, s), hk', h1, h2, hx⟩, ?_, ?_⟩
    · repeat' (first | refine fitE_ls rfl rfl ?_ | refine fitC_ls rfl ?_ | exact congrArg I e | refine And.intro ?_ ?_ | exact True.intro | rfl | exact ⟨_, _, rfl, rfl⟩ | exact ⟨_, _, rfl⟩ | decide | (simp [St.get, St.obj, look, lookD, unI, List.map_take]; done))
    · dsimp only; omega
  · have hp : ¬ plainM ⟨mn, ms, .mk mt mnn mi, mv, ma⟩ = true := by simp at h; simp [h]
    rw [if_neg (fun q => hp q.1)] at hx
    refine ⟨⟨(k + 1, s), hk', h1, h2, hx⟩, ?_, ?_⟩
    · repeat' (first | refine fitE_ls rfl rfl ?_ | refine fitC_ls rfl ?_ | exact congrArg I e | refine And.intro ?_ ?_ | exact True.intro | rfl | exact ⟨_, _, rfl, rfl⟩ | exact ⟨_, _, rfl⟩ | decide | (simp [St.get, St.obj, look, lookD, unI, List.map_take]; done))
    · dsimp only; omega
theorem f114_ok (l : List Message) (x : Claim) : C 114 [encML l, .agg (encC x)] (I (sayP Message.votes x l 0)) := by
  refine fn_real (G := G) tabOK hm D0 Tryz.func114 rfl (by kernel_rfl) (by kernel_rfl) rfl rfl fun hr => ?_
  have hlen : (l.length : Int) ≤ 9223372036854775807 := by simpa using RealA.len hr (sz := 7) (es := l.map encM) (by simp)
  clear hr
  generalize hR : sayP Message.votes x l 0 = R
  repeat (first | refine And.intro (by rfl) ?_ | refine litA ?_ | refine litB ?_ | refine litC ?_ | refine litD ?_ | refine And.intro trivial ?_ | refine And.intro (keptI (by repeat' (first | refine And.intro ?_ ?_ | exact True.intro | rfl | (simp; done)))) ?_)
  refine loop_ok (G := G) tabOK hm D0 (α := {q : Nat × Int // q.1 ≤ l.length ∧ 0 ≤ q.2 ∧ q.2 < 1024 ∧ R = sayP Message.votes x (l.drop q.1) q.2}) (fun q => ⟨29, [(5, I q.1.2), (10, I q.1.1), (9, I (l.map encM).length), (8, encML l), (3, .loc 4000 0)], [(4000, .box (encC x) false)]⟩) (fun q => l.length - q.1.1) (by kernel_rfl) ⟨(0, 0), by simp [← hR]⟩ ?_ ?_
  · repeat' (first | refine fitE_ls rfl rfl ?_ | refine fitC_ls rfl ?_ | refine And.intro ?_ ?_ | exact True.intro | rfl | exact ⟨_, _, rfl, rfl⟩ | exact ⟨_, _, rfl⟩ | decide | (simp [St.get, St.obj, look, lookD, unI, List.map_take]; done))
  rintro ⟨⟨k, s⟩, hk, h1, h2, hx⟩
  dsimp only at hk h1 h2 hx
  repeat (first | refine And.intro (by rfl) ?_ | refine litA ?_ | refine litB ?_ | refine litC ?_ | refine litD ?_ | refine And.intro trivial ?_ | refine And.intro (keptI (by repeat' (first | refine And.intro ?_ ?_ | exact True.intro | rfl | (simp; done)))) ?_)
  refine And.intro (fun h => ?_) (fun h => ?_)
  rotate_left
  · have hl : l.length ≤ k := by simpa using h
    rw [List.drop_of_length_le hl, sayP] at hx
    repeat (first | refine And.intro (by rfl) ?_ | refine litA ?_ | refine litB ?_ | refine litC ?_ | refine litD ?_ | refine And.intro trivial ?_ | refine And.intro (keptI (by repeat' (first | refine And.intro ?_ ?_ | exact True.intro | rfl | (simp; done)))) ?_)
    exact ⟨subI hx.symm, rfl⟩
  have hk' : k < l.length := by simpa using h
  obtain ⟨y, hy⟩ : ∃ y, l[k]? = some y := ⟨_, List.getElem?_eq_getElem hk'⟩
  have e : IntKind.i64.wrap ((k : Int) + 1) = ((k + 1 : Nat) : Int) := by rw [wrap_id] <;> omega
  rw [drop_at hy, sayP] at hx
  obtain ⟨mn, ms, ⟨mt, mnn, mi⟩, mv, ma⟩ := y
  repeat (first | refine And.intro (by rfl) ?_ | refine litA ?_ | refine litB ?_ | refine litC ?_ | refine litD ?_ | refine And.intro trivial ?_ | refine And.intro (keptI (by repeat' (first | refine And.intro ?_ ?_ | exact True.intro | rfl | (simp; done)))) ?_)
  refine ⟨by simp, encM ⟨mn, ms, .mk mt mnn mi, mv, ma⟩, by simp only [Int.toNat_natCast, List.getElem?_map, hy]; rfl, ?_⟩
  repeat' (first | refine And.intro (by rfl) ?_ | refine litA ?_ | refine litB ?_ | refine litC ?_ | refine litD ?_ | refine And.intro trivial ?_ | refine And.intro (keptI (by repeat' (first | refine And.intro ?_ ?_ | exact True.intro | rfl | (simp; done)))) ?_ | refine ⟨_, _, f116_ok ⟨mn, ms, .mk mt mnn mi, mv, ma⟩, rfl, rfl, trivial, ?_⟩ | refine ⟨_, _, f30_ok (Message.votes ⟨mn, ms, .mk mt mnn mi, mv, ma⟩) x, rfl, rfl, trivial, ?_⟩ | (refine And.intro ?_ ?_ <;> intro h))
  · rename_i hp
    have h : x ∈ Message.votes ⟨mn, ms, .mk mt mnn mi, mv, ma⟩ := by simpa using h
    rw [if_pos ⟨hp, h⟩] at hx
    have hn := plainM_node hp
    have hb := orS_lt h1 h2 hn.1 hn.2
    have eor := or_pow h1 h2 hn.1 hn.2
    refine ⟨hn.1, ?_⟩
    repeat (first | refine And.intro (by rfl) ?_ | refine litA ?_ | refine litB ?_ | refine litC ?_ | refine litD ?_ | refine And.intro trivial ?_ | refine And.intro (keptI (by repeat' (first | refine And.intro ?_ ?_ | exact True.intro | rfl | (simp; done)))) ?_)
    refine ⟨⟨(k + 1, orS s mn), hk', hb.1, hb.2, hx⟩, ?_, ?_⟩
    · repeat' (first | refine fitE_ls rfl rfl ?_ | refine fitC_ls rfl ?_ | exact congrArg I e | exact congrArg I eor | refine And.intro ?_ ?_ | exact True.intro | rfl | exact ⟨_, _, rfl, rfl⟩ | exact ⟨_, _, rfl⟩ | decide | (simp [St.get, St.obj, look, lookD, unI, List.map_take]; done))
    · dsimp only; omega
  · rename_i hp
    have h : ¬ x ∈ Message.votes ⟨mn, ms, .mk mt mnn mi, mv, ma⟩ := by simpa using h
    rw [if_neg (fun q => h q.2)] at hx
    refine ⟨⟨(k + 1, s), hk', h1, h2, hx⟩, ?_, ?_⟩
    · repeat' (first | refine fitE_ls rfl rfl ?_ | refine fitC_ls rfl ?_ | exact congrArg I e | refine And.intro ?_ ?_ | exact True.intro | rfl | exact ⟨_, _, rfl, rfl⟩ | exact ⟨_, _, rfl⟩ | decide | (simp [St.get, St.obj, look, lookD, unI, List.map_take]; done))
    · dsimp only; omega
  · have hp : ¬ plainM ⟨mn, ms, .mk mt mnn mi, mv, ma⟩ = true := by simp at h; simp [h]
    rw [if_neg (fun q => hp q.1)] at hx
    refine ⟨⟨(k + 1, s), hk', h1, h2, hx⟩, ?_, ?_⟩
    · repeat' (first | refine fitE_ls rfl rfl ?_ | refine fitC_ls rfl ?_ | exact congrArg I e | refine And.intro ?_ ?_ | exact True.intro | rfl | exact ⟨_, _, rfl, rfl⟩ | exact ⟨_, _, rfl⟩ | decide | (simp [St.get, St.obj, look, lookD, unI, List.map_take]; done))
    · dsimp only; omega
theorem f27_of (c : List Member) (v s : Int) (g : Int) (h : C 115 [encCfg c, I s] (I g)) : C 27 [encCfg c, I v, I s] (bval (hasS g v)) := by
  refine fn_ok (G := G) tabOK hm D0 Tryz.func27 rfl (by kernel_rfl) (by kernel_rfl) rfl rfl ?_
  repeat (first | refine And.intro (by rfl) ?_ | refine litA ?_ | refine litB ?_ | refine litC ?_ | refine litD ?_ | refine And.intro trivial ?_ | refine And.intro (keptI (by repeat' (first | refine And.intro ?_ ?_ | exact True.intro | rfl | (simp; done)))) ?_)
  refine ⟨_, _, h, rfl, rfl, trivial, ?_⟩
  repeat (first | refine And.intro (by rfl) ?_ | refine litA ?_ | refine litB ?_ | refine litC ?_ | refine litD ?_ | refine And.intro trivial ?_ | refine And.intro (keptI (by repeat' (first | refine And.intro ?_ ?_ | exact True.intro | rfl | (simp; done)))) ?_)
  refine ⟨_, _, f61_ok g v, rfl, rfl, trivial, ?_⟩
  repeat (first | refine And.intro (by rfl) ?_ | refine litA ?_ | refine litB ?_ | refine litC ?_ | refine litD ?_ | refine And.intro trivial ?_ | refine And.intro (keptI (by repeat' (first | refine And.intro ?_ ?_ | exact True.intro | rfl | (simp; done)))) ?_)
  repeat' (first | refine And.intro ?_ ?_ | exact .inl rfl | rfl | exact .inr ⟨rfl, _, rfl⟩)
theorem sub_pow {u k : Int} (h : hasS u k = true) : IntKind.i64.wrap (u - IntKind.i64.wrap (1 * 2 ^ min k.toNat 64)) = clrS u k := by
  obtain ⟨h1, h2, h3, h4, h5⟩ := hasS_spec h
  obtain ⟨_, hc⟩ := clr_pow h
  unfold clrS at *
  have e1 : min k.toNat 64 = k.toNat := by omega
  have hp : (2 : Nat) ^ k.toNat ≤ 512 := Nat.pow_le_pow_right (n := 2) (by omega) (show k.toNat ≤ 9 by omega)
  have e2 : ((2 : Int) ^ k.toNat) = ((2 ^ k.toNat : Nat) : Int) := by simp
  rw [e1, Int.one_mul, e2]
  generalize (2 : Nat) ^ k.toNat = q at *
  rw [wrap_id (n := (q : Int)) (by omega) (by omega), wrap_id (by omega) (by omega)]
theorem f189_ok (c : List Member) (s : Int) (hc : smallC c) : C 189 [encCfg c, I s] (encI (elim c s).2) := by
  refine fn_ok (G := G) tabOK hm D0 Tryz.func189 rfl (by kernel_rfl) (by kernel_rfl) rfl rfl ?_
  repeat' (first | refine And.intro (by rfl) ?_ | refine litA ?_ | refine litB ?_ | refine litC ?_ | refine litD ?_ | refine And.intro trivial ?_ | refine And.intro (keptI (by repeat' (first | refine And.intro ?_ ?_ | exact True.intro | rfl | (simp; done)))) ?_ | refine ⟨_, _, f148_ok s, rfl, rfl, trivial, ?_⟩ | (refine And.intro ?_ ?_ <;> intro h))
  · have e : elim c s = (0, []) := by rw [elim, if_neg (by simp at h; simp [h])]
    rw [e]
    repeat' (first | refine And.intro ?_ ?_ | exact .inl rfl | rfl | exact .inr ⟨rfl, _, rfl⟩)
  have hvs : validS s = true := by simpa using h
  clear h
  have hd := declS_range c
  have hr : 0 ≤ s ∧ s < 1024 := by simpa [validS] using hvs
  have ha := and_nat hr.1 hr.2 hd.1 hd.2
  refine ⟨_, _, f188_ok c, rfl, rfl, trivial, ?_⟩
  repeat (first | refine And.intro (by rfl) ?_ | refine litA ?_ | refine litB ?_ | refine litC ?_ | refine litD ?_ | refine And.intro trivial ?_ | refine And.intro (keptI (by repeat' (first | refine And.intro ?_ ?_ | exact True.intro | rfl | (simp; done)))) ?_)
  generalize hR : elim c s = R
  rw [elim, if_pos hvs] at hR
  refine loop_ok (G := G) tabOK hm D0 (α := {p : Bool × Int × List Int // 0 ≤ p.2.1 ∧ p.2.1 < 1024 ∧ (p.2.2.length : Int) + p.2.1 ≤ 1023 ∧ (p.1 = true → R = elimS c 1024 p.2.1 p.2.2) ∧ (p.1 = false → R = (p.2.1, p.2.2))}) (fun p => ⟨44, [(7, bval p.1.1), (5, I p.1.2.1), (6, .ls 42000 (p.1.2.2.map fun x => [I x]).length), (2, .loc 3000 0)], [(3000, .box [.sl none 4 (c.map encMb)] false), (42000, .row 3 1 (p.1.2.2.map fun x => [I x]) false)]⟩) (fun p => p.1.2.1.toNat + p.1.1.toNat) (by kernel_rfl) ⟨(true, andS s (declS c), []), ha.2.1, ha.2.2, by have := ha.2.2; simp; omega, fun _ => hR.symm, fun h => by cases h⟩ ?_ ?_
  · repeat' (first | refine fitE_ls rfl rfl ?_ | refine fitC_ls rfl ?_ | exact congrArg I ha.1 | refine And.intro ?_ ?_ | exact True.intro | rfl | exact ⟨_, _, rfl, rfl⟩ | exact ⟨_, _, rfl⟩ | decide | (simp [St.get, St.obj, look, lookD, unI, List.map_take]; done))
  clear hR ha
  rintro ⟨⟨b, u, o⟩, h0, h1, h2, hp, hq⟩
  dsimp only at h0 h1 h2 hp hq
  cases b
  · have hR := hq rfl
    repeat (first | refine And.intro (by rfl) ?_ | refine litA ?_ | refine litB ?_ | refine litC ?_ | refine litD ?_ | refine And.intro trivial ?_ | refine And.intro (keptI (by repeat' (first | refine And.intro ?_ ?_ | exact True.intro | rfl | (simp; done)))) ?_)
    subst hR
    repeat' (first | refine And.intro ?_ ?_ | exact .inl rfl | rfl | exact .inr ⟨rfl, _, rfl⟩)
  have hR := hp rfl
  have h64 := f64_ok u
  have hlen := nodesUpTo_len u 10
  have hmem := fun k => nodesUpTo_mem (s := u) (k := k)
  have hun : unhappyS c u = match (nodesUpTo u 10).find? (fun k => !satT u (trustOf c k)) with | some k => (k, true) | none => (0, false) := rfl
  generalize nodesUpTo u 10 = L at hlen hmem hun h64
  repeat (first | refine And.intro (by rfl) ?_ | refine litA ?_ | refine litB ?_ | refine litC ?_ | refine litD ?_ | refine And.intro trivial ?_ | refine And.intro (keptI (by repeat' (first | refine And.intro ?_ ?_ | exact True.intro | rfl | (simp; done)))) ?_)
  refine ⟨_, _, h64, rfl, rfl, trivial, ?_⟩
  repeat (first | refine And.intro (by rfl) ?_ | refine litA ?_ | refine litB ?_ | refine litC ?_ | refine litD ?_ | refine And.intro trivial ?_ | refine And.intro (keptI (by repeat' (first | refine And.intro ?_ ?_ | exact True.intro | rfl | (simp; done)))) ?_)
  refine loop_ok (G := G) tabOK hm D0 (α := {k : Nat // k ≤ L.length ∧ ∀ z ∈ L.take k, (!satT u (trustOf c z)) = false}) (fun k => ⟨44, [(21, I k.1), (20, I (L.map fun x => [I x]).length), (19, encI L), (7, bval false), (5, I u), (6, .ls 42000 (o.map fun x => [I x]).length), (2, .loc 3000 0)], [(3000, .box [.sl none 4 (c.map encMb)] false), (42000, .row 3 1 (o.map fun x => [I x]) false)]⟩) (fun k => L.length - k.1) (by kernel_rfl) ⟨0, Nat.zero_le _, by first | rfl | simp⟩ ?_ ?_
  · repeat' (first | refine fitE_ls rfl rfl ?_ | refine fitC_ls rfl ?_ | refine And.intro ?_ ?_ | exact True.intro | rfl | exact ⟨_, _, rfl, rfl⟩ | exact ⟨_, _, rfl⟩ | decide | (simp [St.get, St.obj, look, lookD, unI, List.map_take]; done))
  rintro ⟨k, hk, hx⟩
  repeat (first | refine And.intro (by rfl) ?_ | refine litA ?_ | refine litB ?_ | refine litC ?_ | refine litD ?_ | refine And.intro trivial ?_ | refine And.intro (keptI (by repeat' (first | refine And.intro ?_ ?_ | exact True.intro | rfl | (simp; done)))) ?_)
  refine And.intro (fun h => ?_) (fun h => ?_)
  rotate_left
  · have hl : L.length ≤ k := by simpa using h
    repeat (first | refine And.intro (by rfl) ?_ | refine litA ?_ | refine litB ?_ | refine litC ?_ | refine litD ?_ | refine And.intro trivial ?_ | refine And.intro (keptI (by repeat' (first | refine And.intro ?_ ?_ | exact True.intro | rfl | (simp; done)))) ?_)
    have ek : L.take k = L := List.take_of_length_le hl
    try rw [ek] at hx
    have hf : L.find? (fun k => !satT u (trustOf c k)) = none := List.find?_eq_none.2 (by intro z hz; rw [hx z hz]; simp)
    rw [hf] at hun
    rw [elimS, if_neg (by rw [hun]; simp)] at hR
    refine ⟨⟨(false, u, o), h0, h1, h2, fun h => (by cases h), fun _ => hR⟩, ?_, ?_⟩
    · repeat' (first | refine fitE_ls rfl rfl ?_ | refine fitC_ls rfl ?_ | refine And.intro ?_ ?_ | exact True.intro | rfl | exact ⟨_, _, rfl, rfl⟩ | exact ⟨_, _, rfl⟩ | decide | (simp [St.get, St.obj, look, lookD, unI, List.map_take]; done))
    · simp
  have hk' : k < L.length := by simpa using h
  obtain ⟨y, hy⟩ : ∃ y, L[k]? = some y := ⟨_, List.getElem?_eq_getElem hk'⟩
  have e : IntKind.i64.wrap ((k : Int) + 1) = ((k + 1 : Nat) : Int) := by rw [wrap_id] <;> omega
  have et : L.take (k + 1) = L.take k ++ [y] := by rw [List.take_add_one, hy]; rfl
  repeat (first | refine And.intro (by rfl) ?_ | refine litA ?_ | refine litB ?_ | refine litC ?_ | refine litD ?_ | refine And.intro trivial ?_ | refine And.intro (keptI (by repeat' (first | refine And.intro ?_ ?_ | exact True.intro | rfl | (simp; done)))) ?_)
  have hk3 := hmem y (List.mem_of_getElem? hy)
  refine ⟨by simp, [I y], by simp [hy], ?_⟩
  have hkl : y.toNat < c.length := by have := hc.1; omega
  obtain ⟨m, hm'⟩ : ∃ m, c[y.toNat]? = some m := ⟨_, List.getElem?_eq_getElem hkl⟩
  have hsm := smallC_trust hc y
  have hsub : IntKind.i64.wrap (u - IntKind.i64.wrap (1 * 2 ^ min y.toNat 64)) = clrS u y := sub_pow hk3.2.2
  cases m with
  | none =>
    have ht : trustOf c y = .mk 0 [] [] := by simp [trustOf, hm']
    have hcall := satN2 u
    repeat (first | refine And.intro (by rfl) ?_ | refine litA ?_ | refine litB ?_ | refine litC ?_ | refine litD ?_ | refine And.intro trivial ?_ | refine And.intro (keptI (by repeat' (first | refine And.intro ?_ ?_ | exact True.intro | rfl | (simp; done)))) ?_)
    refine ⟨hk3.1, encMb none, by rw [List.getElem?_map, hm']; rfl, ?_⟩
    repeat (first | refine And.intro (by rfl) ?_ | refine litA ?_ | refine litB ?_ | refine litC ?_ | refine litD ?_ | refine And.intro trivial ?_ | refine And.intro (keptI (by repeat' (first | refine And.intro ?_ ?_ | exact True.intro | rfl | (simp; done)))) ?_)
    refine ⟨_, _, hcall, rfl, rfl, trivial, ?_⟩
    repeat' (first | refine And.intro (by rfl) ?_ | refine litA ?_ | refine litB ?_ | refine litC ?_ | refine litD ?_ | refine And.intro trivial ?_ | refine And.intro (keptI (by repeat' (first | refine And.intro ?_ ?_ | exact True.intro | rfl | (simp; done)))) ?_ | (refine And.intro ?_ ?_ <;> intro h))
    · have h : (!satT u (trustOf c y)) = true := by rw [ht]; exact h
      rw [find_at hx hy h] at hun
      have hcl := (clr_pow hk3.2.2).2
      rw [elimS, if_pos (by rw [hun]), elimS_fuel c 1023 1024 _ _ (by rw [hun]; exact hcl.1) (by rw [hun]; dsimp only; omega) (by rw [hun]; dsimp only; omega), hun] at hR
      dsimp only at hR
      refine ⟨hk3.1, ?_⟩
      repeat (first | refine And.intro (by rfl) ?_ | refine litA ?_ | refine litB ?_ | refine litC ?_ | refine litD ?_ | refine And.intro trivial ?_ | refine And.intro (keptI (by repeat' (first | refine And.intro ?_ ?_ | exact True.intro | rfl | (simp; done)))) ?_)
      refine ⟨(show (o.map fun x => [I x]).length + 1 ≤ 1073741824 by simp; omega), rfl, ?_⟩
      repeat (first | refine And.intro (by rfl) ?_ | refine litA ?_ | refine litB ?_ | refine litC ?_ | refine litD ?_ | refine And.intro trivial ?_ | refine And.intro (keptI (by repeat' (first | refine And.intro ?_ ?_ | exact True.intro | rfl | (simp; done)))) ?_)
      have el : (o.map fun x => [I x]).length + 1 = ((o ++ [y]).map fun x => [I x]).length := by simp
      have eo : (o.map fun x => [I x]) ++ [[I y]] = (o ++ [y]).map fun x => [I x] := by simp
      refine ⟨⟨(true, clrS u y, o ++ [y]), hcl.1, by dsimp only; omega, by simp; omega, fun _ => hR, fun h => (by cases h)⟩, ?_, ?_⟩
      · repeat' (first | refine fitE_ls rfl rfl ?_ | refine fitC_ls rfl ?_ | refine fitE_ls (congrArg (PV.ls 42000) el) rfl ?_ | exact congrArg I hsub | exact congrArg (fun m => Obj.row 3 1 m false) eo | refine And.intro ?_ ?_ | exact True.intro | rfl | exact ⟨_, _, rfl, rfl⟩ | exact ⟨_, _, rfl⟩ | decide | (simp [St.get, St.obj, look, lookD, unI, List.map_take]; done))
      · simp; omega
    · have h : (!satT u (trustOf c y)) = false := by rw [ht]; exact h
      refine ⟨⟨k + 1, hk', (by rw [et]; exact all_snoc hx h)⟩, ?_, ?_⟩
      · repeat' (first | refine fitE_ls rfl rfl ?_ | refine fitC_ls rfl ?_ | exact congrArg I e | refine And.intro ?_ ?_ | exact True.intro | rfl | exact ⟨_, _, rfl, rfl⟩ | exact ⟨_, _, rfl⟩ | decide | (simp [St.get, St.obj, look, lookD, unI, List.map_take]; done))
      · dsimp only; omega
  | some t =>
    have ht : trustOf c y = t := by simp [trustOf, hm']
    rw [ht] at hsm
    obtain ⟨ty, ny, iy⟩ := t
    have hcall := f233_ok (.mk ty ny iy) u hsm
    repeat (first | refine And.intro (by rfl) ?_ | refine litA ?_ | refine litB ?_ | refine litC ?_ | refine litD ?_ | refine And.intro trivial ?_ | refine And.intro (keptI (by repeat' (first | refine And.intro ?_ ?_ | exact True.intro | rfl | (simp; done)))) ?_)
    refine ⟨hk3.1, encMb (some (.mk ty ny iy)), by rw [List.getElem?_map, hm']; rfl, ?_⟩
    repeat (first | refine And.intro (by rfl) ?_ | refine litA ?_ | refine litB ?_ | refine litC ?_ | refine litD ?_ | refine And.intro trivial ?_ | refine And.intro (keptI (by repeat' (first | refine And.intro ?_ ?_ | exact True.intro | rfl | (simp; done)))) ?_)
    refine ⟨_, _, hcall, rfl, rfl, trivial, ?_⟩
    repeat' (first | refine And.intro (by rfl) ?_ | refine litA ?_ | refine litB ?_ | refine litC ?_ | refine litD ?_ | refine And.intro trivial ?_ | refine And.intro (keptI (by repeat' (first | refine And.intro ?_ ?_ | exact True.intro | rfl | (simp; done)))) ?_ | (refine And.intro ?_ ?_ <;> intro h))
    · have h : (!satT u (trustOf c y)) = true := by rw [ht]; exact h
      rw [find_at hx hy h] at hun
      have hcl := (clr_pow hk3.2.2).2
      rw [elimS, if_pos (by rw [hun]), elimS_fuel c 1023 1024 _ _ (by rw [hun]; exact hcl.1) (by rw [hun]; dsimp only; omega) (by rw [hun]; dsimp only; omega), hun] at hR
      dsimp only at hR
      refine ⟨hk3.1, ?_⟩
      repeat (first | refine And.intro (by rfl) ?_ | refine litA ?_ | refine litB ?_ | refine litC ?_ | refine litD ?_ | refine And.intro trivial ?_ | refine And.intro (keptI (by repeat' (first | refine And.intro ?_ ?_ | exact True.intro | rfl | (simp; done)))) ?_)
      refine ⟨(show (o.map fun x => [I x]).length + 1 ≤ 1073741824 by simp; omega), rfl, ?_⟩
      repeat (first | refine And.intro (by rfl) ?_ | refine litA ?_ | refine litB ?_ | refine litC ?_ | refine litD ?_ | refine And.intro trivial ?_ | refine And.intro (keptI (by repeat' (first | refine And.intro ?_ ?_ | exact True.intro | rfl | (simp; done)))) ?_)
      have el : (o.map fun x => [I x]).length + 1 = ((o ++ [y]).map fun x => [I x]).length := by simp
      have eo : (o.map fun x => [I x]) ++ [[I y]] = (o ++ [y]).map fun x => [I x] := by simp
      refine ⟨⟨(true, clrS u y, o ++ [y]), hcl.1, by dsimp only; omega, by simp; omega, fun _ => hR, fun h => (by cases h)⟩, ?_, ?_⟩
      · repeat' (first | refine fitE_ls rfl rfl ?_ | refine fitC_ls rfl ?_ | refine fitE_ls (congrArg (PV.ls 42000) el) rfl ?_ | exact congrArg I hsub | exact congrArg (fun m => Obj.row 3 1 m false) eo | refine And.intro ?_ ?_ | exact True.intro | rfl | exact ⟨_, _, rfl, rfl⟩ | exact ⟨_, _, rfl⟩ | decide | (simp [St.get, St.obj, look, lookD, unI, List.map_take]; done))
      · simp; omega
    · have h : (!satT u (trustOf c y)) = false := by rw [ht]; exact h
      refine ⟨⟨k + 1, hk', (by rw [et]; exact all_snoc hx h)⟩, ?_, ?_⟩
      · repeat' (first | refine fitE_ls rfl rfl ?_ | refine fitC_ls rfl ?_ | exact congrArg I e | refine And.intro ?_ ?_ | exact True.intro | rfl | exact ⟨_, _, rfl, rfl⟩ | exact ⟨_, _, rfl⟩ | decide | (simp [St.get, St.obj, look, lookD, unI, List.map_take]; done))
      · dsimp only; omega
def okClr : Int → List Int → Prop
  | _, [] => True
  | s, k :: l => hasS s k = true ∧ okClr (clrS s k) l
theorem elimS_fold (c : List Member) : ∀ (f : Nat) (s : Int) (o : List Int), ∃ l, (elimS c f s o).2 = o ++ l ∧ (elimS c f s o).1 = l.foldl clrS s ∧ okClr s l
  | 0, s, o => ⟨[], by simp [elimS], rfl, trivial⟩
  | f + 1, s, o => by
    rw [elimS]
    split
    · rename_i h
      obtain ⟨l, h1, h2, h3⟩ := elimS_fold c f (clrS s (unhappyS c s).1) (o ++ [(unhappyS c s).1])
      exact ⟨(unhappyS c s).1 :: l, by rw [h1]; simp, h2, unhappy_has h, h3⟩
    · exact ⟨[], by simp, rfl, trivial⟩
theorem f115_ok (c : List Member) (s : Int) (hc : smallC c) : C 115 [encCfg c, I s] (I (elim c s).1) := by
  refine fn_ok (G := G) tabOK hm D0 Tryz.func115 rfl (by kernel_rfl) (by kernel_rfl) rfl rfl ?_
  repeat' (first | refine And.intro (by rfl) ?_ | refine litA ?_ | refine litB ?_ | refine litC ?_ | refine litD ?_ | refine And.intro trivial ?_ | refine And.intro (keptI (by repeat' (first | refine And.intro ?_ ?_ | exact True.intro | rfl | (simp; done)))) ?_ | refine ⟨_, _, f148_ok s, rfl, rfl, trivial, ?_⟩ | (refine And.intro ?_ ?_ <;> intro h))
  · have e : elim c s = (0, []) := by rw [elim, if_neg (by simp at h; simp [h])]
    rw [e]
    repeat' (first | refine And.intro ?_ ?_ | exact .inl rfl | rfl | exact .inr ⟨rfl, _, rfl⟩)
  have hvs : validS s = true := by simpa using h
  clear h
  have hd := declS_range c
  have hr : 0 ≤ s ∧ s < 1024 := by simpa [validS] using hvs
  have ha := and_nat hr.1 hr.2 hd.1 hd.2
  have h189 := f189_ok c s hc
  refine ⟨_, _, f188_ok c, rfl, rfl, trivial, ?_⟩
  repeat (first | refine And.intro (by rfl) ?_ | refine litA ?_ | refine litB ?_ | refine litC ?_ | refine litD ?_ | refine And.intro trivial ?_ | refine And.intro (keptI (by repeat' (first | refine And.intro ?_ ?_ | exact True.intro | rfl | (simp; done)))) ?_)
  refine ⟨_, _, h189, rfl, rfl, trivial, ?_⟩
  repeat (first | refine And.intro (by rfl) ?_ | refine litA ?_ | refine litB ?_ | refine litC ?_ | refine litD ?_ | refine And.intro trivial ?_ | refine And.intro (keptI (by repeat' (first | refine And.intro ?_ ?_ | exact True.intro | rfl | (simp; done)))) ?_)
  have hE : elim c s = elimS c 1024 (andS s (declS c)) [] := by rw [elim, if_pos hvs]
  obtain ⟨l, g1, g2, g3⟩ := elimS_fold c 1024 (andS s (declS c)) []
  rw [List.nil_append] at g1
  have hL : (elim c s).2 = l := by rw [hE]; exact g1
  have hL1 : (elim c s).1 = l.foldl clrS (andS s (declS c)) := by rw [hE]; exact g2
  rw [hL, hL1]
  generalize hG : l.foldl clrS (andS s (declS c)) = G'
  have hlen : l.length ≤ 1024 := by
    have : ∀ (l : List Int) (s : Int), okClr s l → 0 ≤ s → s < 1024 → (l.length : Int) ≤ s := by
      intro l
      induction l with
      | nil => intro s _ h _; simpa using h
      | cons k l ih =>
        intro s h h0 h1
        have hcl := (clr_pow h.1).2
        have := ih _ h.2 hcl.1 (by omega)
        simp only [List.length_cons]; omega
    have := this l _ g3 ha.2.1 ha.2.2
    omega
  refine loop_ok (G := G) tabOK hm D0 (α := {p : Nat × Int // p.1 ≤ l.length ∧ okClr p.2 (l.drop p.1) ∧ G' = (l.drop p.1).foldl clrS p.2}) (fun p => ⟨29, [(5, I p.1.2), (19, I p.1.1), (18, I (l.map fun x => [I x]).length), (17, encI l)], []⟩) (fun p => l.length - p.1.1) (by kernel_rfl) ⟨(0, andS s (declS c)), Nat.zero_le _, g3, hG.symm⟩ ?_ ?_
  · repeat' (first | refine fitE_ls rfl rfl ?_ | refine fitC_ls rfl ?_ | exact congrArg I ha.1 | refine And.intro ?_ ?_ | exact True.intro | rfl | exact ⟨_, _, rfl, rfl⟩ | exact ⟨_, _, rfl⟩ | decide | (simp [St.get, St.obj, look, lookD, unI, List.map_take]; done))
  rintro ⟨⟨k, u⟩, hk, hu, hx⟩
  dsimp only at hk hu hx
  repeat (first | refine And.intro (by rfl) ?_ | refine litA ?_ | refine litB ?_ | refine litC ?_ | refine litD ?_ | refine And.intro trivial ?_ | refine And.intro (keptI (by repeat' (first | refine And.intro ?_ ?_ | exact True.intro | rfl | (simp; done)))) ?_)
  refine And.intro (fun h => ?_) (fun h => ?_)
  rotate_left
  · have hl : l.length ≤ k := by simpa using h
    rw [List.drop_of_length_le hl] at hx
    repeat (first | refine And.intro (by rfl) ?_ | refine litA ?_ | refine litB ?_ | refine litC ?_ | refine litD ?_ | refine And.intro trivial ?_ | refine And.intro (keptI (by repeat' (first | refine And.intro ?_ ?_ | exact True.intro | rfl | (simp; done)))) ?_)
    exact ⟨subI hx.symm, rfl⟩
  have hk' : k < l.length := by simpa using h
  obtain ⟨y, hy⟩ : ∃ y, l[k]? = some y := ⟨_, List.getElem?_eq_getElem hk'⟩
  have e : IntKind.i64.wrap ((k : Int) + 1) = ((k + 1 : Nat) : Int) := by rw [wrap_id] <;> omega
  rw [drop_at hy] at hu hx
  have hk3 := hasS_spec hu.1
  repeat (first | refine And.intro (by rfl) ?_ | refine litA ?_ | refine litB ?_ | refine litC ?_ | refine litD ?_ | refine And.intro trivial ?_ | refine And.intro (keptI (by repeat' (first | refine And.intro ?_ ?_ | exact True.intro | rfl | (simp; done)))) ?_)
  refine ⟨by simp, [I y], by simp [hy], ?_⟩
  repeat (first | refine And.intro (by rfl) ?_ | refine litA ?_ | refine litB ?_ | refine litC ?_ | refine litD ?_ | refine And.intro trivial ?_ | refine And.intro (keptI (by repeat' (first | refine And.intro ?_ ?_ | exact True.intro | rfl | (simp; done)))) ?_)
  refine ⟨hk3.2.2.1, ?_⟩
  repeat (first | refine And.intro (by rfl) ?_ | refine litA ?_ | refine litB ?_ | refine litC ?_ | refine litD ?_ | refine And.intro trivial ?_ | refine And.intro (keptI (by repeat' (first | refine And.intro ?_ ?_ | exact True.intro | rfl | (simp; done)))) ?_)
  refine ⟨⟨(k + 1, clrS u y), hk', hu.2, hx⟩, ?_, ?_⟩
  · repeat' (first | refine fitE_ls rfl rfl ?_ | refine fitC_ls rfl ?_ | exact congrArg I e | exact congrArg I (sub_pow hu.1) | refine And.intro ?_ ?_ | exact True.intro | rfl | exact ⟨_, _, rfl, rfl⟩ | exact ⟨_, _, rfl⟩ | decide | (simp [St.get, St.obj, look, lookD, unI, List.map_take]; done))
  · dsimp only; omega
theorem f27_ok (c : List Member) (v s : Int) (hc : smallC c) : C 27 [encCfg c, I v, I s] (bval (hasS (elim c s).1 v)) := f27_of c v s _ (f115_ok c s hc)
end Go.Proofs.YtnkpakakgfkpbaaGreat.V
end
section
namespace Go.Proofs.YtnkpakakgfkpbaaGreat.V
open Go.Vi
set_option maxRecDepth 10000
/-! reference functions of chapters 18, 19 -/
theorem f113_ok (c : List Member) (v a b : Int) (hc : smallC c) : C 113 [encCfg c, I v, I a, I b] (bval (acceptsS c v a b)) := by
  refine fn_ok (G := G) tabOK hm D0 Tryz.func113 rfl (by kernel_rfl) (by kernel_rfl) rfl rfl ?_
  repeat' (first | refine And.intro (by rfl) ?_ | refine litA ?_ | refine litB ?_ | refine litC ?_ | refine litD ?_ | refine And.intro trivial ?_ | refine And.intro (keptI (by repeat' (first | refine And.intro ?_ ?_ | exact True.intro | rfl | (simp; done)))) ?_ | refine ⟨_, _, f148_ok a, rfl, rfl, trivial, ?_⟩ | refine ⟨_, _, f148_ok b, rfl, rfl, trivial, ?_⟩ | (refine And.intro ?_ ?_ <;> intro h))
  · exact ⟨subB (by simp at h; simp [acceptsS, h]), rfl⟩
  rotate_left
  · exact ⟨subB (by simp at h; simp [acceptsS, h]), rfl⟩
  rename_i ha
  have ha : validS a = true := by simpa using ha
  have h : validS b = true := by simpa using h
  have hra : 0 ≤ a ∧ a < 1024 := by simpa [validS] using ha
  have hrb : 0 ≤ b ∧ b < 1024 := by simpa [validS] using h
  have ho := or_nat hra.1 hra.2 hrb.1 hrb.2
  have hcall : C 115 [encCfg c, I (IntKind.i64.wrap ((BitVec.ofInt 64 a ||| BitVec.ofInt 64 b).toNat : Int))] (I (elim c (orN a b)).1) := by
    rw [ho.1]
    exact f115_ok c _ hc
  have hb : acceptsS c v a b = (blocksS c v b || hasS (elim c (orN a b)).1 v) := by rw [acceptsS, ha, h]; rfl
  rw [hb]
  refine ⟨_, _, f187_ok c v b hc, rfl, rfl, trivial, ?_⟩
  repeat' (first | refine And.intro (by rfl) ?_ | refine litA ?_ | refine litB ?_ | refine litC ?_ | refine litD ?_ | refine And.intro trivial ?_ | refine And.intro (keptI (by repeat' (first | refine And.intro ?_ ?_ | exact True.intro | rfl | (simp; done)))) ?_ | refine ⟨_, _, hcall, rfl, rfl, trivial, ?_⟩ | refine ⟨_, _, f61_ok (elim c (orN a b)).1 v, rfl, rfl, trivial, ?_⟩ | (refine And.intro ?_ ?_ <;> intro h))
  all_goals exact ⟨subB (by simp at *; simp_all), rfl⟩

def viewR : List Message → List Member → List Member
  | [], c => c
  | m :: l, c => viewR l (if plainM m = true then c.set m.node.toNat (some m.trust) else c)
theorem viewR_len : ∀ (l : List Message) (c : List Member), (viewR l c).length = c.length
  | [], _ => rfl
  | m :: l, c => by rw [viewR, viewR_len]; split <;> simp
theorem viewP_len (v : Int) : ∀ (l : List Message) (c : List Member), (viewP v l c).length = c.length
  | [], _ => rfl
  | m :: l, c => by rw [viewP, viewP_len]; split <;> simp
theorem view_agree (v : Int) : ∀ (l : List Message) (c c' : List Member), c.length = c'.length → (∀ j : Nat, (j : Int) ≠ v → c[j]? = c'[j]?) → ∀ j : Nat, (j : Int) ≠ v → (viewP v l c)[j]? = (viewR l c')[j]?
  | [], c, c', _, h => h
  | m :: l, c, c', hl, h => by
    rw [viewP, viewR]
    refine view_agree v l _ _ (by split <;> split <;> simp [hl]) fun j hj => ?_
    by_cases hp : plainM m = true
    · have hn := (plainM_node hp).1
      rw [if_pos hp]
      by_cases hv : m.node = v
      · rw [if_neg (fun g => g.1 hv)]
        have : ¬ m.node.toNat = j := by omega
        rw [List.getElem?_set_ne this]
        exact h j hj
      · rw [if_pos ⟨hv, hp⟩]
        rw [List.getElem?_set, List.getElem?_set, h j hj, hl]
    · rw [if_neg hp, if_neg (fun g => hp g.2)]
      exact h j hj
theorem viewP_at (v : Int) (h0 : 0 ≤ v) : ∀ (l : List Message) (c : List Member), (viewP v l c)[v.toNat]? = c[v.toNat]?
  | [], _ => rfl
  | m :: l, c => by
    rw [viewP, viewP_at v h0 l]
    split
    · rename_i h
      have hn := (plainM_node h.2).1
      have : ¬ m.node.toNat = v.toNat := fun e => h.1 (by omega)
      rw [List.getElem?_set_ne this]
    · rfl
def viewRS (v : Int) (t : Trust) (l : List Message) : List Member :=
  if nodeS v = true then
    (if validT t = 0 then ((viewR l (List.replicate 10 none)).set v.toNat none).set v.toNat (some t) else (viewR l (List.replicate 10 none)).set v.toNat none)
  else viewR l (List.replicate 10 none)
theorem viewRS_eq (v : Int) (t : Trust) (l : List Message) : viewRS v t l = viewS v t l := by
  have hlen := viewP_len v l (List.replicate 10 none)
  have hlen2 := viewR_len l (List.replicate 10 none)
  have hag := view_agree v l (List.replicate 10 none) (List.replicate 10 none) rfl fun _ _ => rfl
  unfold viewRS viewS
  by_cases hv : nodeS v = true
  · have h0 : 0 ≤ v ∧ v < 10 := by simpa [nodeS] using hv
    have hat := viewP_at v h0.1 l (List.replicate 10 none)
    rw [if_pos hv]
    by_cases ht : validT t = 0
    · rw [if_pos ht, if_pos ⟨hv, ht⟩, List.set_set]
      apply List.ext_getElem?
      intro j
      rw [List.getElem?_set, List.getElem?_set, hlen, hlen2]
      split
      · rfl
      · exact (hag j (by omega)).symm
    · rw [if_neg ht, if_neg (fun g => ht g.2)]
      apply List.ext_getElem?
      intro j
      rw [List.getElem?_set, hlen2]
      by_cases hj : v.toNat = j
      · rw [if_pos hj, ← hj, hat]
        have : v.toNat < 10 := by omega
        rw [if_pos (by simpa using this), List.getElem?_replicate, if_pos this]
      · rw [if_neg hj]
        exact (hag j (by omega)).symm
  · rw [if_neg hv, if_neg (fun g => hv g.1)]
    apply List.ext_getElem?
    intro j
    by_cases hj : (j : Int) = v
    · have h10 : ¬ j < 10 := by simp [nodeS] at hv; omega
      rw [List.getElem?_eq_none (by rw [hlen2]; simp; omega), List.getElem?_eq_none (by rw [hlen]; simp; omega)]
    · exact (hag j hj).symm
theorem set_row0 (c : List Member) (i : Nat) (m : Member) : (c.map encMb).set i (splice (encMb m) 0 (encMb none)) = (c.set i none).map encMb := by
  have h : splice (encMb m) 0 (encMb none) = encMb none := by
    unfold splice
    rw [List.take_zero, List.nil_append, encMb_len, List.drop_of_length_le (by rw [encMb_len]; omega), List.append_nil]
  rw [h, List.map_set]
theorem f28_ok (v : Int) (t : Trust) (l : List Message) : C 28 [I v, .agg (encT t), encML l] (encCfg (viewS v t l)) := by
  obtain ⟨tt, tn, ti⟩ := t
  rw [← viewRS_eq]
  refine fn_real (G := G) tabOK hm D0 Tryz.func28 rfl (by kernel_rfl) (by kernel_rfl) rfl rfl fun hr => ?_
  have hlen : (l.length : Int) ≤ 9223372036854775807 := by simpa using RealA.len hr (sz := 7) (es := l.map encM) (by simp)
  clear hr
  generalize hR : viewR l (List.replicate 10 none) = R
  repeat (first | refine And.intro (by rfl) ?_ | refine litA ?_ | refine litB ?_ | refine litC ?_ | refine litD ?_ | refine And.intro trivial ?_ | refine And.intro (keptI (by repeat' (first | refine And.intro ?_ ?_ | exact True.intro | rfl | (simp; done)))) ?_)
  refine ⟨by decide, rfl, by decide, ?_⟩
  repeat (first | refine And.intro (by rfl) ?_ | refine litA ?_ | refine litB ?_ | refine litC ?_ | refine litD ?_ | refine And.intro trivial ?_ | refine And.intro (keptI (by repeat' (first | refine And.intro ?_ ?_ | exact True.intro | rfl | (simp; done)))) ?_)
  refine loop_ok (G := G) tabOK hm D0 (α := {q : Nat × List Member // q.1 ≤ l.length ∧ q.2.length = 10 ∧ R = viewR (l.drop q.1) q.2}) (fun q => ⟨50, [(14, I q.1.1), (13, I (l.map encM).length), (12, encML l), (0, I v), (7, .loc 8000 0), (4, .loc 5000 0), (6, .loc 7000 0)], [(8000, .box [.ls 11000 10] false), (7000, .box [.nils] false), (5000, .box (encT (.mk tt tn ti)) false), (11000, .row 89 4 (q.1.2.map encMb) false)]⟩) (fun q => l.length - q.1.1) (by kernel_rfl) ⟨(0, List.replicate 10 none), by simp [← hR]⟩ ?_ ?_
  · repeat' (first | refine fitE_ls rfl rfl ?_ | refine fitC_ls rfl ?_ | refine And.intro ?_ ?_ | exact True.intro | rfl | exact ⟨_, _, rfl, rfl⟩ | exact ⟨_, _, rfl⟩ | decide | (simp [St.get, St.obj, look, lookD, unI, List.map_take]; done))
  rintro ⟨⟨k, c⟩, hk, hc, hx⟩
  dsimp only at hk hc hx
  have hc10 : (10 : Nat) = (c.map encMb).length := by simp [hc]
  repeat (first | refine And.intro (by rfl) ?_ | refine litA ?_ | refine litB ?_ | refine litC ?_ | refine litD ?_ | refine And.intro trivial ?_ | refine And.intro (keptI (by repeat' (first | refine And.intro ?_ ?_ | exact True.intro | rfl | (simp; done)))) ?_)
  refine And.intro (fun h => ?_) (fun h => ?_)
  rotate_left
  · have hl : l.length ≤ k := by simpa using h
    rw [List.drop_of_length_le hl, viewR] at hx
    have h93 := f93_ok (.mk tt tn ti)
    repeat' (first | refine And.intro (by rfl) ?_ | refine litA ?_ | refine litB ?_ | refine litC ?_ | refine litD ?_ | refine And.intro trivial ?_ | refine And.intro (keptI (by repeat' (first | refine And.intro ?_ ?_ | exact True.intro | rfl | (simp; done)))) ?_ | (refine And.intro ?_ ?_ <;> intro h))
    · rename_i g1
      have hv2 : 0 ≤ v ∧ v < 10 := by simp at g1 h; omega
      have hnv : nodeS v = true := by simpa [nodeS] using hv2
      obtain ⟨z, hz⟩ : ∃ z, c[v.toNat]? = some z := ⟨_, List.getElem?_eq_getElem (by omega)⟩
      have hs0 := set_row0 c v.toNat z
      have hc0 : (10 : Nat) = ((c.map encMb).set v.toNat (splice (encMb z) 0 (encMb none))).length := by rw [List.length_set]; exact hc10
      refine ⟨hc10, hv2.1, hv2.2, ?_⟩
      repeat (first | refine And.intro (by rfl) ?_ | refine litA ?_ | refine litB ?_ | refine litC ?_ | refine litD ?_ | refine And.intro trivial ?_ | refine And.intro (keptI (by repeat' (first | refine And.intro ?_ ?_ | exact True.intro | rfl | (simp; done)))) ?_)
      refine ⟨hc10, encMb z, by rw [List.getElem?_map, hz]; rfl, rfl, by rw [encMb_len]; rfl, rfl, ?_⟩
      repeat (first | refine And.intro (by rfl) ?_ | refine litA ?_ | refine litB ?_ | refine litC ?_ | refine litD ?_ | refine And.intro trivial ?_ | refine And.intro (keptI (by repeat' (first | refine And.intro ?_ ?_ | exact True.intro | rfl | (simp; done)))) ?_)
      refine ⟨_, _, h93, rfl, rfl, trivial, ?_⟩
      repeat' (first | refine And.intro (by rfl) ?_ | refine litA ?_ | refine litB ?_ | refine litC ?_ | refine litD ?_ | refine And.intro trivial ?_ | refine And.intro (keptI (by repeat' (first | refine And.intro ?_ ?_ | exact True.intro | rfl | (simp; done)))) ?_ | (refine And.intro ?_ ?_ <;> intro h))
      · have hvt : validT (.mk tt tn ti) = 0 := by simpa using h
        have hvw : viewRS v (.mk tt tn ti) l = (c.set v.toNat none).set v.toNat (some (.mk tt tn ti)) := by rw [viewRS, if_pos hnv, if_pos hvt, hR, hx]
        rw [hvw]
        refine ⟨hc0, hv2.1, hv2.2, ?_⟩
        repeat (first | refine And.intro (by rfl) ?_ | refine litA ?_ | refine litB ?_ | refine litC ?_ | refine litD ?_ | refine And.intro trivial ?_ | refine And.intro (keptI (by repeat' (first | refine And.intro ?_ ?_ | exact True.intro | rfl | (simp; done)))) ?_)
        have hz0 : ((c.map encMb).set v.toNat (splice (encMb z) 0 (encMb none)))[v.toNat]? = some (encMb none) := by rw [hs0, List.getElem?_map, List.getElem?_set_self (by omega)]; rfl
        refine ⟨hc0, encMb none, hz0, rfl, by rw [encMb_len]; rfl, rfl, ?_⟩
        repeat (first | refine And.intro (by rfl) ?_ | refine litA ?_ | refine litB ?_ | refine litC ?_ | refine litD ?_ | refine And.intro trivial ?_ | refine And.intro (keptI (by repeat' (first | refine And.intro ?_ ?_ | exact True.intro | rfl | (simp; done)))) ?_)
        have hs1 := set_row (c.set v.toNat none) v.toNat (.mk tt tn ti) none
        rw [← hs0] at hs1
        exact ⟨by rw [List.length_set]; exact hc0, .inl (congrArg (PV.sl none 4) hs1), rfl⟩
      · have hvt : ¬ validT (.mk tt tn ti) = 0 := by simpa using h
        have hvw : viewRS v (.mk tt tn ti) l = c.set v.toNat none := by rw [viewRS, if_pos hnv, if_neg hvt, hR, hx]
        rw [hvw]
        exact ⟨hc0, .inl (congrArg (PV.sl none 4) hs0), rfl⟩
    · have hnv : ¬ nodeS v = true := by simp at h; simp [nodeS]; omega
      have hvw : viewRS v (.mk tt tn ti) l = c := by rw [viewRS, if_neg hnv, hR, hx]
      rw [hvw]
      exact ⟨hc10, .inl rfl, rfl⟩
    · have hnv : ¬ nodeS v = true := by simp at h; simp [nodeS]; omega
      have hvw : viewRS v (.mk tt tn ti) l = c := by rw [viewRS, if_neg hnv, hR, hx]
      rw [hvw]
      exact ⟨hc10, .inl rfl, rfl⟩
  have hk' : k < l.length := by simpa using h
  obtain ⟨y, hy⟩ : ∃ y, l[k]? = some y := ⟨_, List.getElem?_eq_getElem hk'⟩
  have e : IntKind.i64.wrap ((k : Int) + 1) = ((k + 1 : Nat) : Int) := by rw [wrap_id] <;> omega
  rw [drop_at hy, viewR] at hx
  obtain ⟨mn, ms, ⟨mt, mnn, mi⟩, mv, ma⟩ := y
  dsimp only at hx
  repeat (first | refine And.intro (by rfl) ?_ | refine litA ?_ | refine litB ?_ | refine litC ?_ | refine litD ?_ | refine And.intro trivial ?_ | refine And.intro (keptI (by repeat' (first | refine And.intro ?_ ?_ | exact True.intro | rfl | (simp; done)))) ?_)
  refine ⟨by simp, encM ⟨mn, ms, .mk mt mnn mi, mv, ma⟩, by simp only [Int.toNat_natCast, List.getElem?_map, hy]; rfl, ?_⟩
  repeat' (first | refine And.intro (by rfl) ?_ | refine litA ?_ | refine litB ?_ | refine litC ?_ | refine litD ?_ | refine And.intro trivial ?_ | refine And.intro (keptI (by repeat' (first | refine And.intro ?_ ?_ | exact True.intro | rfl | (simp; done)))) ?_ | refine ⟨_, _, f116_ok ⟨mn, ms, .mk mt mnn mi, mv, ma⟩, rfl, rfl, trivial, ?_⟩ | (refine And.intro ?_ ?_ <;> intro h))
  · have hn := plainM_node h
    obtain ⟨z, hz⟩ : ∃ z, c[mn.toNat]? = some z := ⟨_, List.getElem?_eq_getElem (by have := hn.1; have := hn.2; dsimp only at *; omega)⟩
    rw [if_pos h] at hx
    refine ⟨hc10, hn.1, hn.2, ?_⟩
    repeat (first | refine And.intro (by rfl) ?_ | refine litA ?_ | refine litB ?_ | refine litC ?_ | refine litD ?_ | refine And.intro trivial ?_ | refine And.intro (keptI (by repeat' (first | refine And.intro ?_ ?_ | exact True.intro | rfl | (simp; done)))) ?_)
    refine ⟨hc10, encMb z, by rw [List.getElem?_map, hz]; rfl, rfl, by rw [encMb_len]; rfl, rfl, ?_⟩
    repeat (first | refine And.intro (by rfl) ?_ | refine litA ?_ | refine litB ?_ | refine litC ?_ | refine litD ?_ | refine And.intro trivial ?_ | refine And.intro (keptI (by repeat' (first | refine And.intro ?_ ?_ | exact True.intro | rfl | (simp; done)))) ?_)
    have hs := set_row c mn.toNat (.mk mt mnn mi) z
    refine ⟨⟨(k + 1, c.set mn.toNat (some (.mk mt mnn mi))), hk', by simp [hc], hx⟩, ?_, ?_⟩
    · repeat' (first | refine fitE_ls rfl rfl ?_ | refine fitC_ls rfl ?_ | exact congrArg I e | exact congrArg (fun m => Obj.row 89 4 m false) hs | refine And.intro ?_ ?_ | exact True.intro | rfl | exact ⟨_, _, rfl, rfl⟩ | exact ⟨_, _, rfl⟩ | decide | (simp [St.get, St.obj, look, lookD, unI, List.map_take]; done))
    · dsimp only; omega
  · rw [if_neg (fun g => by rw [h] at g; cases g)] at hx
    refine ⟨⟨(k + 1, c), hk', hc, hx⟩, ?_, ?_⟩
    · repeat' (first | refine fitE_ls rfl rfl ?_ | refine fitC_ls rfl ?_ | exact congrArg I e | refine And.intro ?_ ?_ | exact True.intro | rfl | exact ⟨_, _, rfl, rfl⟩ | exact ⟨_, _, rfl⟩ | decide | (simp [St.get, St.obj, look, lookD, unI, List.map_take]; done))
    · dsimp only; omega
end Go.Proofs.YtnkpakakgfkpbaaGreat.V
end
section
namespace Go.Proofs.YtnkpakakgfkpbaaGreat.V
open Go.Vi
set_option maxRecDepth 10000
theorem f110_ok (v : Voter) (h : v.heard.length ≤ 1000) : C 110 [.agg (encV v)] (encML (allV v)) := by
  have h26 := f26_ok v
  have hall : (allV v).map encM = v.heard.map encM ++ [encM (sayV v)] := by simp [allV]
  rw [encML, hall]
  obtain ⟨nd, sq, ⟨t, n, i⟩, vs, ac, cf, hd⟩ := v
  dsimp only at h
  refine fn_ok (G := G) tabOK hm pl110 Tryz.func110 rfl (by kernel_rfl) (by kernel_rfl) rfl rfl ?_
  repeat (first | refine And.intro (by rfl) ?_ | refine litA ?_ | refine litB ?_ | refine litC ?_ | refine litD ?_ | refine And.intro trivial ?_ | refine And.intro (keptI (by repeat' (first | refine And.intro ?_ ?_ | exact True.intro | rfl | (simp; done)))) ?_)
  refine ⟨by simp; omega, rfl, ?_⟩
  repeat (first | refine And.intro (by rfl) ?_ | refine litA ?_ | refine litB ?_ | refine litC ?_ | refine litD ?_ | refine And.intro trivial ?_ | refine And.intro (keptI (by repeat' (first | refine And.intro ?_ ?_ | exact True.intro | rfl | (simp; done)))) ?_)
  refine ⟨_, _, h26, rfl, rfl, trivial, ?_⟩
  repeat (first | refine And.intro (by rfl) ?_ | refine litA ?_ | refine litB ?_ | refine litC ?_ | refine litD ?_ | refine And.intro trivial ?_ | refine And.intro (keptI (by repeat' (first | refine And.intro ?_ ?_ | exact True.intro | rfl | (simp; done)))) ?_)
  refine ⟨by simp [chunks], by simp [chunks]; omega, rfl, ?_⟩
  repeat (first | refine And.intro (by rfl) ?_ | refine litA ?_ | refine litB ?_ | refine litC ?_ | refine litD ?_ | refine And.intro trivial ?_ | refine And.intro (keptI (by repeat' (first | refine And.intro ?_ ?_ | exact True.intro | rfl | (simp; done)))) ?_)
  exact ⟨by simp [chunks], .inl rfl, rfl⟩
theorem f25_ok (v : Voter) (x : Claim) (hv : okV v) (hc : consL v.accepts = true) : C 25 [.agg (encV v), .agg (encC x)] (bval (canS (viewS v.node v.trust v.heard) v x)) := by
  have hvc := viewS_small v.node v.trust v.heard hv.trust fun m hm => (hv.each m hm).1
  have h28 := f28_ok v.node v.trust v.heard
  have h110 := f110_ok v hv.heard
  have hva := hv.accepts
  have hcn : canS (viewS v.node v.trust v.heard) v x = (!decide (x ∈ v.accepts) && (v.accepts.all (fun y => !contra x y) && acceptsS (viewS v.node v.trust v.heard) v.node (sayP Message.votes x (allV v) 0) (sayP Message.accepts x (allV v) 0))) := by
    rw [canS, consL_snoc, hc, Bool.true_and]
  rw [hcn]
  clear hcn
  have h114 := f114_ok (allV v) x
  have h29 := f29_ok (allV v) x
  have h113 := f113_ok (viewS v.node v.trust v.heard) v.node (sayP Message.votes x (allV v) 0) (sayP Message.accepts x (allV v) 0) hvc
  generalize acceptsS (viewS v.node v.trust v.heard) v.node (sayP Message.votes x (allV v) 0) (sayP Message.accepts x (allV v) 0) = B at *
  generalize viewS v.node v.trust v.heard = c at *
  generalize sayP Message.votes x (allV v) 0 = a1 at *
  generalize sayP Message.accepts x (allV v) 0 = a2 at *
  generalize allV v = l at *
  obtain ⟨nd, sq, ⟨t, n, i⟩, vs, ac, cf, hd⟩ := v
  dsimp only at *
  have h30 := f30_ok ac x
  refine fn_ok (G := G) tabOK hm pl25 Tryz.func25 rfl (by kernel_rfl) (by kernel_rfl) rfl rfl ?_
  repeat' (first | refine And.intro (by rfl) ?_ | refine litA ?_ | refine litB ?_ | refine litC ?_ | refine litD ?_ | refine And.intro trivial ?_ | refine And.intro (keptI (by repeat' (first | refine And.intro ?_ ?_ | exact True.intro | rfl | (simp; done)))) ?_ | refine ⟨_, _, h30, rfl, rfl, trivial, ?_⟩ | (refine And.intro ?_ ?_ <;> intro h))
  · exact ⟨subB (by simp at h; simp [h]), rfl⟩
  have hn : decide (x ∈ ac) = false := h
  rw [hn, Bool.not_false, Bool.true_and]
  clear h hn
  refine loop_ok (G := G) tabOK hm pl25 (α := {k : Nat // k ≤ ac.length ∧ ∀ y ∈ ac.take k, contra x y = false}) (fun k => ⟨41, [(15, I k.1), (14, I (ac.map encC).length), (13, encCs ac), (2, .loc 3000 0), (3, .loc 4000 0)], [(4000, .box (encC x) false), (3000, .box (encV ⟨nd, sq, .mk t n i, vs, ac, cf, hd⟩) false)]⟩) (fun k => ac.length - k.1) (by kernel_rfl) ⟨0, Nat.zero_le _, by first | rfl | simp⟩ ?_ ?_
  · repeat' (first | refine fitE_ls rfl rfl ?_ | refine fitC_ls rfl ?_ | refine And.intro ?_ ?_ | exact True.intro | rfl | exact ⟨_, _, rfl, rfl⟩ | exact ⟨_, _, rfl⟩ | decide | (simp [St.get, St.obj, look, lookD, unI, List.map_take]; done))
  rintro ⟨k, hk, hx⟩
  repeat (first | refine And.intro (by rfl) ?_ | refine litA ?_ | refine litB ?_ | refine litC ?_ | refine litD ?_ | refine And.intro trivial ?_ | refine And.intro (keptI (by repeat' (first | refine And.intro ?_ ?_ | exact True.intro | rfl | (simp; done)))) ?_)
  refine And.intro (fun h => ?_) (fun h => ?_)
  rotate_left
  · have hl : ac.length ≤ k := by simpa using h
    repeat (first | refine And.intro (by rfl) ?_ | refine litA ?_ | refine litB ?_ | refine litC ?_ | refine litD ?_ | refine And.intro trivial ?_ | refine And.intro (keptI (by repeat' (first | refine And.intro ?_ ?_ | exact True.intro | rfl | (simp; done)))) ?_)
    have ek : ac.take k = ac := List.take_of_length_le hl
    try rw [ek] at hx
    have ha : ac.all (fun y => !contra x y) = true := by rw [List.all_eq_true]; intro y hy; rw [hx y hy]; rfl
    rw [ha, Bool.true_and]
    repeat' (first | refine And.intro (by rfl) ?_ | refine litA ?_ | refine litB ?_ | refine litC ?_ | refine litD ?_ | refine And.intro trivial ?_ | refine And.intro (keptI (by repeat' (first | refine And.intro ?_ ?_ | exact True.intro | rfl | (simp; done)))) ?_ | refine ⟨_, _, h110, rfl, rfl, trivial, ?_⟩ | refine ⟨_, _, h28, rfl, rfl, trivial, ?_⟩ | refine ⟨_, _, h114, rfl, rfl, trivial, ?_⟩ | refine ⟨_, _, h29, rfl, rfl, trivial, ?_⟩ | refine ⟨_, _, h113, rfl, rfl, trivial, ?_⟩ | (refine And.intro ?_ ?_ <;> intro h))
    repeat' (first | refine And.intro ?_ ?_ | exact .inl rfl | rfl | exact .inr ⟨rfl, _, rfl⟩)
  have hk' : k < ac.length := by simpa using h
  obtain ⟨y, hy⟩ : ∃ y, ac[k]? = some y := ⟨_, List.getElem?_eq_getElem hk'⟩
  have e : IntKind.i64.wrap ((k : Int) + 1) = ((k + 1 : Nat) : Int) := by rw [wrap_id] <;> omega
  have et : ac.take (k + 1) = ac.take k ++ [y] := by rw [List.take_add_one, hy]; rfl
  repeat (first | refine And.intro (by rfl) ?_ | refine litA ?_ | refine litB ?_ | refine litC ?_ | refine litD ?_ | refine And.intro trivial ?_ | refine And.intro (keptI (by repeat' (first | refine And.intro ?_ ?_ | exact True.intro | rfl | (simp; done)))) ?_)
  refine ⟨by simp, encC y, by simp [hy], ?_⟩
  repeat (first | refine And.intro (by rfl) ?_ | refine litA ?_ | refine litB ?_ | refine litC ?_ | refine litD ?_ | refine And.intro trivial ?_ | refine And.intro (keptI (by repeat' (first | refine And.intro ?_ ?_ | exact True.intro | rfl | (simp; done)))) ?_)
  refine ⟨_, _, f112_ok x y, rfl, rfl, trivial, ?_⟩
  repeat' (first | refine And.intro (by rfl) ?_ | refine litA ?_ | refine litB ?_ | refine litC ?_ | refine litD ?_ | refine And.intro trivial ?_ | refine And.intro (keptI (by repeat' (first | refine And.intro ?_ ?_ | exact True.intro | rfl | (simp; done)))) ?_ | (refine And.intro ?_ ?_ <;> intro h))
  · have ha : ac.all (fun y => !contra x y) = false := by
      rw [List.all_eq_false]; exact ⟨y, List.mem_of_getElem? hy, by rw [h]; simp⟩
    rw [ha, Bool.false_and]
    repeat' (first | refine And.intro ?_ ?_ | exact .inl rfl | rfl | exact .inr ⟨rfl, _, rfl⟩)
  · refine ⟨⟨k + 1, hk', (by rw [et]; exact all_snoc hx h)⟩, ?_, ?_⟩
    · repeat' (first | refine fitE_ls rfl rfl ?_ | refine fitC_ls rfl ?_ | exact congrArg I e | refine And.intro ?_ ?_ | exact True.intro | rfl | exact ⟨_, _, rfl, rfl⟩ | exact ⟨_, _, rfl⟩ | decide | (simp [St.get, St.obj, look, lookD, unI, List.map_take]; done))
    · dsimp only; omega
theorem f24_ok (v : Voter) (hv : okV v) : C 24 [.agg (encV v)] (encCs (knownS (allV v))) := by
  have h110 := f110_ok v hv.heard
  have hne : 0 < (allV v).length := by simp [allV]
  have hle : (allV v).length ≤ 1001 := by have := hv.heard; simp only [allV, List.length_append, List.length_singleton]; omega
  have hb : ∀ m ∈ allV v, m.votes.length ≤ 100000 ∧ m.accepts.length ≤ 100000 := fun m hm => by
    rcases List.mem_append.1 hm with hm | hm
    · exact (hv.each m hm).2
    · rw [List.mem_singleton.1 hm]; exact ⟨hv.votes, hv.accepts⟩
  generalize allV v = l at *
  obtain ⟨nd, sq, ⟨t, n, i⟩, vs, ac, cf, hd⟩ := v
  clear hv
  have hkn : knownS l = sortC (concatM l) := rfl
  rw [hkn]
  generalize hK : sortC (concatM l) = KK
  refine fn_ok (G := G) tabOK hm D0 Tryz.func24 rfl (by kernel_rfl) (by kernel_rfl) rfl rfl ?_
  repeat (first | refine And.intro (by rfl) ?_ | refine litA ?_ | refine litB ?_ | refine litC ?_ | refine litD ?_ | refine And.intro trivial ?_ | refine And.intro (keptI (by repeat' (first | refine And.intro ?_ ?_ | exact True.intro | rfl | (simp; done)))) ?_)
  refine ⟨_, _, h110, rfl, rfl, trivial, ?_⟩
  repeat (first | refine And.intro (by rfl) ?_ | refine litA ?_ | refine litB ?_ | refine litC ?_ | refine litD ?_ | refine And.intro trivial ?_ | refine And.intro (keptI (by repeat' (first | refine And.intro ?_ ?_ | exact True.intro | rfl | (simp; done)))) ?_)
  refine loop_ok (G := G) tabOK hm D0 (α := {k : Nat // k ≤ l.length}) (fun k => ⟨22, [(9, I k.1), (8, I (l.map encM).length), (7, encML l), (3, match k.1 with | 0 => .nils | q + 1 => encCs (sortC (concatM (l.take (q + 1)))))], []⟩) (fun k => l.length - k.1) (by kernel_rfl) ⟨0, Nat.zero_le _⟩ ?_ ?_
  · repeat' (first | refine fitE_ls rfl rfl ?_ | refine fitC_ls rfl ?_ | refine And.intro ?_ ?_ | exact True.intro | rfl | exact ⟨_, _, rfl, rfl⟩ | exact ⟨_, _, rfl⟩ | decide | (simp [St.get, St.obj, look, lookD, unI, List.map_take]; done))
  rintro ⟨k, hk⟩
  have step : ∀ k (hk : k < l.length) (y : Message), l[k]? = some y → unionC (sortC (concatM (l.take k))) (unionC y.votes y.accepts) = sortC (concatM (l.take (k + 1))) := fun k hk y hy => by
    rw [List.take_add_one, hy]
    show _ = sortC (concatM (l.take k ++ [y]))
    rw [show concatM (l.take k ++ [y]) = concatM (l.take k) ++ (y.votes ++ y.accepts) by simp [concatM]]
    refine sortC_congr fun x hx => ?_
    simp only [List.mem_append, sortC_mem, unionC_mem, hx, true_and]
  cases k with
  | zero =>
    obtain ⟨y, hy⟩ : ∃ y, l[0]? = some y := ⟨_, List.getElem?_eq_getElem hne⟩
    have hby := hb y (List.mem_of_getElem? hy)
    have hs := step 0 hne y hy
    obtain ⟨mn, ms, ⟨mt, mnn, mi⟩, mv, ma⟩ := y
    have hu1 := f111_ok mv ma (by dsimp only at hby; omega)
    have hu2 : C 111 [.nils, encCs (unionC mv ma)] (encCs (sortC (concatM (l.take 1)))) := by
      have := f111_ok [] (unionC mv ma) (by have := unionC_len mv ma; simp; omega)
      have e : unionC [] (unionC mv ma) = sortC (concatM (l.take 1)) := by rw [← hs]; rfl
      rw [e] at this
      exact CallOK.weak (args' := [.nils, encCs (unionC mv ma)]) this ⟨.inr ⟨rfl, _, rfl⟩, .inl rfl, trivial⟩
    repeat (first | refine And.intro (by rfl) ?_ | refine litA ?_ | refine litB ?_ | refine litC ?_ | refine litD ?_ | refine And.intro trivial ?_ | refine And.intro (keptI (by repeat' (first | refine And.intro ?_ ?_ | exact True.intro | rfl | (simp; done)))) ?_)
    refine And.intro (fun h => ?_) (fun h => ?_)
    rotate_left
    · have h : decide (((0 : Nat) : Int) < ((l.map encM).length : Int)) = false := h
      simp at h; rw [h] at hne; simp at hne
    repeat (first | refine And.intro (by rfl) ?_ | refine litA ?_ | refine litB ?_ | refine litC ?_ | refine litD ?_ | refine And.intro trivial ?_ | refine And.intro (keptI (by repeat' (first | refine And.intro ?_ ?_ | exact True.intro | rfl | (simp; done)))) ?_)
    refine ⟨by simp, encM ⟨mn, ms, .mk mt mnn mi, mv, ma⟩, by simp only [Int.toNat_natCast, List.getElem?_map, hy]; rfl, ?_⟩
    repeat (first | refine And.intro (by rfl) ?_ | refine litA ?_ | refine litB ?_ | refine litC ?_ | refine litD ?_ | refine And.intro trivial ?_ | refine And.intro (keptI (by repeat' (first | refine And.intro ?_ ?_ | exact True.intro | rfl | (simp; done)))) ?_)
    refine ⟨_, _, hu1, rfl, rfl, trivial, ?_⟩
    repeat (first | refine And.intro (by rfl) ?_ | refine litA ?_ | refine litB ?_ | refine litC ?_ | refine litD ?_ | refine And.intro trivial ?_ | refine And.intro (keptI (by repeat' (first | refine And.intro ?_ ?_ | exact True.intro | rfl | (simp; done)))) ?_)
    refine ⟨_, _, hu2, rfl, rfl, trivial, ?_⟩
    repeat (first | refine And.intro (by rfl) ?_ | refine litA ?_ | refine litB ?_ | refine litC ?_ | refine litD ?_ | refine And.intro trivial ?_ | refine And.intro (keptI (by repeat' (first | refine And.intro ?_ ?_ | exact True.intro | rfl | (simp; done)))) ?_)
    refine ⟨⟨1, hne⟩, ?_, ?_⟩
    · repeat' (first | refine fitE_ls rfl rfl ?_ | refine fitC_ls rfl ?_ | exact congrArg I (by decide) | refine And.intro ?_ ?_ | exact True.intro | rfl | exact ⟨_, _, rfl, rfl⟩ | exact ⟨_, _, rfl⟩ | decide | (simp [St.get, St.obj, look, lookD, unI, List.map_take]; done))
    · dsimp only; omega
  | succ k =>
    repeat (first | refine And.intro (by rfl) ?_ | refine litA ?_ | refine litB ?_ | refine litC ?_ | refine litD ?_ | refine And.intro trivial ?_ | refine And.intro (keptI (by repeat' (first | refine And.intro ?_ ?_ | exact True.intro | rfl | (simp; done)))) ?_)
    refine And.intro (fun h => ?_) (fun h => ?_)
    rotate_left
    · have hl : l.length ≤ k + 1 := by
        have h : decide (((k + 1 : Nat) : Int) < ((l.map encM).length : Int)) = false := h
        simp at h; omega
      have ek : l.take (k + 1) = l := List.take_of_length_le hl
      have hKK : KK = sortC (concatM (l.take (k + 1))) := by rw [ek, hK]
      repeat (first | refine And.intro (by rfl) ?_ | refine litA ?_ | refine litB ?_ | refine litC ?_ | refine litD ?_ | refine And.intro trivial ?_ | refine And.intro (keptI (by repeat' (first | refine And.intro ?_ ?_ | exact True.intro | rfl | (simp; done)))) ?_)
      rw [hKK]
      repeat' (first | refine And.intro ?_ ?_ | exact .inl rfl | rfl | exact .inr ⟨rfl, _, rfl⟩)
    have hk' : k + 1 < l.length := by
      have h : decide (((k + 1 : Nat) : Int) < ((l.map encM).length : Int)) = true := h
      simp at h; omega
    obtain ⟨y, hy⟩ : ∃ y, l[k + 1]? = some y := ⟨_, List.getElem?_eq_getElem hk'⟩
    have e : IntKind.i64.wrap (((k + 1 : Nat) : Int) + 1) = ((k + 1 + 1 : Nat) : Int) := by rw [wrap_id] <;> omega
    have hby := hb y (List.mem_of_getElem? hy)
    have hs := step (k + 1) hk' y hy
    obtain ⟨mn, ms, ⟨mt, mnn, mi⟩, mv, ma⟩ := y
    have hu1 := f111_ok mv ma (by dsimp only at hby; omega)
    have hu2 := f111_ok (sortC (concatM (l.take (k + 1)))) (unionC mv ma) (by have := unionC_len mv ma; have := sortC_len (concatM (l.take (k + 1))); omega)
    rw [hs] at hu2
    repeat (first | refine And.intro (by rfl) ?_ | refine litA ?_ | refine litB ?_ | refine litC ?_ | refine litD ?_ | refine And.intro trivial ?_ | refine And.intro (keptI (by repeat' (first | refine And.intro ?_ ?_ | exact True.intro | rfl | (simp; done)))) ?_)
    refine ⟨by simp; omega, encM ⟨mn, ms, .mk mt mnn mi, mv, ma⟩, by simp only [Int.toNat_natCast, List.getElem?_map, hy]; rfl, ?_⟩
    repeat (first | refine And.intro (by rfl) ?_ | refine litA ?_ | refine litB ?_ | refine litC ?_ | refine litD ?_ | refine And.intro trivial ?_ | refine And.intro (keptI (by repeat' (first | refine And.intro ?_ ?_ | exact True.intro | rfl | (simp; done)))) ?_)
    refine ⟨_, _, hu1, rfl, rfl, trivial, ?_⟩
    repeat (first | refine And.intro (by rfl) ?_ | refine litA ?_ | refine litB ?_ | refine litC ?_ | refine litD ?_ | refine And.intro trivial ?_ | refine And.intro (keptI (by repeat' (first | refine And.intro ?_ ?_ | exact True.intro | rfl | (simp; done)))) ?_)
    refine ⟨_, _, hu2, rfl, rfl, trivial, ?_⟩
    repeat (first | refine And.intro (by rfl) ?_ | refine litA ?_ | refine litB ?_ | refine litC ?_ | refine litD ?_ | refine And.intro trivial ?_ | refine And.intro (keptI (by repeat' (first | refine And.intro ?_ ?_ | exact True.intro | rfl | (simp; done)))) ?_)
    refine ⟨⟨k + 1 + 1, hk'⟩, ?_, ?_⟩
    · repeat' (first | refine fitE_ls rfl rfl ?_ | refine fitC_ls rfl ?_ | exact congrArg I e | refine And.intro ?_ ?_ | exact True.intro | rfl | exact ⟨_, _, rfl, rfl⟩ | exact ⟨_, _, rfl⟩ | decide | (simp [St.get, St.obj, look, lookD, unI, List.map_take]; done))
    · dsimp only; omega
end Go.Proofs.YtnkpakakgfkpbaaGreat.V
end
section
namespace Go.Proofs.YtnkpakakgfkpbaaGreat.V
open Go.Vi
set_option maxRecDepth 10000
/-! The plain law of VotingSettles -/
theorem settleA_none (c : List Member) : ∀ (f : Nat) (v : Voter), (∀ y ∈ v.accepts, y.ok = true) → leftA v < f → nextS c (settleA c f v) = none
  | 0, v, _, h => by omega
  | f + 1, v, hok, h => by
    rw [settleA]
    cases hn : nextS c v with
    | none => exact hn
    | some x =>
      have := leftA_put hok hn
      exact settleA_none c f _ putA_ok (by omega)
theorem settleA_seq (c : List Member) (f : Nat) (v : Voter) : (settleA c f v).seq = v.seq ∧ (settleA c f v).node = v.node ∧ (settleA c f v).trust = v.trust ∧ (settleA c f v).heard = v.heard ∧ (settleA c f v).confirms = v.confirms := by
  rw [settleA_shape]; exact ⟨rfl, rfl, rfl, rfl, rfl⟩
theorem sayP_snoc (p : Message → List Claim) (x : Claim) : ∀ (l : List Message) (m m' : Message) (s : Int), plainM m = plainM m' → m.node = m'.node → p m = p m' → sayP p x (l ++ [m]) s = sayP p x (l ++ [m']) s
  | [], m, m', s, h1, h2, h3 => by simp only [List.nil_append, sayP, h1, h2, h3]
  | y :: l, m, m', s, h1, h2, h3 => by simp only [List.cons_append, sayP]; exact sayP_snoc p x l m m' _ h1 h2 h3
/-- Two voters that say the same but for the number. -/
theorem sayP_seq (p : Message → List Claim) (x : Claim) (v w : Voter) (h1 : w.node = v.node) (h2 : w.trust = v.trust) (h3 : w.votes = v.votes) (h4 : w.accepts = v.accepts) (h5 : w.heard = v.heard) (hs : 1 ≤ v.seq) (hs' : 1 ≤ w.seq)
    (hp : ∀ m m' : Message, m.votes = m'.votes → m.accepts = m'.accepts → p m = p m') : sayP p x (allV w) 0 = sayP p x (allV v) 0 := by
  unfold allV
  rw [h5]
  refine sayP_snoc p x _ _ _ 0 ?_ h1 (hp _ _ h3 h4)
  show (nodeS w.node && decide (w.seq ≥ 1) && decide (validT w.trust = 0) && plainL w.votes && plainL w.accepts) = (nodeS v.node && decide (v.seq ≥ 1) && decide (validT v.trust = 0) && plainL v.votes && plainL v.accepts)
  rw [h1, h2, h3, h4, decide_eq_true (show w.seq ≥ 1 from hs'), decide_eq_true (show v.seq ≥ 1 from hs)]
theorem known_seq (v w : Voter) (h3 : w.votes = v.votes) (h4 : w.accepts = v.accepts) (h5 : w.heard = v.heard) : knownS (allV w) = knownS (allV v) := by
  have : concatM (allV w) = concatM (allV v) := by simp [allV, concatM, sayV, h3, h4, h5]
  simp only [knownS, this]
theorem can_seq (c : List Member) (v w : Voter) (x : Claim) (h1 : w.node = v.node) (h2 : w.trust = v.trust) (h3 : w.votes = v.votes) (h4 : w.accepts = v.accepts) (h5 : w.heard = v.heard) (hs : 1 ≤ v.seq) (hs' : 1 ≤ w.seq) : canS c w x = canS c v x := by
  simp only [canS]
  rw [sayP_seq Message.votes x v w h1 h2 h3 h4 h5 hs hs' (fun _ _ h _ => h), sayP_seq Message.accepts x v w h1 h2 h3 h4 h5 hs hs' (fun _ _ _ h => h), h4, h1]
/-- Behind 'turned' nothing can be accepted still, and just what may be is confirmed beside what was. -/
theorem turnS_settles {vb v : Voter} (h : soundV v) (hs : 1 ≤ v.seq) :
    (∀ x ∈ knownS (allV (turnS vb v)), canS (viewS (turnS vb v).node (turnS vb v).trust (turnS vb v).heard) (turnS vb v) x = false) ∧
    ∀ x ∈ (turnS vb v).accepts, x ∈ (turnS vb v).confirms ↔ confS (viewS (turnS vb v).node (turnS vb v).trust (turnS vb v).heard) (turnS vb v) x = true ∨ x ∈ v.confirms := by
  have hok := plainL_ok h.accepts
  obtain ⟨k1, k2, k3, k4, k5⟩ := settleA_seq (viewS v.node v.trust v.heard) 129 v
  have hn := settleA_none (viewS v.node v.trust v.heard) 129 v hok (by have := leftA_le v; omega)
  obtain ⟨h1, _⟩ := settleA_sound (viewS v.node v.trust v.heard) 129 v h
  have hW : ∃ W, W = settleA (viewS v.node v.trust v.heard) 129 v := ⟨_, rfl⟩
  obtain ⟨W, hW⟩ := hW
  obtain ⟨_, _, h5⟩ := confsOf_sound (confS (viewS v.node v.trust v.heard) W) W.accepts (by rw [hW]; exact plainL_ok h1.accepts) W.accepts W.confirms (fun x hx => hx) (by rw [hW]; exact h1.confirms) (by rw [hW]; exact h1.sub)
  rw [← hW] at hn k1 k2 k3 k4 k5
  have hS : settleS v = { W with confirms := confsOf (confS (viewS v.node v.trust v.heard) W) W.confirms W.accepts } := by rw [hW]; rfl
  have hT : ∃ q, turnS vb v = { W with seq := q, confirms := confsOf (confS (viewS v.node v.trust v.heard) W) W.confirms W.accepts } ∧ 1 ≤ q := by
    unfold turnS
    split
    · exact ⟨W.seq + 1, by rw [hS], by omega⟩
    · exact ⟨W.seq, by rw [hS], by omega⟩
  obtain ⟨q, hT, hq⟩ := hT
  have hWs : 1 ≤ W.seq := by omega
  have e1 : (turnS vb v).node = v.node := by rw [hT]; exact k2
  have e2 : (turnS vb v).trust = v.trust := by rw [hT]; exact k3
  have e3 : (turnS vb v).heard = v.heard := by rw [hT]; exact k4
  have e4 : (turnS vb v).votes = W.votes := by rw [hT]
  have e5 : (turnS vb v).accepts = W.accepts := by rw [hT]
  have e6 : (turnS vb v).seq = q := by rw [hT]
  have e7 : (turnS vb v).confirms = confsOf (confS (viewS v.node v.trust v.heard) W) W.confirms W.accepts := by rw [hT]
  rw [e1, e2, e3]
  generalize turnS vb v = w at *
  have hws : 1 ≤ w.seq := by omega
  constructor
  · intro x hx
    rw [known_seq W w e4 e5 (e3.trans k4.symm)] at hx
    rw [can_seq _ W w x (e1.trans k2.symm) (e2.trans k3.symm) e4 e5 (e3.trans k4.symm) hWs hws]
    have := List.find?_eq_none.1 hn x hx
    simpa using this
  · intro x hx
    rw [e5] at hx
    have e : confS (viewS v.node v.trust v.heard) w x = confS (viewS v.node v.trust v.heard) W x := by
      simp only [confS]
      rw [sayP_seq Message.accepts x W w (e1.trans k2.symm) (e2.trans k3.symm) e4 e5 (e3.trans k4.symm) hWs hws (fun _ _ _ h => h), e1, k2]
    rw [e7, h5, k5, e]
    constructor
    · rintro (h | h)
      · exact .inr h
      · exact .inl h.2
    · rintro (h | h)
      · exact .inr ⟨hx, h⟩
      · exact .inl h
end Go.Proofs.YtnkpakakgfkpbaaGreat.V
end
section
namespace Go.Proofs.YtnkpakakgfkpbaaGreat.V
open Go.Vi
set_option maxRecDepth 10000
/-! VotingSettles -/
theorem turnS_heard (vb v : Voter) : (turnS vb v).heard = v.heard := by
  have e := settleS_shape v
  have : (settleS v).heard = v.heard := by rw [e]
  unfold turnS
  split <;> exact this
theorem stepS_heard (n : Nat) (t : Tape) (v : Voter) (i : Nat) (hb : ∀ m ∈ v.heard, m.seq ≤ 5 + 5 * (i : Int)) (h : (stepS n t v (i + 1)).1.2 = 0) : ∀ m ∈ (stepS n t v (i + 1)).1.1.heard, m.seq ≤ 5 + 5 * ((i + 1 : Nat) : Int) := by
  have hb' : ∀ m ∈ v.heard, m.seq ≤ 5 + 5 * ((i + 1 : Nat) : Int) := fun m hm => by have := hb m hm; omega
  have hsq := msgT_seq n (t.n 5).2
  unfold stepS at h ⊢
  generalize trustT n (t.n 5).2 = q at *
  generalize msgT n (t.n 5).2 = r at *
  split
  · rename_i hc
    rw [if_pos hc] at h
    dsimp only at h ⊢
    unfold voteS at h ⊢
    split
    · rename_i h1; rw [if_pos h1] at h
      split
      · rename_i h2; rw [if_pos h2] at h; cases h
      · split
        · exact hb'
        · intro m hm; rw [turnS_heard] at hm; exact hb' m hm
    · rename_i h1; rw [if_neg h1] at h; cases h
  · rename_i hc
    rw [if_neg hc] at h
    split
    · rename_i hc
      rw [if_pos hc] at h
      dsimp only at h ⊢
      unfold declareS at h ⊢
      split
      · rename_i h1; rw [if_pos h1] at h
        split
        · rename_i h2; rw [if_pos h2] at h; exact absurd h h2
        · split
          · exact hb'
          · intro m hm; rw [turnS_heard] at hm; exact hb' m hm
      · rename_i h1; rw [if_neg h1] at h; cases h
    · rename_i hc
      rw [if_neg hc] at h
      dsimp only at h ⊢
      unfold hearS at h ⊢
      split
      · rename_i h1; rw [if_pos h1] at h
        split
        · rename_i h2; rw [if_pos h2] at h; cases h
        · intro m hm
          rw [turnS_heard] at hm
          rcases putM_mem hm with rfl | hm
          · dsimp only; omega
          · exact hb' m hm
      · rename_i h1; rw [if_neg h1] at h; cases h
theorem playS_heard (n : Nat) (h1 : 0 < n) (h2 : n ≤ 10) (t : Tape) : ∀ i, ∀ m ∈ (playS n t i).1.heard, m.seq ≤ 5 + 5 * (i : Int)
  | 0 => by rw [playS, start_ok n h1 h2]; simp
  | i + 1 => by
    have ih := playS_heard n h1 h2 t i
    rw [playS]
    split
    · rename_i h; exact stepS_heard n _ _ i ih h
    · intro m hm; have := ih m hm; omega
theorem heard_sound {v : Voter} {m : Message} (hs : soundV v) (hval : validV v = true) (hms : smallT 1000000 m.trust ∧ m.votes.length ≤ 100000 ∧ m.accepts.length ≤ 100000) (hpm : plainM m = true) (hne : m.node ≠ v.node) : soundV { v with heard := putM v.heard m } := by
  have hlen := validV_len hval
  obtain ⟨u1, u2⟩ := heardOK_mem hs.heard
  refine ⟨hs.ok.heard' _ (Nat.le_trans (putM_len _ _) (by omega)) (fun y hy => ?_), hs.node, hs.trust, hs.votes, hs.accepts, hs.confirms, hs.cvotes, hs.caccepts, hs.sub, ?_⟩
  · rcases putM_mem hy with rfl | hy
    · exact hms
    · exact hs.ok.each y hy
  · simp only [heardOK, Bool.and_eq_true, List.all_eq_true, decide_eq_true_eq]
    refine ⟨fun y hy => ?_, putM_up u1⟩
    rcases putM_mem hy with rfl | hy
    · exact ⟨hpm, hne⟩
    · exact u2 y hy
set_option maxHeartbeats 8000000 in
theorem f5_ok (l : List Int) : C 5 [encI l] (bval true) := by
  have h22 := f22_ok ⟨l.take 400, 0⟩ 4 6 (by decide) (by decide) (by decide)
  obtain ⟨p1, p2, p3, p4, p5⟩ := playS_ok 4 (by decide) (by decide) ⟨l.take 400, 0⟩ 6
  have p6 := playS_heard 4 (by decide) (by decide) ⟨l.take 400, 0⟩ 6
  generalize playS 4 ⟨l.take 400, 0⟩ 6 = R at *
  obtain ⟨⟨nd, sq, ⟨t, n, i⟩, vs, ac, cf, hd⟩, tp⟩ := R
  dsimp only at p1 p2 p3 p4 p5 p6
  have h15 := f15_ok tp 4 (by decide) (by decide)
  have hts := trustT_small 4 tp (by decide) (by decide)
  have htv := trustT_valid 4 tp (by decide) (by decide)
  generalize trustT 4 tp = T0 at *
  obtain ⟨⟨tt, tn, ti⟩, tp1⟩ := T0
  dsimp only at h15 hts htv
  have h17a := f17_ok tp1 3 (by decide) (by decide)
  have h17b := f17_ok (tp1.n 3).2 3 (by decide) (by decide)
  have h23 := f23_ok [⟨(tp1.n 3).1, ((tp1.n 3).2.n 3).1⟩]
  have hrem : (IntKind.i64.wrap (nd + 1)).tmod 4 = (nd + 1) % 4 := by rw [wrap_id (by omega) (by omega), Int.tmod_eq_emod_of_nonneg (by omega)]
  have hr4 : 0 ≤ (nd + 1) % 4 ∧ (nd + 1) % 4 < 4 ∧ (nd + 1) % 4 ≠ nd := by omega
  have hms : smallT 1000000 (Trust.mk tt tn ti) ∧ (sortC [⟨(tp1.n 3).1, ((tp1.n 3).2.n 3).1⟩]).length ≤ 100000 ∧ ([] : List Claim).length ≤ 100000 := ⟨hts, Nat.le_trans (sortC_len _) (by decide), by simp⟩
  have hlM := plain_sortC [⟨(tp1.n 3).1, ((tp1.n 3).2.n 3).1⟩]
  generalize sortC [⟨(tp1.n 3).1, ((tp1.n 3).2.n 3).1⟩] = Q at *
  have hval := p1.valid p2 (show sq ≤ 1000000 by omega)
  have h19a := f19_ok ⟨nd, sq, .mk t n i, vs, ac, cf, hd⟩ ⟨(nd + 1) % 4, 100, .mk tt tn ti, Q, []⟩ p1.ok hms
  have hpm : plainM ⟨(nd + 1) % 4, 100, .mk tt tn ti, Q, []⟩ = true := by
    show (nodeS ((nd + 1) % 4) && decide ((100 : Int) ≥ 1) && decide (validT (.mk tt tn ti) = 0) && plainL Q && plainL []) = true
    rw [htv, hlM]
    have : nodeS ((nd + 1) % 4) = true := by simp only [nodeS, decide_eq_true_eq]; omega
    rw [this]; rfl
  have hold : oldM hd ⟨(nd + 1) % 4, 100, .mk tt tn ti, Q, []⟩ = false := by
    unfold oldM
    cases hg : hd[placeM hd ((nd + 1) % 4)]? with
    | none => simp [foundAt, hg]
    | some y =>
      have := p6 y (List.mem_of_getElem? hg)
      have h1 : decide ((100 : Int) ≤ y.seq) = false := by simp; omega
      dsimp only
      dsimp only [Option.getD_some]; rw [h1, Bool.and_false]
  have hhr : hearS ⟨nd, sq, .mk t n i, vs, ac, cf, hd⟩ ⟨(nd + 1) % 4, 100, .mk tt tn ti, Q, []⟩ = (turnS ⟨nd, sq, .mk t n i, vs, ac, cf, hd⟩ { (⟨nd, sq, .mk t n i, vs, ac, cf, hd⟩ : Voter) with heard := putM hd ⟨(nd + 1) % 4, 100, .mk tt tn ti, Q, []⟩ }, 0) := by
    unfold hearS
    rw [if_pos ⟨hval, hpm, hr4.2.2⟩]
    dsimp only
    rw [hold]; simp
  have hst := hearS_step p1.ok hms (by rw [hhr])
  rw [hhr] at h19a hst
  obtain ⟨g1, g2⟩ := turnS_settles (vb := ⟨nd, sq, .mk t n i, vs, ac, cf, hd⟩) (heard_sound p1 hval hms hpm hr4.2.2) p2
  have hsd := hst.sound
  clear hhr hold hst hpm hlM hval p6 hts htv
  dsimp only at h19a hsd g1 g2
  generalize turnS ⟨nd, sq, .mk t n i, vs, ac, cf, hd⟩ ⟨nd, sq, .mk t n i, vs, ac, cf, putM hd ⟨(nd + 1) % 4, 100, .mk tt tn ti, Q, []⟩⟩ = W at *
  have h19 : C 19 [.agg (encV ⟨nd, sq, .mk t n i, vs, ac, cf, hd⟩), .agg [I ((IntKind.i64.wrap (nd + 1)).tmod 4), I 100, I tt, encI tn, encTL ti, encCs Q, .nils]] (.tup [.agg (encV W), I 0]) := by
    rw [hrem]
    exact CallOK.weak (args' := [.agg (encV ⟨nd, sq, .mk t n i, vs, ac, cf, hd⟩), .agg [I ((nd + 1) % 4), I 100, I tt, encI tn, encTL ti, encCs Q, .nils]]) h19a ⟨⟨.inl rfl, .inl rfl, .inl rfl, .inl rfl, .inl rfl, .inl rfl, .inl rfl, .inl rfl, .inl rfl, trivial⟩, ⟨.inl rfl, .inl rfl, .inl rfl, .inl rfl, .inl rfl, .inl rfl, .inr ⟨rfl, _, rfl⟩, trivial⟩, trivial⟩
  have h24 := f24_ok W hsd.ok
  have h25 := fun x => f25_ok W x hsd.ok hsd.caccepts
  have h26 := f26_ok W
  have hvc := viewS_small W.node W.trust W.heard hsd.ok.trust fun m hm => (hsd.ok.each m hm).1
  have h28 := f28_ok W.node W.trust W.heard
  have h29 := fun x => f29_ok (allV W) x
  have h27 := fun x => f27_ok (viewS W.node W.trust W.heard) W.node (sayP Message.accepts x (allV W) 0) hvc
  have hal : (allV W).map encM = W.heard.map encM ++ [encM (sayV W)] := by simp [allV]
  have hwh := hsd.ok.heard
  have hKl : (knownS (allV W)).length ≤ 128 := sortC_len _
  have hwa := hsd.ok.accepts
  have hcf : ∀ x, confS (viewS W.node W.trust W.heard) W x = hasS (elim (viewS W.node W.trust W.heard) (sayP Message.accepts x (allV W) 0)).1 W.node := fun x => rfl
  simp only [encML, hal] at h29
  obtain ⟨nd', sq', ⟨t', n', i'⟩, vs', ac', cf', hd'⟩ := W
  generalize knownS (allV ⟨nd', sq', .mk t' n' i', vs', ac', cf', hd'⟩) = K at h24 g1 hKl
  dsimp only at hwh hwa hcf h27 h28 g1 g2
  refine fn_ok (G := G) tabOK hm pl5 Tryz.func5 rfl (by kernel_rfl) (by kernel_rfl) rfl rfl ?_
  repeat (first | refine And.intro (by rfl) ?_ | refine litA ?_ | refine litB ?_ | refine litC ?_ | refine litD ?_ | refine And.intro trivial ?_ | refine And.intro (keptI (by repeat' (first | refine And.intro ?_ ?_ | exact True.intro | rfl | (simp; done)))) ?_)
  refine ⟨_, _, f13_ok l, rfl, rfl, trivial, ?_⟩
  repeat (first | refine And.intro (by rfl) ?_ | refine litA ?_ | refine litB ?_ | refine litC ?_ | refine litD ?_ | refine And.intro trivial ?_ | refine And.intro (keptI (by repeat' (first | refine And.intro ?_ ?_ | exact True.intro | rfl | (simp; done)))) ?_)
  refine ⟨_, _, h22, rfl, rfl, ⟨⟨rfl, rfl⟩, trivial⟩, ?_⟩
  repeat (first | refine And.intro (by rfl) ?_ | refine litA ?_ | refine litB ?_ | refine litC ?_ | refine litD ?_ | refine And.intro trivial ?_ | refine And.intro (keptI (by repeat' (first | refine And.intro ?_ ?_ | exact True.intro | rfl | (simp; done)))) ?_)
  refine And.intro (by decide) ?_
  repeat (first | refine And.intro (by rfl) ?_ | refine litA ?_ | refine litB ?_ | refine litC ?_ | refine litD ?_ | refine And.intro trivial ?_ | refine And.intro (keptI (by repeat' (first | refine And.intro ?_ ?_ | exact True.intro | rfl | (simp; done)))) ?_)
  apply Exists.intro
  refine And.intro ?_ (And.intro ?_ ?_)
  · repeat (first | refine And.intro (by rfl) ?_ | refine litA ?_ | refine litB ?_ | refine litC ?_ | refine litD ?_ | refine And.intro trivial ?_ | refine And.intro (keptI (by repeat' (first | refine And.intro ?_ ?_ | exact True.intro | rfl | (simp; done)))) ?_)
    refine ⟨_, _, h15, rfl, rfl, ⟨⟨rfl, rfl⟩, trivial⟩, ?_⟩
    repeat (first | refine And.intro (by rfl) ?_ | refine litA ?_ | refine litB ?_ | refine litC ?_ | refine litD ?_ | refine And.intro trivial ?_ | refine And.intro (keptI (by repeat' (first | refine And.intro ?_ ?_ | exact True.intro | rfl | (simp; done)))) ?_)
    apply Exists.intro
    refine And.intro ?_ (And.intro ?_ ?_)
    · repeat (first | refine And.intro (by rfl) ?_ | refine litA ?_ | refine litB ?_ | refine litC ?_ | refine litD ?_ | refine And.intro trivial ?_ | refine And.intro (keptI (by repeat' (first | refine And.intro ?_ ?_ | exact True.intro | rfl | (simp; done)))) ?_)
      refine ⟨_, _, h17a, rfl, rfl, ⟨⟨rfl, rfl⟩, trivial⟩, ?_⟩
      repeat (first | refine And.intro (by rfl) ?_ | refine litA ?_ | refine litB ?_ | refine litC ?_ | refine litD ?_ | refine And.intro trivial ?_ | refine And.intro (keptI (by repeat' (first | refine And.intro ?_ ?_ | exact True.intro | rfl | (simp; done)))) ?_)
      apply Exists.intro
      refine And.intro ?_ (And.intro ?_ ?_)
      · repeat (first | refine And.intro (by rfl) ?_ | refine litA ?_ | refine litB ?_ | refine litC ?_ | refine litD ?_ | refine And.intro trivial ?_ | refine And.intro (keptI (by repeat' (first | refine And.intro ?_ ?_ | exact True.intro | rfl | (simp; done)))) ?_)
        refine ⟨_, _, h17b, rfl, rfl, ⟨⟨rfl, rfl⟩, trivial⟩, ?_⟩
        repeat (first | refine And.intro (by rfl) ?_ | refine litA ?_ | refine litB ?_ | refine litC ?_ | refine litD ?_ | refine And.intro trivial ?_ | refine And.intro (keptI (by repeat' (first | refine And.intro ?_ ?_ | exact True.intro | rfl | (simp; done)))) ?_)
        apply Exists.intro
        refine And.intro ?_ (And.intro ?_ ?_)
        · repeat (first | refine And.intro (by rfl) ?_ | refine litA ?_ | refine litB ?_ | refine litC ?_ | refine litD ?_ | refine And.intro trivial ?_ | refine And.intro (keptI (by repeat' (first | refine And.intro ?_ ?_ | exact True.intro | rfl | (simp; done)))) ?_)
          apply Exists.intro
          refine And.intro ?_ (And.intro ?_ ?_)
          · repeat (first | refine And.intro (by rfl) ?_ | refine litA ?_ | refine litB ?_ | refine litC ?_ | refine litD ?_ | refine And.intro trivial ?_ | refine And.intro (keptI (by repeat' (first | refine And.intro ?_ ?_ | exact True.intro | rfl | (simp; done)))) ?_)
            refine ⟨_, _, h23, rfl, rfl, trivial, ?_⟩
            repeat (first | refine And.intro (by rfl) ?_ | refine litA ?_ | refine litB ?_ | refine litC ?_ | refine litD ?_ | refine And.intro trivial ?_ | refine And.intro (keptI (by repeat' (first | refine And.intro ?_ ?_ | exact True.intro | rfl | (simp; done)))) ?_)
            apply Exists.intro
            refine And.intro ?_ (And.intro ?_ ?_)
            · repeat (first | refine And.intro (by rfl) ?_ | refine litA ?_ | refine litB ?_ | refine litC ?_ | refine litD ?_ | refine And.intro trivial ?_ | refine And.intro (keptI (by repeat' (first | refine And.intro ?_ ?_ | exact True.intro | rfl | (simp; done)))) ?_)
              refine ⟨_, _, h19, rfl, rfl, trivial, ?_⟩
              repeat (first | exact Same.refl _ | first | refine And.intro (by rfl) ?_ | refine litA ?_ | refine litB ?_ | refine litC ?_ | refine litD ?_ | refine And.intro trivial ?_ | refine And.intro (keptI (by repeat' (first | refine And.intro ?_ ?_ | exact True.intro | rfl | (simp; done)))) ?_)
            · repeat (first | refine And.intro (by rfl) ?_ | refine litA ?_ | refine litB ?_ | refine litC ?_ | refine litD ?_ | refine And.intro trivial ?_ | refine And.intro (keptI (by repeat' (first | refine And.intro ?_ ?_ | exact True.intro | rfl | (simp; done)))) ?_)
              refine ⟨_, _, h19, rfl, rfl, trivial, ?_⟩
              repeat (first | refine And.intro (by rfl) ?_ | refine litA ?_ | refine litB ?_ | refine litC ?_ | refine litD ?_ | refine And.intro trivial ?_ | refine And.intro (keptI (by repeat' (first | refine And.intro ?_ ?_ | exact True.intro | rfl | (simp; done)))) ?_)
              repeat' (first | refine And.intro ?_ ?_ | exact True.intro | rfl)
            repeat (first | exact Same.refl _ | first | refine And.intro (by rfl) ?_ | refine litA ?_ | refine litB ?_ | refine litC ?_ | refine litD ?_ | refine And.intro trivial ?_ | refine And.intro (keptI (by repeat' (first | refine And.intro ?_ ?_ | exact True.intro | rfl | (simp; done)))) ?_)
          · repeat (first | refine And.intro (by rfl) ?_ | refine litA ?_ | refine litB ?_ | refine litC ?_ | refine litD ?_ | refine And.intro trivial ?_ | refine And.intro (keptI (by repeat' (first | refine And.intro ?_ ?_ | exact True.intro | rfl | (simp; done)))) ?_)
            refine ⟨_, _, h23, rfl, rfl, trivial, ?_⟩
            repeat (first | refine And.intro (by rfl) ?_ | refine litA ?_ | refine litB ?_ | refine litC ?_ | refine litD ?_ | refine And.intro trivial ?_ | refine And.intro (keptI (by repeat' (first | refine And.intro ?_ ?_ | exact True.intro | rfl | (simp; done)))) ?_)
            refine ⟨_, _, h19, rfl, rfl, trivial, ?_⟩
            repeat (first | refine And.intro (by rfl) ?_ | refine litA ?_ | refine litB ?_ | refine litC ?_ | refine litD ?_ | refine And.intro trivial ?_ | refine And.intro (keptI (by repeat' (first | refine And.intro ?_ ?_ | exact True.intro | rfl | (simp; done)))) ?_)
            repeat' (first | refine And.intro ?_ ?_ | exact True.intro | rfl)
          repeat (first | exact Same.refl _ | first | refine And.intro (by rfl) ?_ | refine litA ?_ | refine litB ?_ | refine litC ?_ | refine litD ?_ | refine And.intro trivial ?_ | refine And.intro (keptI (by repeat' (first | refine And.intro ?_ ?_ | exact True.intro | rfl | (simp; done)))) ?_)
        · repeat (first | refine And.intro (by rfl) ?_ | refine litA ?_ | refine litB ?_ | refine litC ?_ | refine litD ?_ | refine And.intro trivial ?_ | refine And.intro (keptI (by repeat' (first | refine And.intro ?_ ?_ | exact True.intro | rfl | (simp; done)))) ?_)
          refine ⟨_, _, h23, rfl, rfl, trivial, ?_⟩
          repeat (first | refine And.intro (by rfl) ?_ | refine litA ?_ | refine litB ?_ | refine litC ?_ | refine litD ?_ | refine And.intro trivial ?_ | refine And.intro (keptI (by repeat' (first | refine And.intro ?_ ?_ | exact True.intro | rfl | (simp; done)))) ?_)
          refine ⟨_, _, h19, rfl, rfl, trivial, ?_⟩
          repeat (first | refine And.intro (by rfl) ?_ | refine litA ?_ | refine litB ?_ | refine litC ?_ | refine litD ?_ | refine And.intro trivial ?_ | refine And.intro (keptI (by repeat' (first | refine And.intro ?_ ?_ | exact True.intro | rfl | (simp; done)))) ?_)
          repeat' (first | refine And.intro ?_ ?_ | exact True.intro | rfl)
        repeat (first | exact Same.refl _ | first | refine And.intro (by rfl) ?_ | refine litA ?_ | refine litB ?_ | refine litC ?_ | refine litD ?_ | refine And.intro trivial ?_ | refine And.intro (keptI (by repeat' (first | refine And.intro ?_ ?_ | exact True.intro | rfl | (simp; done)))) ?_)
      · repeat (first | refine And.intro (by rfl) ?_ | refine litA ?_ | refine litB ?_ | refine litC ?_ | refine litD ?_ | refine And.intro trivial ?_ | refine And.intro (keptI (by repeat' (first | refine And.intro ?_ ?_ | exact True.intro | rfl | (simp; done)))) ?_)
        refine ⟨_, _, h17b, rfl, rfl, ⟨⟨rfl, rfl⟩, trivial⟩, ?_⟩
        repeat (first | refine And.intro (by rfl) ?_ | refine litA ?_ | refine litB ?_ | refine litC ?_ | refine litD ?_ | refine And.intro trivial ?_ | refine And.intro (keptI (by repeat' (first | refine And.intro ?_ ?_ | exact True.intro | rfl | (simp; done)))) ?_)
        refine ⟨_, _, h23, rfl, rfl, trivial, ?_⟩
        repeat (first | refine And.intro (by rfl) ?_ | refine litA ?_ | refine litB ?_ | refine litC ?_ | refine litD ?_ | refine And.intro trivial ?_ | refine And.intro (keptI (by repeat' (first | refine And.intro ?_ ?_ | exact True.intro | rfl | (simp; done)))) ?_)
        refine ⟨_, _, h19, rfl, rfl, trivial, ?_⟩
        repeat (first | refine And.intro (by rfl) ?_ | refine litA ?_ | refine litB ?_ | refine litC ?_ | refine litD ?_ | refine And.intro trivial ?_ | refine And.intro (keptI (by repeat' (first | refine And.intro ?_ ?_ | exact True.intro | rfl | (simp; done)))) ?_)
        repeat' (first | refine And.intro ?_ ?_ | exact True.intro | rfl)
      repeat (first | exact Same.refl _ | first | refine And.intro (by rfl) ?_ | refine litA ?_ | refine litB ?_ | refine litC ?_ | refine litD ?_ | refine And.intro trivial ?_ | refine And.intro (keptI (by repeat' (first | refine And.intro ?_ ?_ | exact True.intro | rfl | (simp; done)))) ?_)
    · repeat (first | refine And.intro (by rfl) ?_ | refine litA ?_ | refine litB ?_ | refine litC ?_ | refine litD ?_ | refine And.intro trivial ?_ | refine And.intro (keptI (by repeat' (first | refine And.intro ?_ ?_ | exact True.intro | rfl | (simp; done)))) ?_)
      refine ⟨_, _, h17a, rfl, rfl, ⟨⟨rfl, rfl⟩, trivial⟩, ?_⟩
      repeat (first | refine And.intro (by rfl) ?_ | refine litA ?_ | refine litB ?_ | refine litC ?_ | refine litD ?_ | refine And.intro trivial ?_ | refine And.intro (keptI (by repeat' (first | refine And.intro ?_ ?_ | exact True.intro | rfl | (simp; done)))) ?_)
      refine ⟨_, _, h17b, rfl, rfl, ⟨⟨rfl, rfl⟩, trivial⟩, ?_⟩
      repeat (first | refine And.intro (by rfl) ?_ | refine litA ?_ | refine litB ?_ | refine litC ?_ | refine litD ?_ | refine And.intro trivial ?_ | refine And.intro (keptI (by repeat' (first | refine And.intro ?_ ?_ | exact True.intro | rfl | (simp; done)))) ?_)
      refine ⟨_, _, h23, rfl, rfl, trivial, ?_⟩
      repeat (first | refine And.intro (by rfl) ?_ | refine litA ?_ | refine litB ?_ | refine litC ?_ | refine litD ?_ | refine And.intro trivial ?_ | refine And.intro (keptI (by repeat' (first | refine And.intro ?_ ?_ | exact True.intro | rfl | (simp; done)))) ?_)
      refine ⟨_, _, h19, rfl, rfl, trivial, ?_⟩
      repeat (first | refine And.intro (by rfl) ?_ | refine litA ?_ | refine litB ?_ | refine litC ?_ | refine litD ?_ | refine And.intro trivial ?_ | refine And.intro (keptI (by repeat' (first | refine And.intro ?_ ?_ | exact True.intro | rfl | (simp; done)))) ?_)
      repeat' (first | refine And.intro ?_ ?_ | exact True.intro | rfl)
    repeat (first | exact Same.refl _ | first | refine And.intro (by rfl) ?_ | refine litA ?_ | refine litB ?_ | refine litC ?_ | refine litD ?_ | refine And.intro trivial ?_ | refine And.intro (keptI (by repeat' (first | refine And.intro ?_ ?_ | exact True.intro | rfl | (simp; done)))) ?_)
  · repeat (first | refine And.intro (by rfl) ?_ | refine litA ?_ | refine litB ?_ | refine litC ?_ | refine litD ?_ | refine And.intro trivial ?_ | refine And.intro (keptI (by repeat' (first | refine And.intro ?_ ?_ | exact True.intro | rfl | (simp; done)))) ?_)
    refine ⟨_, _, h15, rfl, rfl, ⟨⟨rfl, rfl⟩, trivial⟩, ?_⟩
    repeat (first | refine And.intro (by rfl) ?_ | refine litA ?_ | refine litB ?_ | refine litC ?_ | refine litD ?_ | refine And.intro trivial ?_ | refine And.intro (keptI (by repeat' (first | refine And.intro ?_ ?_ | exact True.intro | rfl | (simp; done)))) ?_)
    refine ⟨_, _, h17a, rfl, rfl, ⟨⟨rfl, rfl⟩, trivial⟩, ?_⟩
    repeat (first | refine And.intro (by rfl) ?_ | refine litA ?_ | refine litB ?_ | refine litC ?_ | refine litD ?_ | refine And.intro trivial ?_ | refine And.intro (keptI (by repeat' (first | refine And.intro ?_ ?_ | exact True.intro | rfl | (simp; done)))) ?_)
    refine ⟨_, _, h17b, rfl, rfl, ⟨⟨rfl, rfl⟩, trivial⟩, ?_⟩
    repeat (first | refine And.intro (by rfl) ?_ | refine litA ?_ | refine litB ?_ | refine litC ?_ | refine litD ?_ | refine And.intro trivial ?_ | refine And.intro (keptI (by repeat' (first | refine And.intro ?_ ?_ | exact True.intro | rfl | (simp; done)))) ?_)
    refine ⟨_, _, h23, rfl, rfl, trivial, ?_⟩
    repeat (first | refine And.intro (by rfl) ?_ | refine litA ?_ | refine litB ?_ | refine litC ?_ | refine litD ?_ | refine And.intro trivial ?_ | refine And.intro (keptI (by repeat' (first | refine And.intro ?_ ?_ | exact True.intro | rfl | (simp; done)))) ?_)
    refine ⟨_, _, h19, rfl, rfl, trivial, ?_⟩
    repeat (first | refine And.intro (by rfl) ?_ | refine litA ?_ | refine litB ?_ | refine litC ?_ | refine litD ?_ | refine And.intro trivial ?_ | refine And.intro (keptI (by repeat' (first | refine And.intro ?_ ?_ | exact True.intro | rfl | (simp; done)))) ?_)
    repeat' (first | refine And.intro ?_ ?_ | exact True.intro | rfl)
  repeat (first | refine And.intro (by rfl) ?_ | refine litA ?_ | refine litB ?_ | refine litC ?_ | refine litD ?_ | refine And.intro trivial ?_ | refine And.intro (keptI (by repeat' (first | refine And.intro ?_ ?_ | exact True.intro | rfl | (simp; done)))) ?_)
  refine ⟨_, _, h24, rfl, rfl, trivial, ?_⟩
  repeat (first | refine And.intro (by rfl) ?_ | refine litA ?_ | refine litB ?_ | refine litC ?_ | refine litD ?_ | refine And.intro trivial ?_ | refine And.intro (keptI (by repeat' (first | refine And.intro ?_ ?_ | exact True.intro | rfl | (simp; done)))) ?_)
  refine loop_ok (G := G) tabOK hm pl5 (α := {k : Nat // k ≤ K.length ∧ True}) (fun k => ⟨99, [(49, I k.1), (48, I (K.map encC).length), (47, encCs K), (6, .loc 7000 0), (4, .loc 5000 0)], [(7000, .box (encV ⟨nd', sq', .mk t' n' i', vs', ac', cf', hd'⟩) false), (5000, .box (encV ⟨nd, sq, .mk t n i, vs, ac, cf, hd⟩) false)]⟩) (fun k => K.length - k.1) (by kernel_rfl) ⟨0, Nat.zero_le _, by first | rfl | simp⟩ ?_ ?_
  · repeat' (first | refine fitE_ls rfl rfl ?_ | refine fitC_ls rfl ?_ | refine And.intro ?_ ?_ | exact True.intro | rfl | exact ⟨_, _, rfl, rfl⟩ | exact ⟨_, _, rfl⟩ | decide | (simp [St.get, St.obj, look, lookD, unI, List.map_take]; done))
  rintro ⟨k, hk, hx⟩
  repeat (first | refine And.intro (by rfl) ?_ | refine litA ?_ | refine litB ?_ | refine litC ?_ | refine litD ?_ | refine And.intro trivial ?_ | refine And.intro (keptI (by repeat' (first | refine And.intro ?_ ?_ | exact True.intro | rfl | (simp; done)))) ?_)
  refine And.intro (fun h => ?_) (fun h => ?_)
  rotate_left
  · have hl : K.length ≤ k := by simpa using h
    repeat (first | refine And.intro (by rfl) ?_ | refine litA ?_ | refine litB ?_ | refine litC ?_ | refine litD ?_ | refine And.intro trivial ?_ | refine And.intro (keptI (by repeat' (first | refine And.intro ?_ ?_ | exact True.intro | rfl | (simp; done)))) ?_)
    have ek : K.take k = K := List.take_of_length_le hl
    try rw [ek] at hx
    refine ⟨by simp; omega, rfl, ?_⟩
    repeat (first | refine And.intro (by rfl) ?_ | refine litA ?_ | refine litB ?_ | refine litC ?_ | refine litD ?_ | refine And.intro trivial ?_ | refine And.intro (keptI (by repeat' (first | refine And.intro ?_ ?_ | exact True.intro | rfl | (simp; done)))) ?_)
    refine ⟨_, _, h26, rfl, rfl, trivial, ?_⟩
    repeat (first | refine And.intro (by rfl) ?_ | refine litA ?_ | refine litB ?_ | refine litC ?_ | refine litD ?_ | refine And.intro trivial ?_ | refine And.intro (keptI (by repeat' (first | refine And.intro ?_ ?_ | exact True.intro | rfl | (simp; done)))) ?_)
    refine ⟨by simp [chunks], by simp [chunks]; omega, rfl, ?_⟩
    repeat (first | refine And.intro (by rfl) ?_ | refine litA ?_ | refine litB ?_ | refine litC ?_ | refine litD ?_ | refine And.intro trivial ?_ | refine And.intro (keptI (by repeat' (first | refine And.intro ?_ ?_ | exact True.intro | rfl | (simp; done)))) ?_)
    refine loop_ok (G := G) tabOK hm pl5 (α := {q : Bool × Nat // q.2 ≤ ac'.length}) (fun q => ⟨99, [(68, I q.1.2), (67, I (ac'.map encC).length), (66, encCs ac'), (10, .ls 58000 (0 + (hd'.map encM).length).succ), (6, .loc 7000 0), (4, .loc 5000 0)], [(7000, .box (encV ⟨nd', sq', .mk t' n' i', vs', ac', cf', hd'⟩) false), (5000, .box (encV ⟨nd, sq, .mk t n i, vs, ac, cf, hd⟩) false), (58000, .row 40 7 (hd'.map encM ++ [encM (sayV ⟨nd', sq', .mk t' n' i', vs', ac', cf', hd'⟩)]) q.1.1)]⟩) (fun q => ac'.length - q.1.2) (by kernel_rfl) ⟨(false, 0), Nat.zero_le _⟩ ?_ ?_
    · repeat' (first | refine fitE_ls rfl rfl ?_ | refine fitC_ls rfl ?_ | refine And.intro ?_ ?_ | exact True.intro | rfl | exact ⟨_, _, rfl, rfl⟩ | exact ⟨_, _, rfl⟩ | decide | (simp [St.get, St.obj, look, lookD, unI, List.map_take]; done))
    rintro ⟨⟨f, j⟩, hj⟩
    dsimp only at hj
    cases f
    · repeat (first | refine And.intro (by rfl) ?_ | refine litA ?_ | refine litB ?_ | refine litC ?_ | refine litD ?_ | refine And.intro trivial ?_ | refine And.intro (keptI (by repeat' (first | refine And.intro ?_ ?_ | exact True.intro | rfl | (simp; done)))) ?_)
      refine And.intro (fun h => ?_) (fun h => ?_)
      rotate_left
      · repeat (first | refine And.intro (by rfl) ?_ | refine litA ?_ | refine litB ?_ | refine litC ?_ | refine litD ?_ | refine And.intro trivial ?_ | refine And.intro (keptI (by repeat' (first | refine And.intro ?_ ?_ | exact True.intro | rfl | (simp; done)))) ?_)
        refine ⟨_, _, f21_ok, rfl, rfl, trivial, ?_⟩
        repeat (first | refine And.intro (by rfl) ?_ | refine litA ?_ | refine litB ?_ | refine litC ?_ | refine litD ?_ | refine And.intro trivial ?_ | refine And.intro (keptI (by repeat' (first | refine And.intro ?_ ?_ | exact True.intro | rfl | (simp; done)))) ?_)
        repeat' (first | refine And.intro ?_ ?_ | exact .inl rfl | rfl | exact .inr ⟨rfl, _, rfl⟩)
      have hj' : j < ac'.length := by simpa using h
      obtain ⟨y, hy⟩ : ∃ y, ac'[j]? = some y := ⟨_, List.getElem?_eq_getElem hj'⟩
      have e : IntKind.i64.wrap ((j : Int) + 1) = ((j + 1 : Nat) : Int) := by rw [wrap_id] <;> omega
      have h29 := h29 y
      have h27 := h27 y
      have hg := g2 y (List.mem_of_getElem? hy)
      rw [hcf] at hg
      generalize hasS (elim (viewS nd' (.mk t' n' i') hd') (sayP Message.accepts y (allV ⟨nd', sq', .mk t' n' i', vs', ac', cf', hd'⟩) 0)).1 nd' = B at h27 hg
      have h30a := f30_ok cf' y
      have h30b := f30_ok cf y
      repeat (first | refine And.intro (by rfl) ?_ | refine litA ?_ | refine litB ?_ | refine litC ?_ | refine litD ?_ | refine And.intro trivial ?_ | refine And.intro (keptI (by repeat' (first | refine And.intro ?_ ?_ | exact True.intro | rfl | (simp; done)))) ?_)
      refine ⟨by simp, encC y, by simp [hy], ?_⟩
      repeat (first | refine And.intro (by rfl) ?_ | refine litA ?_ | refine litB ?_ | refine litC ?_ | refine litD ?_ | refine And.intro trivial ?_ | refine And.intro (keptI (by repeat' (first | refine And.intro ?_ ?_ | exact True.intro | rfl | (simp; done)))) ?_)
      refine ⟨_, _, h28, rfl, rfl, trivial, ?_⟩
      repeat (first | refine And.intro (by rfl) ?_ | refine litA ?_ | refine litB ?_ | refine litC ?_ | refine litD ?_ | refine And.intro trivial ?_ | refine And.intro (keptI (by repeat' (first | refine And.intro ?_ ?_ | exact True.intro | rfl | (simp; done)))) ?_)
      refine And.intro (by simp [chunks]) ?_
      refine ⟨_, _, h29, rfl, rfl, trivial, ?_⟩
      repeat (first | refine And.intro (by rfl) ?_ | refine litA ?_ | refine litB ?_ | refine litC ?_ | refine litD ?_ | refine And.intro trivial ?_ | refine And.intro (keptI (by repeat' (first | refine And.intro ?_ ?_ | exact True.intro | rfl | (simp; done)))) ?_)
      refine ⟨_, _, h27, rfl, rfl, trivial, ?_⟩
      repeat' (first | refine And.intro (by rfl) ?_ | refine litA ?_ | refine litB ?_ | refine litC ?_ | refine litD ?_ | refine And.intro trivial ?_ | refine And.intro (keptI (by repeat' (first | refine And.intro ?_ ?_ | exact True.intro | rfl | (simp; done)))) ?_ | refine ⟨_, _, h30a, rfl, rfl, trivial, ?_⟩ | refine ⟨_, _, h30b, rfl, rfl, trivial, ?_⟩ | (refine And.intro ?_ ?_ <;> intro h))
      · rename_i hq
        exfalso
        simp [hq] at hg
        simp [hg] at h
      · refine ⟨⟨(true, j + 1), hj'⟩, ?_, ?_⟩
        · repeat' (first | refine fitE_ls rfl rfl ?_ | refine fitC_ls rfl ?_ | exact congrArg I e | refine And.intro ?_ ?_ | exact True.intro | rfl | exact ⟨_, _, rfl, rfl⟩ | exact ⟨_, _, rfl⟩ | decide | (simp [St.get, St.obj, look, lookD, unI, List.map_take]; done))
        · dsimp only; omega
      · rename_i hq
        exfalso
        simp [hq] at hg
        simp [hg] at h
      · refine ⟨⟨(true, j + 1), hj'⟩, ?_, ?_⟩
        · repeat' (first | refine fitE_ls rfl rfl ?_ | refine fitC_ls rfl ?_ | exact congrArg I e | refine And.intro ?_ ?_ | exact True.intro | rfl | exact ⟨_, _, rfl, rfl⟩ | exact ⟨_, _, rfl⟩ | decide | (simp [St.get, St.obj, look, lookD, unI, List.map_take]; done))
        · dsimp only; omega
    · repeat (first | refine And.intro (by rfl) ?_ | refine litA ?_ | refine litB ?_ | refine litC ?_ | refine litD ?_ | refine And.intro trivial ?_ | refine And.intro (keptI (by repeat' (first | refine And.intro ?_ ?_ | exact True.intro | rfl | (simp; done)))) ?_)
      refine And.intro (fun h => ?_) (fun h => ?_)
      rotate_left
      · repeat (first | refine And.intro (by rfl) ?_ | refine litA ?_ | refine litB ?_ | refine litC ?_ | refine litD ?_ | refine And.intro trivial ?_ | refine And.intro (keptI (by repeat' (first | refine And.intro ?_ ?_ | exact True.intro | rfl | (simp; done)))) ?_)
        refine ⟨_, _, f21_ok, rfl, rfl, trivial, ?_⟩
        repeat (first | refine And.intro (by rfl) ?_ | refine litA ?_ | refine litB ?_ | refine litC ?_ | refine litD ?_ | refine And.intro trivial ?_ | refine And.intro (keptI (by repeat' (first | refine And.intro ?_ ?_ | exact True.intro | rfl | (simp; done)))) ?_)
        repeat' (first | refine And.intro ?_ ?_ | exact .inl rfl | rfl | exact .inr ⟨rfl, _, rfl⟩)
      have hj' : j < ac'.length := by simpa using h
      obtain ⟨y, hy⟩ : ∃ y, ac'[j]? = some y := ⟨_, List.getElem?_eq_getElem hj'⟩
      have e : IntKind.i64.wrap ((j : Int) + 1) = ((j + 1 : Nat) : Int) := by rw [wrap_id] <;> omega
      have h29 := h29 y
      have h27 := h27 y
      have hg := g2 y (List.mem_of_getElem? hy)
      rw [hcf] at hg
      generalize hasS (elim (viewS nd' (.mk t' n' i') hd') (sayP Message.accepts y (allV ⟨nd', sq', .mk t' n' i', vs', ac', cf', hd'⟩) 0)).1 nd' = B at h27 hg
      have h30a := f30_ok cf' y
      have h30b := f30_ok cf y
      repeat (first | refine And.intro (by rfl) ?_ | refine litA ?_ | refine litB ?_ | refine litC ?_ | refine litD ?_ | refine And.intro trivial ?_ | refine And.intro (keptI (by repeat' (first | refine And.intro ?_ ?_ | exact True.intro | rfl | (simp; done)))) ?_)
      refine ⟨by simp, encC y, by simp [hy], ?_⟩
      repeat (first | refine And.intro (by rfl) ?_ | refine litA ?_ | refine litB ?_ | refine litC ?_ | refine litD ?_ | refine And.intro trivial ?_ | refine And.intro (keptI (by repeat' (first | refine And.intro ?_ ?_ | exact True.intro | rfl | (simp; done)))) ?_)
      refine ⟨_, _, h28, rfl, rfl, trivial, ?_⟩
      repeat (first | refine And.intro (by rfl) ?_ | refine litA ?_ | refine litB ?_ | refine litC ?_ | refine litD ?_ | refine And.intro trivial ?_ | refine And.intro (keptI (by repeat' (first | refine And.intro ?_ ?_ | exact True.intro | rfl | (simp; done)))) ?_)
      refine And.intro (by simp [chunks]) ?_
      refine ⟨_, _, h29, rfl, rfl, trivial, ?_⟩
      repeat (first | refine And.intro (by rfl) ?_ | refine litA ?_ | refine litB ?_ | refine litC ?_ | refine litD ?_ | refine And.intro trivial ?_ | refine And.intro (keptI (by repeat' (first | refine And.intro ?_ ?_ | exact True.intro | rfl | (simp; done)))) ?_)
      refine ⟨_, _, h27, rfl, rfl, trivial, ?_⟩
      repeat' (first | refine And.intro (by rfl) ?_ | refine litA ?_ | refine litB ?_ | refine litC ?_ | refine litD ?_ | refine And.intro trivial ?_ | refine And.intro (keptI (by repeat' (first | refine And.intro ?_ ?_ | exact True.intro | rfl | (simp; done)))) ?_ | refine ⟨_, _, h30a, rfl, rfl, trivial, ?_⟩ | refine ⟨_, _, h30b, rfl, rfl, trivial, ?_⟩ | (refine And.intro ?_ ?_ <;> intro h))
      · rename_i hq
        exfalso
        simp [hq] at hg
        simp [hg] at h
      · refine ⟨⟨(true, j + 1), hj'⟩, ?_, ?_⟩
        · repeat' (first | refine fitE_ls rfl rfl ?_ | refine fitC_ls rfl ?_ | exact congrArg I e | refine And.intro ?_ ?_ | exact True.intro | rfl | exact ⟨_, _, rfl, rfl⟩ | exact ⟨_, _, rfl⟩ | decide | (simp [St.get, St.obj, look, lookD, unI, List.map_take]; done))
        · dsimp only; omega
      · rename_i hq
        exfalso
        simp [hq] at hg
        simp [hg] at h
      · refine ⟨⟨(true, j + 1), hj'⟩, ?_, ?_⟩
        · repeat' (first | refine fitE_ls rfl rfl ?_ | refine fitC_ls rfl ?_ | exact congrArg I e | refine And.intro ?_ ?_ | exact True.intro | rfl | exact ⟨_, _, rfl, rfl⟩ | exact ⟨_, _, rfl⟩ | decide | (simp [St.get, St.obj, look, lookD, unI, List.map_take]; done))
        · dsimp only; omega
  have hk' : k < K.length := by simpa using h
  obtain ⟨y, hy⟩ : ∃ y, K[k]? = some y := ⟨_, List.getElem?_eq_getElem hk'⟩
  have e : IntKind.i64.wrap ((k : Int) + 1) = ((k + 1 : Nat) : Int) := by rw [wrap_id] <;> omega
  have et : K.take (k + 1) = K.take k ++ [y] := by rw [List.take_add_one, hy]; rfl
  repeat (first | refine And.intro (by rfl) ?_ | refine litA ?_ | refine litB ?_ | refine litC ?_ | refine litD ?_ | refine And.intro trivial ?_ | refine And.intro (keptI (by repeat' (first | refine And.intro ?_ ?_ | exact True.intro | rfl | (simp; done)))) ?_)
  have h25y := h25 y
  dsimp only at h25y
  rw [g1 y (List.mem_of_getElem? hy)] at h25y
  refine ⟨by simp, encC y, by simp [hy], ?_⟩
  repeat (first | refine And.intro (by rfl) ?_ | refine litA ?_ | refine litB ?_ | refine litC ?_ | refine litD ?_ | refine And.intro trivial ?_ | refine And.intro (keptI (by repeat' (first | refine And.intro ?_ ?_ | exact True.intro | rfl | (simp; done)))) ?_)
  refine ⟨_, _, h25y, rfl, rfl, trivial, ?_⟩
  repeat (first | refine And.intro (by rfl) ?_ | refine litA ?_ | refine litB ?_ | refine litC ?_ | refine litD ?_ | refine And.intro trivial ?_ | refine And.intro (keptI (by repeat' (first | refine And.intro ?_ ?_ | exact True.intro | rfl | (simp; done)))) ?_)
  refine ⟨⟨k + 1, hk', trivial⟩, ?_, ?_⟩
  · repeat' (first | refine fitE_ls rfl rfl ?_ | refine fitC_ls rfl ?_ | exact congrArg I e | refine And.intro ?_ ?_ | exact True.intro | rfl | exact ⟨_, _, rfl, rfl⟩ | exact ⟨_, _, rfl⟩ | decide | (simp [St.get, St.obj, look, lookD, unI, List.map_take]; done))
  · dsimp only; omega
end Go.Proofs.YtnkpakakgfkpbaaGreat.V
end
section
namespace Go.Proofs.YtnkpakakgfkpbaaGreat.V
open Go.Vi
set_option maxRecDepth 10000
open Go.ChangeShapes Go.WideShapes Go.ChangeAt Go.RowKit
set_option linter.unusedVariables false
namespace votingSettles
set_option maxRecDepth 100000 in
theorem lifted (os : Os) (started : os.Started) (H : Type) (enc : TypeId × Value → H) :
    ReturnsInHanded {} Tryz.checked os 5 .any (Rows.votingSettlesSpec.pre6 enc Tryz.prog Tryz.f5 Rows.votingSettlesRow.domain false) (Rows.votingSettlesSpec.post enc Tryz.prog Tryz.f5 false true false false) := by
  refine returnsInHanded_of_change_sized (C := Tryz.checked) own started (by kernel_rfl) Tryz.func5
    (ChangeSpec.witness6 (enc := enc) (C := Tryz.checked) false ⟨#[], #[.slice none 0 0], []⟩ 8 (by kernel_rfl) (by kernel_rfl) (by kernel_rfl) (by kernel_rfl)) ?_
  intro W base args ds gs before hval0 hW hcnd hsz0 _
  have hval : ∀ (j : Nat) t v, Tryz.f5.params[j]? = some t → args[j]? = some v → Value.okWide Tryz.prog W .any base t v := hval0
  have hW' := hW
  obtain ⟨p, q, hA0, hV, rfl, hfz, hnd⟩ := hW
  have hA : DataW.TrodAll enc Tryz.prog W 0 (fun _ => true) true Tryz.f5.params.toList args.toList ds p := hA0
  rw [Tryz.params5] at hA hval
  obtain ⟨v0, vs0, d0, ds0, p0, q0, hargs, rfl, rfl, h0, r0⟩ := trodAll_cons hA
  obtain ⟨rfl, rfl, rfl⟩ := trodAll_nil r0
  obtain rfl : args = #[v0] := by cases args; simp_all
  obtain ⟨rfl, rfl⟩ := trodVars_none hV
  obtain ⟨a0, len0, cap0, rfl⟩ := okWide_slice Tryz.underlying22 (hval 0 22 v0 rfl rfl)
  have k0 := h0
  have lt0 : ∀ x ∈ p0, x.block < W.heap.size := by obtain ⟨m, hm'⟩ := k0; exact DataW.trod_lt m _ _ _ hm'
  obtain ⟨l, hl⟩ := ints_rep h0
  clear hA0 hval0 hsz0
  refine (top_ok (b := true) (f5_ok l) rfl (vs := [.slice a0 len0 cap0]) (W := W) (fun L => .cons hl .nil)).mono fun e W' ⟨he, bel⟩ => ?_
  subst he
  exact ⟨_, rfl, _, _, _, [], _, [], hW', trodAll_mk1 (shut_bool Tryz.underlying4 _), trodAll_cons_mk (Below.trod laidOut (by kernel_rfl) (of_decide_eq_true (by kernel_rfl)) k0 bel lt0) trodAll_mk0, rfl, bel.frame _, fun h => by cases h⟩
set_option maxRecDepth 100000 in
theorem j_in : (Rows.votingSettlesRow.inPlace == Tryz.prog.inPlace 5) = true := by kernel_rfl
set_option maxRecDepth 100000 in
theorem j_un : (Rows.votingSettlesRow.unfollowed == Tryz.prog.unfollowed 5) = true := by kernel_rfl
set_option maxRecDepth 100000 in
theorem j_re : (Rows.votingSettlesRow.recurses == Tryz.prog.recurses 5) = true := by
  have h : Tryz.prog.recurses 5 = true := by
    unfold Program.recurses
    have := j_un
    rw [beq_iff_eq] at this
    rw [← this]; rfl
  rw [h]; rfl
set_option maxRecDepth 100000 in
theorem j_na : (Rows.votingSettlesRow.named == Tryz.prog.varsNamed 5) = true := by kernel_rfl
set_option maxRecDepth 100000 in
theorem closed : joinedFacts Tryz.prog 5 Tryz.f5 Rows.votingSettlesSpec Rows.votingSettlesRow = true := by
  unfold joinedFacts
  rw [j_in, j_un, j_re, j_na]
  kernel_rfl
set_option maxRecDepth 100000 in
theorem over : Rows.votingSettlesRow.holds Tryz.pinned (OpenSpec.ofChange Rows.votingSettlesSpec) :=
  OpenClaim.holds_of_wide 5 Tryz.f5 rfl rfl rfl rfl rfl rfl rfl ⟨rfl, rfl, rfl, rfl, rfl⟩ rfl rfl rfl rfl rfl (by kernel_rfl) Tryz.func5 closed
    (of_decide_eq_true (by kernel_rfl)) (by unfold Func.isWrapper; first | (rw [if_pos (by decide +kernel)]; kernel_rfl) | (rw [if_neg (by decide +kernel)]; exact ⟨rfl, rfl⟩))
    (fun os started H enc _ => lifted os started H enc)
theorem proved : Rows.VotingSettlesSaid := over
end votingSettles
theorem votingSettles_holds : Rows.VotingSettlesSaid := votingSettles.proved
end Go.Proofs.YtnkpakakgfkpbaaGreat.V
end
namespace Go.Proofs.YtnkpakakgfkpbaaGreat
theorem votingSettles_holds : Rows.VotingSettlesSaid := V.votingSettles_holds
end Go.Proofs.YtnkpakakgfkpbaaGreat
