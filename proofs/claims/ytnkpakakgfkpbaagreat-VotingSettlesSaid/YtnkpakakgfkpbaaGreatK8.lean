/-
  VotingKeeps: for every list of integers the law's function returns true, and the argument reads behind the call as it read before. No condition.
-/
import Derived.Test.YtnkpakakgfkpbaaGreatK7
import Derived.Shelf.RegionOpenPlain
import Derived.Lib.AppendZerosOnto
import Derived.ChangeSlices
import Derived.OpenShut
import Derived.ProofKit
import Derived.ChangeOld
import Derived.SizedLaws
import Derived.Test.YtnkpakakgfkpbaaGreatRows
set_option linter.unusedVariables false
set_option linter.unusedSimpArgs false
section
namespace Go.Proofs.YtnkpakakgfkpbaaGreat.V
open Go.Vi
set_option maxRecDepth 10000
open Go.RowKit
/-! slices.Insert of one element, an own slice handed over -/
theorem ins_und : PG.underlying 29 = some (.slice 40) := by kernel_rfl
theorem ins_und3 : PG.underlying 3 = some (.int .i64) := by kernel_rfl
theorem ins_size (w : World) : (Go.sizeOf 40).run PG w = .ok 7 w := by kernel_rfl
/-- At the end. -/
theorem w107_end (a : Option Addr) (n c : Nat) (vb vo vc : Nat) (W : World) (hn : n ≤ 1000000000) {v' : Value} {w' : World}
    (hr : ∀ ty, (Builtin.append_ #[29, 29] ty #[.slice a n c, .slice (some ⟨vb, vo, none⟩) 1 vc]).run PG W = .ok v' w') (hnc : n ≤ c) :
    Calls PG 107 #[.slice a n c, .int .i64 n, .slice (some ⟨vb, vo, none⟩) 1 vc] W fun e w => e = .returned v' ∧ w = w' := by
  have h29 := ins_und
  have hs40 := ins_size
  go_enter Tryz.func107, Tryz.ntmps107
  go_wp2_with (at_builtin; refine Lib.wpList_append_run _ rfl _ _ _ _ rfl _ _ rfl rfl _ _ (hr _) ?_)
  all_goals go_ret
  all_goals exact ⟨rfl, rfl⟩
/-- 'copy' where its run is known, as a step of a region that draws its order, and in a list. -/
theorem step_copy {ops : Array Oper} {o : Oper} {a : Act} {w : World} {K : Act → World → Prop} {Q : Exit → Act → World → Prop} {E : Prop}
    (hg : o.guard = none) (d x : Operand) (dT sT : TypeId) (hop : o.op = Op.call { callee := Callee.builtin Builtin.copy, args := #[d, x], argTypes := #[dT, sT] })
    (v u : Value) (hd : a.eval d = v) (hx : a.eval x = u) {v' : Value} {w' : World} (hr : (Builtin.copy_ #[dT, sT] o.type #[v, u]).run PG w = .ok v' w') (hK : K (a.put o.dst v') w') :
    if Region.wanted o (yielded ops a.tmps) = true then Oper.wp PG o a w K Q else E := by
  rw [if_pos (show Region.wanted o (yielded ops a.tmps) = true by simp [Region.wanted, hg])]
  unfold Oper.wp
  simp [execOp, hop, resolve, invoke, builtin, hd, hx, hr, Result.andThen]
  exact hK
theorem list_copy (w : World) {ops : Array Oper} {rest : List Oper} {o : Oper} {a : Act} {Q : Exit → Act → World → Prop} (hgd : o.guard = none) (d s : Operand) (t t' : TypeId)
    (ho : o.op = .call { callee := .builtin .copy, args := #[d, s], argTypes := #[t, t'] }) (v u : Value) (hd : a.eval d = v) (hs : a.eval s = u) {v' : Value} {w' : World}
    (hr : (Builtin.copy_ #[t, t'] o.type #[v, u]).run PG w = .ok v' w') (h : wpList PG ops Q rest (a.put o.dst v') w') : wpList PG ops Q (o :: rest) a w :=
  wpList_plain hgd fun _ hK => by
    unfold Oper.wp execOp
    simp only [ho, resolve, invoke, builtin, Sem.run_bind, Sem.run_pure, Result.andThen_ok, List.map_toArray, List.map_cons, List.map_nil, hd, hs, hr]
    exact hK _ _ h
theorem ins_list (C us D rest : List Value) (a d z k z1 : Nat) (hD : D = (C.drop a).take d) (hdl : D.length = d) (hul : us.length = z) (hal : a + z ≤ C.length) (hk : k = a + z + d) (hz1 : z1 = a + z) :
    ((((C.take z1 ++ D ++ rest).toArray.toList.take a ++ us ++ (C.take z1 ++ D ++ rest).toArray.toList.drop (a + us.length)).toArray.toList).take k) = C.take a ++ us ++ (C.drop a).take d := by
  subst hz1 hk
  have h1 : (C.take (a + z) ++ D ++ rest).take a = C.take a := by
    rw [List.append_assoc, List.take_append_of_le_length (by rw [List.length_take]; omega), List.take_take, Nat.min_eq_left (by omega)]
  have h2 : (C.take (a + z) ++ D ++ rest).drop (a + us.length) = D ++ rest := by
    rw [List.append_assoc, List.drop_left' (by rw [List.length_take]; omega)]
  simp only [List.toList_toArray]
  rw [h1, h2, ← List.append_assoc, List.take_left' (by simp only [List.length_append, List.length_take, hdl, hul]; omega), hD]
/-- In the middle, with room: the walk. -/
theorem w107_roomW (g n c i vb vo vc : Nat) (W W1 W2 : World) (hi : i < n) (hnc : n + 1 ≤ c) (hc : c ≤ 9223372036854775807)
    (hov : ∀ lb cb, (callFunc 185 #[.slice (some ⟨vb, vo, none⟩) 1 vc, .slice (some ⟨g, (i + 1) * 7, none⟩) lb cb]).run PG W = .ok (.value (.bool false)) W)
    (hcp1 : ∀ ty dc sc, (Builtin.copy_ #[29, 29] ty #[.slice (some ⟨g, (i + 1) * 7, none⟩) (n - i) dc, .slice (some ⟨g, i * 7, none⟩) (n + 1 - i) sc]).run PG W.drew = .ok (goInt (n - i : Nat)) W1)
    (hcp2 : ∀ ty dc, (Builtin.copy_ #[29, 29] ty #[.slice (some ⟨g, i * 7, none⟩) (n + 1 - i) dc, .slice (some ⟨vb, vo, none⟩) 1 vc]).run PG W1 = .ok (goInt (1 : Nat)) W2) :
    Calls PG 107 #[.slice (some ⟨g, 0, none⟩) n c, .int .i64 i, .slice (some ⟨vb, vo, none⟩) 1 vc] W fun e w => e = .returned (.slice (some ⟨g, 0, none⟩) (n + 1) c) ∧ w = W2 := by
  have h29 := ins_und
  have hs40 := ins_size
  have hin : i ≤ n := by omega
  have hw1 : IntKind.i64.wrap ((i : Int) + 1) = (i : Int) + 1 := by rw [IntKind.wrap_i64]; omega
  have hb1 : (0 : Int) ≤ (i : Int) + 1 := by omega
  have htn : ((i : Int) + 1).toNat = i + 1 := by omega
  have hb2 : ¬ (c = i + 1) := by omega
  have hb3 : (i : Int) ≤ (n : Int) + 1 := by omega
  have hb4 : ¬ (c = i) := by omega
  have hb5 : (i : Int) + 1 ≤ (n : Int) + 1 := by omega
  go_enter Tryz.func107, Tryz.ntmps107
  have mixed := hm
  go_wp2_with (simp only [hov])
  go_region_law_o (refine step_copy rfl _ _ 29 29 rfl _ _ (by simp [Act.eval, Act.put]) (by simp [Act.eval, Act.put]) (hcp1 _ _ _) ?_)
  go_wp2_with (at_builtin; refine list_copy _ rfl _ _ 29 29 rfl _ _ rfl rfl (hcp2 _ _) ?_)
  go_ret
  exact ⟨rfl, rfl⟩
/-- In the middle, with room: in place. -/
theorem w107_room (g n c i vb vo vc : Nat) (W : World) (cur : Array Value) (us : List Value) (hi : i < n) (hnc : n + 1 ≤ c) (hc : c ≤ 9223372036854775807) (hg : W.heap[g]? = some (.cells cur 40 (0, 0))) (hcs : cur.size = c * 7)
    (hul : us.length = 7) (hu : ∀ j v, us[j]? = some v → W.cell? ⟨vb, vo + j, none⟩ = some v) (hu1 : ∀ v ∈ us, v.oneCell' = true) (hvg : vb ≠ g) (hc1 : ∀ v ∈ (cur.toList.drop (i * 7)).take ((n - i) * 7), v.oneCell' = true) :
    Calls PG 107 #[.slice (some ⟨g, 0, none⟩) n c, .int .i64 i, .slice (some ⟨vb, vo, none⟩) 1 vc] W fun e w => e = .returned (.slice (some ⟨g, 0, none⟩) (n + 1) c) ∧
      ∃ R : Array Value, w = W.drew.setRow g R ∧ R.size = cur.size ∧ R.toList.take ((n + 1) * 7) = cur.toList.take (i * 7) ++ us ++ (cur.toList.drop (i * 7)).take ((n - i) * 7) := by
  have hu0 : W.cell? ⟨vb, vo, none⟩ = some us[0] := by have := hu 0 us[0] (List.getElem?_eq_getElem (by omega)); simpa using this
  have hov : ∀ lb cb, (callFunc 185 #[.slice (some ⟨vb, vo, none⟩) 1 vc, .slice (some ⟨g, (i + 1) * 7, none⟩) lb cb]).run PG W = .ok (.value (.bool false)) W := fun lb cb => by
    rw [run_callFunc_extern Tryz.func185 (by kernel_rfl) (by kernel_rfl) (by kernel_rfl) (e := Extern.SlicesOverlaps.overlaps #[29, 29] #[4]) (by kernel_rfl),
      run_overlaps_own 29 4 40 ins_und ins_size (by simpa using hvg) hu0 hg]
    rfl
  have hin : i ≤ n := by omega
  have hdl : ((cur.toList.drop (i * 7)).take ((n - i) * 7)).length = (n - i) * 7 := by
    rw [List.length_take, List.length_drop]; simp only [Array.length_toList, hcs]; omega
  obtain ⟨R1, hR1⟩ : ∃ R1 : Array Value, R1 = (cur.toList.take ((i + 1) * 7) ++ (cur.toList.drop (i * 7)).take ((n - i) * 7) ++ cur.toList.drop ((i + 1) * 7 + ((cur.toList.drop (i * 7)).take ((n - i) * 7)).length)).toArray := ⟨_, rfl⟩
  have hs1 : R1.size = cur.size := by rw [hR1]; simp only [List.size_toArray, List.length_append, hdl, List.length_take, List.length_drop, Array.length_toList]; omega
  have hinf : ∃ i0, PG.info? 40 = some i0 ∧ i0.size = 7 := by obtain ⟨i0, z0, h1, h2, _⟩ := (tabOK 40 _ rfl).info; exact ⟨i0, h1, h2⟩
  have hcp1 : ∀ ty dc sc, (Builtin.copy_ #[29, 29] ty #[.slice (some ⟨g, (i + 1) * 7, none⟩) (n - i) dc, .slice (some ⟨g, i * 7, none⟩) (n + 1 - i) sc]).run PG W.drew = .ok (goInt (n - i : Nat)) (W.drew.setRow g R1) := fun ty dc sc => by
    rw [hR1]
    refine run_copy_k (size := 7) (t := 40) (n := n - i) (p := (i + 1) * 7) (dLen := n - i) (sLen := n + 1 - i) (w := W.drew) 29 29 ty 40 ins_und hinf (by simp only [Nat.min_def]; split <;> omega) hdl ?_ hg (by rw [hdl]; omega) hc1
    intro j v hj
    rw [Addr.add_lit]
    have : W.drew.cell? ⟨g, i * 7 + j, none⟩ = W.cell? ⟨g, i * 7 + j, none⟩ := rfl
    rw [this, cell_of_row W g (i * 7 + j) cur 40 (0, 0) hg]
    rw [List.getElem?_take] at hj
    split at hj
    · rw [List.getElem?_drop] at hj; simpa using hj
    · cases hj
  obtain ⟨R2, hR2⟩ : ∃ R2 : Array Value, R2 = (R1.toList.take (i * 7) ++ us ++ R1.toList.drop (i * 7 + us.length)).toArray := ⟨_, rfl⟩
  have hg1 : (W.drew.setRow g R1).heap[g]? = some (.cells R1 40 (0, 0)) := setRow_heap _ _ _ _ _ _ hg
  have hcp2 : ∀ ty dc, (Builtin.copy_ #[29, 29] ty #[.slice (some ⟨g, i * 7, none⟩) (n + 1 - i) dc, .slice (some ⟨vb, vo, none⟩) 1 vc]).run PG (W.drew.setRow g R1) = .ok (goInt (1 : Nat)) ((W.drew.setRow g R1).setRow g R2) := fun ty dc => by
    rw [hR2]
    refine run_copy_k (size := 7) (t := 40) (n := 1) (p := i * 7) (dLen := n + 1 - i) (sLen := 1) (w := W.drew.setRow g R1) 29 29 ty 40 ins_und hinf (by simp only [Nat.min_def]; split <;> omega) (by omega) ?_ hg1 (by omega) hu1
    intro j v hj
    rw [Addr.add_lit, World.cell?_of_block (setRow_other _ _ _ _ hvg)]
    exact hu j v hj
  refine (w107_roomW g n c i vb vo vc W _ _ hi hnc hc hov hcp1 hcp2).mono fun e w hp => ?_
  obtain ⟨h1, rfl⟩ := hp
  refine ⟨h1, R2, setRow_twice _ _ _ _, ?_, ?_⟩
  · rw [hR2]; simp only [List.size_toArray, List.length_append, List.length_take, List.length_drop, Array.length_toList, hs1]; omega
  · rw [hR2, hR1, hdl]
    exact ins_list _ _ _ _ (i * 7) ((n - i) * 7) 7 _ _ rfl hdl hul (by rw [Array.length_toList]; omega) (by omega) (by omega)
/-- In the middle, no room: the walk. -/
theorem w107_growW (g n c i vb vo vc N G : Nat) (W W1 W2 W3 : World) (hi : i < n) (hnc : n ≤ c) (hroom : c < n + 1) (hc : c ≤ 1000000000) (hGn : n + 1 ≤ G) (hG : G ≤ 9223372036854775807)
    (hrz : ∀ ty, (Builtin.append_ #[29, 3] ty #[.slice (some ⟨g, 0, none⟩) i c, .int .i64 ((n : Int) + 1 - (i : Int))]).run PG W = .ok (.slice (some ⟨N, 0, none⟩) (n + 1) G) W1)
    (hcpA : ∀ ty dc, (Builtin.copy_ #[29, 29] ty #[.slice (some ⟨N, i * 7, none⟩) (n + 1 - i) dc, .slice (some ⟨vb, vo, none⟩) 1 vc]).run PG W1 = .ok (goInt (1 : Nat)) W2)
    (hcpB : ∀ ty dc sc, (Builtin.copy_ #[29, 29] ty #[.slice (some ⟨N, (i + 1) * 7, none⟩) (n - i) dc, .slice (some ⟨g, i * 7, none⟩) (n - i) sc]).run PG W2.drew = .ok (goInt (n - i : Nat)) W3) :
    Calls PG 107 #[.slice (some ⟨g, 0, none⟩) n c, .int .i64 i, .slice (some ⟨vb, vo, none⟩) 1 vc] W fun e w => e = .returned (.slice (some ⟨N, 0, none⟩) (n + 1) G) ∧ w = W3 := by
  have h29 := ins_und
  have hs40 := ins_size
  have hin : i ≤ n := by omega
  have hw1 : IntKind.i64.wrap ((i : Int) + 1) = (i : Int) + 1 := by rw [IntKind.wrap_i64]; omega
  have hb1 : (0 : Int) ≤ (i : Int) + 1 := by omega
  have htn : ((i : Int) + 1).toNat = i + 1 := by omega
  have hz2 : ¬ ((i : Int) = (n : Int)) := by omega
  have hz3 : (c : Int) < (n : Int) + 1 := by omega
  have hGi : ¬ (G = i) := by omega
  have hGim : ¬ (G = i + 1) := by omega
  have hb3 : (i : Int) ≤ (n : Int) := by omega
  have hb4 : ¬ (c = i) := by omega
  have hb5 : (i : Int) + 1 ≤ (n : Int) + 1 := by omega
  go_enter Tryz.func107, Tryz.ntmps107
  have mixed := hm
  go_wp2_with (first
    | (at_builtin; refine Lib.wpList_append_run _ rfl _ _ _ _ rfl _ _ rfl rfl _ _ (hrz _) ?_)
    | (at_builtin; refine list_copy _ rfl _ _ 29 29 rfl _ _ rfl rfl (hcpA _ _) ?_))
  go_region_law_o (refine step_copy rfl _ _ 29 29 rfl (.slice (some ⟨N, (i + 1) * 7, none⟩) (n - i) (G - (i + 1))) (.slice (some ⟨g, i * 7, none⟩) (n - i) (c - i)) (by simp [Act.eval, Act.put]) (by simp [Act.eval, Act.put]) (hcpB _ _ _) ?_)
  go_wp2
  go_ret
  exact ⟨rfl, rfl⟩
theorem grow_list (ROW us D xs rest : List Value) (a d z z1 k : Nat) (hR : ROW = xs.take a ++ rest) (hul : us.length = z) (hdl : D.length = d) (ha : a ≤ xs.length) (hz1 : z1 = a + z) (hk : k = a + z + d) :
    ((((((ROW.take a ++ us ++ ROW.drop (a + us.length)).toArray.toList).take z1 ++ D ++ ((ROW.take a ++ us ++ ROW.drop (a + us.length)).toArray.toList).drop (z1 + D.length)).toArray).toList).take k) = xs.take a ++ us ++ D := by
  subst hz1 hk
  have h0 : ROW.take a = xs.take a := by rw [hR, List.take_left' (by rw [List.length_take]; omega)]
  rw [h0]
  rw [List.take_left' (by simp only [List.length_append, List.length_take, hul]; omega), List.take_left' (by simp only [List.length_append, List.length_take, hul, hdl]; omega)]
/-- In the middle, no room: a new row. -/
theorem w107_grow (g n i vb vo vc : Nat) (W : World) (cur : Array Value) (us : List Value) (hi : i < n) (hn : n ≤ 1000000000) (hg : W.heap[g]? = some (.cells cur 40 (0, 0))) (hcs : cur.size = n * 7)
    (hul : us.length = 7) (hu : ∀ j v, us[j]? = some v → W.cell? ⟨vb, vo + j, none⟩ = some v) (hu1 : ∀ v ∈ us, v.oneCell' = true) (hc1 : ∀ v ∈ cur.toList, v.oneCell' = true) :
    Calls PG 107 #[.slice (some ⟨g, 0, none⟩) n n, .int .i64 i, .slice (some ⟨vb, vo, none⟩) 1 vc] W fun e w => ∃ v', e = .returned v' ∧
      w.ownsRow 0 40 7 v' (n + 1) (cur.toList.take (i * 7) ++ us ++ cur.toList.drop (i * 7)) ∧ W.grownBy w (some g) ∧ W.drawn ≤ w.drawn ∧ ∀ b, v'.ownBlock = some b → W.heap.size ≤ b := by
  have hrow := tabOK 40 _ rfl
  obtain ⟨i0, z, hi0, hz7, hzp, hzb, hz, _, hzs⟩ := hrow.info
  have hz7 : i0.size = 7 := hz7
  have hzs : z.cells.size = 7 := hzs
  have hinf : ∃ i0, PG.info? 40 = some i0 ∧ i0.size = 7 := ⟨i0, hi0, hz7⟩
  have hgw : g < W.heap.size := (Array.getElem?_eq_some_iff.1 hg).1
  have hu0 : W.cell? ⟨vb, vo, none⟩ = some us[0] := by have := hu 0 us[0] (List.getElem?_eq_getElem (by omega)); simpa using this
  have hvw : vb < W.heap.size := block_lt_of_cell hu0
  have hcl : cur.toList.length = n * 7 := by rw [Array.length_toList, hcs]
  have hkk : (n : Int) + 1 - (i : Int) = ((n + 1 - i : Nat) : Int) := by omega
  have hik : i + (n + 1 - i) = n + 1 := by omega
  obtain ⟨G, hG⟩ : ∃ G, G = grownCap W (n + 1) n 40 := ⟨_, rfl⟩
  have hGn : n + 1 ≤ G := by rw [hG]; exact grownCap_ge W _ _ _
  have hGm : G ≤ maxLen := by rw [hG]; exact grownCap_le_maxLen W (n + 1) n 40 (by unfold maxLen; omega)
  have hG63 : G ≤ 9223372036854775807 := by unfold maxLen at hGm; omega
  have hold : (Builtin.firstCells i0.size i (.slice (some ⟨g, 0, none⟩) i n)).run PG W.drew = .ok (cur.toList.take (i * 7)).toArray W.drew := by
    rw [hz7]
    refine run_firstCells_some W.drew 7 i ⟨g, 0, none⟩ i n (cur.toList.take (i * 7)) (by rw [List.length_take]; omega) (fun j v hj => ?_)
    rw [Addr.add_lit]
    have : W.drew.cell? ⟨g, 0 + j, none⟩ = W.cell? ⟨g, 0 + j, none⟩ := rfl
    rw [this, cell_of_row W g _ cur 40 (0, 0) hg]
    rw [List.getElem?_take] at hj
    split at hj
    · simpa using hj
    · cases hj
  obtain ⟨ROW, hROW⟩ : ∃ ROW : Array Value, ROW = (cur.toList.take (i * 7)).toArray ++ Builtin.zeroCells z.cells (n + 1 - i) ++ Builtin.zeroCells z.cells (G - (n + 1)) := ⟨_, rfl⟩
  have hRs : ROW.size = G * 7 := by
    rw [hROW]
    simp only [Builtin.zeroCells, Array.size_append, List.size_toArray, List.length_take, hcl, Array.size_map, Array.size_range, hzs]
    omega
  have hrz : ∀ ty, (Builtin.append_ #[29, 3] ty #[.slice (some ⟨g, 0, none⟩) i n, .int .i64 ((n : Int) + 1 - (i : Int))]).run PG W = .ok (.slice (some ⟨W.heap.size, 0, none⟩) (n + 1) G) (W.drew.alloc (.cells ROW 40)) := fun ty => by
    have h := Lib.run_append_grow_zeros W 29 3 ty 40 i0 z .i64 .i64 ins_und ins_und3 hi0 hz (some ⟨g, 0, none⟩) i n (cur.toList.take (i * 7)) hold (n + 1 - i) (by omega) (by omega) (by omega) (by omega)
      (by have : (n + 1 - i) * i0.bytes ≤ 1000000001 * 65536 := Nat.mul_le_mul (by omega) hzb
          omega)
      (by rw [hik]; exact growslice_fits (by omega) (by have : (n + 1) * i0.bytes ≤ 1000000001 * 65536 := Nat.mul_le_mul (by omega) hzb
                                                        omega))
    rw [hik, ← hG, ← hROW] at h
    rw [hkk]
    exact h
  have hN : (W.drew.alloc (.cells ROW 40)).heap[W.heap.size]? = some (.cells ROW 40 (0, 0)) := heap_alloc_new W.drew _
  have hO : ∀ k, k < W.heap.size → (W.drew.alloc (.cells ROW 40)).heap[k]? = W.heap[k]? := fun k hk => heap_alloc_old W.drew _ hk
  obtain ⟨W1, hW1⟩ : ∃ W1, W1 = W.drew.alloc (.cells ROW 40) := ⟨_, rfl⟩
  have hW1s : W1.heap.size = W.heap.size + 1 := by rw [hW1]; simp
  rw [← hW1] at hrz hN hO
  obtain ⟨R2, hR2⟩ : ∃ R2 : Array Value, R2 = (ROW.toList.take (i * 7) ++ us ++ ROW.toList.drop (i * 7 + us.length)).toArray := ⟨_, rfl⟩
  have hR2s : R2.size = G * 7 := by rw [hR2]; simp only [List.size_toArray, List.length_append, List.length_take, List.length_drop, Array.length_toList, hRs]; omega
  have hcpA : ∀ ty dc, (Builtin.copy_ #[29, 29] ty #[.slice (some ⟨W.heap.size, i * 7, none⟩) (n + 1 - i) dc, .slice (some ⟨vb, vo, none⟩) 1 vc]).run PG W1 = .ok (goInt (1 : Nat)) (W1.setRow W.heap.size R2) := fun ty dc => by
    rw [hR2]
    refine run_copy_k (size := 7) (t := 40) (n := 1) (p := i * 7) (dLen := n + 1 - i) (sLen := 1) (w := W1) 29 29 ty 40 ins_und hinf (by simp only [Nat.min_def]; split <;> omega) (by omega) ?_ hN (by omega) hu1
    intro j v hj
    rw [Addr.add_lit, World.cell?_of_block (hO vb hvw)]
    exact hu j v hj
  obtain ⟨W2, hW2⟩ : ∃ W2, W2 = W1.setRow W.heap.size R2 := ⟨_, rfl⟩
  rw [← hW2] at hcpA
  have hN2 : W2.drew.heap[W.heap.size]? = some (.cells R2 40 (0, 0)) := by rw [hW2]; exact setRow_heap _ _ _ _ _ _ hN
  have hO2 : ∀ k, k < W.heap.size → W2.drew.heap[k]? = W.heap[k]? := fun k hk => by
    rw [hW2]
    exact (setRow_other W1 W.heap.size k R2 (by omega)).trans (hO k hk)
  have hdl : (cur.toList.drop (i * 7)).length = (n - i) * 7 := by rw [List.length_drop, hcl]; omega
  obtain ⟨R3, hR3⟩ : ∃ R3 : Array Value, R3 = (R2.toList.take ((i + 1) * 7) ++ cur.toList.drop (i * 7) ++ R2.toList.drop ((i + 1) * 7 + (cur.toList.drop (i * 7)).length)).toArray := ⟨_, rfl⟩
  have hR3s : R3.size = G * 7 := by rw [hR3]; simp only [List.size_toArray, List.length_append, List.length_take, hdl, Array.length_toList, hR2s]; rw [List.length_drop, Array.length_toList, hR2s]; omega
  have hcpB : ∀ ty dc sc, (Builtin.copy_ #[29, 29] ty #[.slice (some ⟨W.heap.size, (i + 1) * 7, none⟩) (n - i) dc, .slice (some ⟨g, i * 7, none⟩) (n - i) sc]).run PG W2.drew = .ok (goInt (n - i : Nat)) (W2.drew.setRow W.heap.size R3) := fun ty dc sc => by
    rw [hR3]
    refine run_copy_k (size := 7) (t := 40) (n := n - i) (p := (i + 1) * 7) (dLen := n - i) (sLen := n - i) (w := W2.drew) 29 29 ty 40 ins_und hinf (Nat.min_self _) hdl ?_ hN2 (by omega) (fun v hv => hc1 v (List.mem_of_mem_drop hv))
    intro j v hj
    have hgc : W2.drew.heap[g]? = some (.cells cur 40 (0, 0)) := (hO2 g hgw).trans hg
    rw [Addr.add_lit, cell_of_row W2.drew g _ cur 40 (0, 0) hgc]
    rw [List.getElem?_drop] at hj
    simpa using hj
  refine (w107_growW g n n i vb vo vc W.heap.size G W W1 W2 _ hi (Nat.le_refl _) (by omega) hn hGn hG63 hrz hcpA hcpB).mono fun e w hp => ?_
  obtain ⟨rfl, rfl⟩ := hp
  refine ⟨_, rfl, ⟨by simp only [List.length_append, List.length_take, hdl, hul, hcl]; omega, .inr ⟨W.heap.size, G, R3, rfl, Nat.zero_le _, setRow_heap _ _ _ _ _ _ hN2, hGn, hGm, hR3s, ?_⟩⟩, ⟨?_, ?_, ?_, ?_, fun k hk _ => ?_⟩, ?_, fun b hb => ?_⟩
  · rw [hR3, hR2]
    exact grow_list _ _ _ cur.toList (Builtin.zeroCells z.cells (n + 1 - i) ++ Builtin.zeroCells z.cells (G - (n + 1))).toList (i * 7) ((n - i) * 7) 7 _ _ (by rw [hROW]; simp) hul hdl (by omega) (by omega) (by omega)
  · rw [hW2, hW1]; rfl
  · rw [hW2, hW1]; rfl
  · rw [hW2, hW1]; rfl
  · rw [hW2]; simp only [World.setRow, World.drew, Array.size_modify]; omega
  · rw [setRow_other _ _ _ _ (by omega)]; exact hO2 k hk
  · rw [hW2, hW1]; show W.drawn ≤ W.drawn + 1 + 1; omega
  · cases hb; exact Nat.le_refl _

/-- slices.Insert of one element, at the world. -/
theorem w107_all (n i vb vo vc : Nat) (W : World) (v0 : Value) (xs us : List Value) (hi : i ≤ n) (hn : n ≤ 1000000000) (hown : W.ownsRow 0 40 7 v0 n xs) (h1 : ∀ v ∈ xs, v.oneCell' = true)
    (hul : us.length = 7) (hu : ∀ j v, us[j]? = some v → W.cell? ⟨vb, vo + j, none⟩ = some v) (hu1 : ∀ v ∈ us, v.oneCell' = true) (hvg : ∀ b, v0.ownBlock = some b → vb ≠ b) :
    Calls PG 107 #[v0, .int .i64 i, .slice (some ⟨vb, vo, none⟩) 1 vc] W fun e w => ∃ v', e = .returned v' ∧
      w.ownsRow 0 40 7 v' (n + 1) (xs.take (i * 7) ++ us ++ xs.drop (i * 7)) ∧ W.grownBy w v0.ownBlock ∧ W.drawn ≤ w.drawn ∧ ∀ b, v'.ownBlock = some b → v0.ownBlock = some b ∨ W.heap.size ≤ b := by
  obtain ⟨i0, z, hi0, hz7, hzp, hzb, hz, _, hzs⟩ := (tabOK 40 _ rfl).info
  have hxl := hown.1
  by_cases hin : i = n
  · subst hin
    have hcap : ∃ a c, v0 = .slice a i c ∧ i ≤ c := by
      rcases hown.2 with ⟨h, h0⟩ | ⟨g, cap, cur, h, _, _, h2, _⟩
      · exact ⟨none, 0, by rw [h, h0], by omega⟩
      · exact ⟨_, _, h, h2⟩
    obtain ⟨a, c, hv0, hc⟩ := hcap
    have hr : ∀ ty, ∃ v' w' row, (Builtin.append_ #[29, 29] ty #[v0, .slice (some ⟨vb, vo, none⟩) 1 vc]).run PG W = .ok v' w' ∧ w'.ownsRow 0 40 7 v' (i + 1) (xs ++ us) ∧ W.grownBy w' row ∧ (∀ b, row = some b → v0.ownBlock = some b ∧ v'.ownBlock = some b) ∧
      (∀ b, v'.ownBlock = some b → row = some b ∨ W.heap.size ≤ b) ∧ (1 = 0 → v' = v0) ∧ W.drawn ≤ w'.drawn := fun ty =>
      append_run (ty := ty) ins_und hi0 hz hz7 hzs (by omega) hzb hown (x := .slice (some ⟨vb, vo, none⟩) 1 vc) (m := 1) (news := us) (by omega) (.inr ⟨⟨vb, vo, none⟩, vc, rfl, fun j u h => by rw [Addr.add_lit]; exact hu j u h⟩) hu1 (by omega)
    obtain ⟨v', w', row, h2, h3, h4, h5, h6, _, h7⟩ := hr 0
    have hall : ∀ ty, (Builtin.append_ #[29, 29] ty #[v0, .slice (some ⟨vb, vo, none⟩) 1 vc]).run PG W = .ok v' w' := fun ty => h2
    rw [hv0] at hall ⊢
    refine (w107_end a i c vb vo vc W hn hall hc).mono fun e w hp => ?_
    obtain ⟨rfl, rfl⟩ := hp
    refine ⟨_, rfl, ?_, ?_, h7, fun b hb => ?_⟩
    · rw [← hxl, List.take_length, List.drop_length, List.append_nil]; exact h3
    · refine ⟨h4.os, h4.tape, h4.output, h4.size, fun k hk hne => h4.block k hk fun hc' => hne ?_⟩
      rw [← hv0]; exact (h5 k hc'.symm).1.symm
    · rcases h6 b hb with h | h
      · rw [← hv0]; exact .inl (h5 b h).1
      · exact .inr h
  · rcases hown.2 with ⟨h, h0⟩ | ⟨g, cap, cur, rfl, _, hg, hnc, hcm, hcs, htk⟩
    · omega
    · have hvg : vb ≠ g := hvg g rfl
      have hgw : g < W.heap.size := (Array.getElem?_eq_some_iff.1 hg).1
      have htk1 : xs.take (i * 7) = cur.toList.take (i * 7) := by rw [← htk, List.take_take, Nat.min_eq_left (by omega)]
      have htk2 : xs.drop (i * 7) = (cur.toList.drop (i * 7)).take ((n - i) * 7) := by rw [← htk, List.drop_take]; congr 1; omega
      by_cases hroom : n + 1 ≤ cap
      · refine (w107_room g n cap i vb vo vc W cur us (by omega) hroom (by unfold maxLen at hcm; omega) hg hcs hul hu hu1 hvg (fun v hv => h1 v (by rw [← htk2] at hv; exact List.mem_of_mem_drop hv))).mono fun e w hp => ?_
        obtain ⟨rfl, R, rfl, hRs, hRt⟩ := hp
        refine ⟨_, rfl, ⟨by simp only [List.length_append, List.length_take, List.length_drop, hul, hxl]; omega, .inr ⟨g, cap, R, rfl, Nat.zero_le _, setRow_heap _ _ _ _ _ _ (show W.drew.heap[g]? = _ from hg), hroom, hcm, by rw [hRs, hcs], ?_⟩⟩,
          ⟨rfl, rfl, rfl, ?_, fun k hk hne => ?_⟩, Nat.le_succ _, fun b hb => .inl hb⟩
        · rw [hRt, htk1, htk2]
        · simp only [World.setRow, Array.size_modify]; exact Nat.le_refl _
        · have hkg : k ≠ g := fun h => hne (by rw [h]; rfl)
          rw [setRow_other _ _ _ _ hkg]; rfl
      · have hcn : cap = n := by omega
        subst hcn
        have htk : cur.toList = xs := by rw [← htk, List.take_of_length_le (by rw [Array.length_toList]; omega)]
        refine (w107_grow g cap i vb vo vc W cur us (by omega) hn hg hcs hul hu hu1 (by rw [htk]; exact h1)).mono fun e w hp => ?_
        obtain ⟨v', rfl, p1, p2, p3, p4⟩ := hp
        rw [htk] at p1
        exact ⟨v', rfl, p1, p2, p3, fun b hb => .inr (p4 b hb)⟩
theorem flat_drop {es : List (List PV)} {sz : Nat} (h : ∀ x ∈ es, x.length = sz) (n : Nat) : (es.drop n).flatten = es.flatten.drop (n * sz) := by
  have h1 : es.flatten = (es.take n).flatten ++ (es.drop n).flatten := by rw [← List.flatten_append, List.take_append_drop]
  by_cases hn : n ≤ es.length
  · rw [h1, List.drop_left']
    rw [flat_len (fun x hx => h x (List.mem_of_mem_take hx)), List.length_take, Nat.min_eq_left hn]
  · rw [List.drop_of_length_le (by omega), List.drop_of_length_le]
    · rfl
    · rw [flat_len h]; exact Nat.mul_le_mul_right _ (by omega)
theorem encM_len (m : Message) : (encM m).length = 7 := by obtain ⟨_, _, ⟨_, _, _⟩, _, _⟩ := m; rfl
theorem f107_ok (l : List Message) (i : Int) (m : Message) (h0 : 0 ≤ i) (h1 : i ≤ l.length) (hl : l.length ≤ 1000000000) :
    C 107 [.sl (some 40) 7 (l.map encM), I i, .sl none 7 [encM m]] (.sl (some 40) 7 ((l.take i.toNat ++ m :: l.drop i.toNat).map encM)) := by
  obtain ⟨i, rfl⟩ := Int.eq_ofNat_of_zero_le h0
  have hil : i ≤ l.length := by omega
  have hul : (encM m).length = 7 := encM_len m
  refine consume_ok (callFunc_enter Tryz.func107 rfl (by kernel_rfl)) (fun p hp => by simp only [List.mem_cons, List.mem_nil_iff, or_false] at hp; rcases hp with rfl | rfl <;> rfl) (fun _ x hx => by
    obtain ⟨y, _, rfl⟩ := List.mem_map.1 hx; exact encM_len y) ?_
  intro rd v0 vs w xs hown hrep _ hrest hrd hno
  cases hrest with
  | cons ra rb =>
  cases rb with
  | cons rb rc =>
  cases rc
  cases ra
  cases rb with
  | sl hcap hmax hnone ha hsz hrd' hrep' =>
  rename_i a cap b o u
  have ha := ha (by simp)
  subst ha
  have hcell : ∀ j c, (encM m)[j]? = some c → rd ⟨b, o + j, none⟩ = some (u 0 j) ∧ RepP rd c (u 0 j) := fun j c hc => by
    have h1 := hrd' 0 (encM m) j c rfl hc
    rw [Nat.zero_mul, Nat.zero_add] at h1
    exact ⟨h1, hrep' 0 (encM m) j c rfl hc⟩
  obtain ⟨us, hus⟩ : ∃ us : List Value, us = (List.range 7).map (u 0) := ⟨_, rfl⟩
  have hl7 : us.length = 7 := by rw [hus]; simp
  have hget : ∀ j v, us[j]? = some v → ∃ c, (encM m)[j]? = some c ∧ v = u 0 j := fun j v hj => by
    have hj7 : j < 7 := by rw [← hl7]; exact (List.getElem?_eq_some_iff.1 hj).1
    rw [hus, List.getElem?_map, List.getElem?_range hj7] at hj
    exact ⟨_, List.getElem?_eq_getElem (by omega), by cases hj; rfl⟩
  have hup : All2 (RepP rd) (encM m) us := All2.of_get (by omega) fun j c v hc hv => by
    obtain ⟨c', hc', rfl⟩ := hget j v hv
    rw [hc] at hc'; cases hc'
    exact (hcell j c hc).2
  have hone : ∀ v ∈ us, v.oneCell' = true := fun v hv => by
    obtain ⟨j, hj⟩ := List.mem_iff_getElem?.1 hv
    obtain ⟨c, hc, rfl⟩ := hget j v hj
    exact (hcell j c hc).2.oneCell
  have hx1 : ∀ v ∈ xs, v.oneCell' = true := fun v hv => by
    obtain ⟨j, hj⟩ := List.mem_iff_getElem?.1 hv
    obtain ⟨c, _, hc⟩ := hrep.get' hj
    exact hc.oneCell
  have hown' : w.ownsRow 0 40 7 v0 l.length xs := by rw [List.length_map] at hown; exact hown
  refine (w107_all l.length i b o cap w v0 xs us hil (by omega) hown' hx1 hl7 (fun j v hj => ?_) hone (fun b' hb' => hno b' hb' ⟨b, o, none⟩ (u 0 0) (by have := (hcell 0 _ (List.getElem?_eq_getElem (by omega))).1; simpa using this))).mono fun e' w' hp => ?_
  · obtain ⟨c, hc, rfl⟩ := hget j v hj
    exact (hrd _ _ (hcell j c hc).1).1
  · obtain ⟨v', he, p1, p2, p3, p4⟩ := hp
    refine ⟨v', he, xs.take (i * 7) ++ us ++ xs.drop (i * 7), ?_, ?_, p2, p3, p4⟩
    · have : ((l.take (i : Int).toNat ++ m :: l.drop (i : Int).toNat).map encM).length = l.length + 1 := by simp; omega
      rw [this]; exact p1
    · have hf : ((l.take (i : Int).toNat ++ m :: l.drop (i : Int).toNat).map encM).flatten = (l.map encM).flatten.take (i * 7) ++ encM m ++ (l.map encM).flatten.drop (i * 7) := by
        rw [← flat_take (fun x hx => by obtain ⟨y, _, rfl⟩ := List.mem_map.1 hx; exact encM_len y), ← flat_drop (fun x hx => by obtain ⟨y, _, rfl⟩ := List.mem_map.1 hx; exact encM_len y)]
        simp
      rw [hf]
      exact ((hrep.take _).append hup).append (hrep.drop _)
set_option maxRecDepth 10000
/-! Hear -/
theorem nodesUp_cons (x : Message) (l : List Message) : nodesUp (x :: l) = ((match l with | [] => true | y :: _ => decide (x.node < y.node)) && nodesUp l) := rfl
theorem nodesUp_lt : ∀ {l : List Message} {x : Message}, nodesUp (x :: l) = true → ∀ y ∈ l, x.node < y.node
  | [], x, _, y, hy => by cases hy
  | z :: l, x, h, y, hy => by
    rw [nodesUp_cons, Bool.and_eq_true] at h
    have h1 : x.node < z.node := by simpa using h.1
    rcases List.mem_cons.1 hy with rfl | hy
    · exact h1
    · have := nodesUp_lt h.2 y hy; omega
theorem nodesUp_tail {l : List Message} {x : Message} (h : nodesUp (x :: l) = true) : nodesUp l = true := by
  rw [nodesUp_cons, Bool.and_eq_true] at h; exact h.2
theorem nodesUp_len : ∀ (l : List Message) (a : Int), nodesUp l = true → (∀ m ∈ l, a ≤ m.node ∧ m.node < 10) → a ≤ 10 → (l.length : Int) ≤ 10 - a
  | [], a, _, _, h => by simp; omega
  | x :: l, a, h, hb, ha => by
    have hx := hb x (by simp)
    have h1 := nodesUp_lt h
    have := nodesUp_len l (x.node + 1) (nodesUp_tail h) (fun m hm => ⟨h1 m hm, (hb m (List.mem_cons_of_mem _ hm)).2⟩) (by omega)
    simp only [List.length_cons]; omega
theorem heardOK_mem {nd : Int} {l : List Message} (h : heardOK nd l = true) : nodesUp l = true ∧ ∀ m ∈ l, plainM m = true ∧ m.node ≠ nd := by
  simp only [heardOK, Bool.and_eq_true, List.all_eq_true, decide_eq_true_eq] at h
  exact ⟨h.2, h.1⟩
theorem validV_heard {v : Voter} (h : validV v = true) : heardOK v.node v.heard = true := by
  simp only [validV, Bool.and_eq_true] at h
  exact h.2
theorem validV_len {v : Voter} (h : validV v = true) : v.heard.length ≤ 10 := by
  obtain ⟨h1, h2⟩ := heardOK_mem (validV_heard h)
  have := nodesUp_len v.heard 0 h1 (fun m hm => plainM_node (h2 m hm).1) (by decide)
  omega
def placeM (l : List Message) (x : Int) : Nat := (l.takeWhile fun m => decide (m.node < x)).length
theorem placeM_is : ∀ (l : List Message) (x : Int), nodesUp l = true → isPlace l x (placeM l x)
  | [], x, _ => ⟨by simp [placeM], by simp, by simp⟩
  | m :: l, x, h => by
    obtain ⟨h1, h2, h3⟩ := placeM_is l x (nodesUp_tail h)
    by_cases hm : m.node < x
    · have e : placeM (m :: l) x = placeM l x + 1 := by simp [placeM, hm]
      rw [e]
      exact ⟨by simp; omega, fun y hy => by
        rw [List.take_succ_cons] at hy
        rcases List.mem_cons.1 hy with rfl | hy
        · exact hm
        · exact h2 y hy, by rw [List.drop_succ_cons]; exact h3⟩
    · have e : placeM (m :: l) x = 0 := by simp [placeM, hm]
      rw [e]
      refine ⟨by simp, by simp, fun y hy => ?_⟩
      rw [List.drop_zero] at hy
      rcases List.mem_cons.1 hy with rfl | hy
      · omega
      · have := nodesUp_lt h y hy; omega
def putM (l : List Message) (m : Message) : List Message :=
  if foundAt l m.node (placeM l m.node) = true then l.set (placeM l m.node) m else l.take (placeM l m.node) ++ m :: l.drop (placeM l m.node)
def oldM (l : List Message) (m : Message) : Bool := foundAt l m.node (placeM l m.node) && decide (m.seq ≤ ((l[placeM l m.node]?).getD m).seq)
noncomputable def hearS (v : Voter) (m : Message) : Voter × Int :=
  if validV v = true ∧ plainM m = true ∧ m.node ≠ v.node then
    if oldM v.heard m = true then (zeroV, 9) else (turnS v { v with heard := putM v.heard m }, 0)
  else (zeroV, 1)
theorem putM_len (l : List Message) (m : Message) : (putM l m).length ≤ l.length + 1 := by
  unfold putM
  split
  · simp
  · simp only [List.length_append, List.length_cons, List.length_take, List.length_drop]; omega
theorem putM_mem {l : List Message} {m y : Message} (h : y ∈ putM l m) : y = m ∨ y ∈ l := by
  unfold putM at h
  split at h
  · rcases List.mem_or_eq_of_mem_set h with h | h
    · exact .inr h
    · exact .inl h
  · rcases List.mem_append.1 h with h | h
    · exact .inr (List.mem_of_mem_take h)
    · rcases List.mem_cons.1 h with h | h
      · exact .inl h
      · exact .inr (List.mem_of_mem_drop h)
theorem okV.heard' {v : Voter} (h : okV v) (l : List Message) (hl : l.length ≤ 1000) (he : ∀ m ∈ l, smallT 1000000 m.trust ∧ m.votes.length ≤ 100000 ∧ m.accepts.length ≤ 100000) : okV { v with heard := l } := ⟨h.trust, h.votes, h.accepts, h.confirms, hl, he⟩
set_option maxHeartbeats 1000000 in
theorem f19_ok (v : Voter) (m : Message) (hv : okV v) (hms : smallT 1000000 m.trust ∧ m.votes.length ≤ 100000 ∧ m.accepts.length ≤ 100000) : C 19 [.agg (encV v), .agg (encM m)] (.tup [.agg (encV (hearS v m).1), I (hearS v m).2]) := by
  have h39 := f39_ok v
  have h102 := f102_ok m
  by_cases hval : validV v = true
  · have hlen := validV_len hval
    have h101 := f101_ok v { v with heard := putM v.heard m } (hv.heard' _ (Nat.le_trans (putM_len _ _) (by omega)) (fun y hy => by
      rcases putM_mem hy with rfl | hy
      · exact hms
      · exact hv.each y hy)) (show ∀ y ∈ v.accepts, y.ok = true from validV_accepts hval) ⟨Int.le_trans (by decide) (validV_seq hval).1, (validV_seq hval).2⟩
    have hpl := placeM_is v.heard m.node (heardOK_mem (validV_heard hval)).1
    have h103 := f103_ok v.heard m.node (by omega) _ hpl
    have h106 := f106_ok (v.heard.map encM) (by simp; omega)
    rw [hval] at h39
    generalize hR : hearS v m = R
    rw [hearS, hval] at hR
    obtain ⟨nd, sq, ⟨t, n, i⟩, vs, ac, cf, hd⟩ := v
    obtain ⟨mn, ms, ⟨mt, mnn, mi⟩, mv, ma⟩ := m
    generalize hT : turnS ⟨nd, sq, .mk t n i, vs, ac, cf, hd⟩ { (⟨nd, sq, .mk t n i, vs, ac, cf, hd⟩ : Voter) with heard := putM hd ⟨mn, ms, .mk mt mnn mi, mv, ma⟩ } = T at *
    obtain ⟨nd', sq', ⟨t', n', i'⟩, vs', ac', cf', hd'⟩ := T
    dsimp only at *
    clear hms hT
    have hpl1 := hpl.1
    generalize hL : placeM hd mn = lo at *
    have h107 := f107_ok hd lo ⟨mn, ms, .mk mt mnn mi, mv, ma⟩ (by omega) (by omega) (by omega)
    by_cases hf : foundAt hd mn lo = true
    · rw [hf] at h103
      obtain ⟨⟨yn, ys, ⟨yt, ynn, yi⟩, yv, ya⟩, hy⟩ : ∃ y, hd[lo]? = some y := by
        unfold foundAt at hf
        split at hf
        · rename_i y hy; exact ⟨y, hy⟩
        · cases hf
      have hlo : lo < hd.length := (List.getElem?_eq_some_iff.1 hy).1
      have hold : oldM hd ⟨mn, ms, .mk mt mnn mi, mv, ma⟩ = decide (ms ≤ ys) := by simp only [oldM, hL, hf, hy, Bool.true_and, Option.getD_some]
      have hput : putM hd ⟨mn, ms, .mk mt mnn mi, mv, ma⟩ = hd.set lo ⟨mn, ms, .mk mt mnn mi, mv, ma⟩ := by simp only [putM, hL, hf, if_true]
      rw [hold] at hR
      have es : (hd.map encM).set (lo : Int).toNat (splice (encM ⟨yn, ys, .mk yt ynn yi, yv, ya⟩) 0 (encM ⟨mn, ms, .mk mt mnn mi, mv, ma⟩)) = (putM hd ⟨mn, ms, .mk mt mnn mi, mv, ma⟩).map encM := by
        rw [hput, List.map_set]; rfl
      have h101' : C 101 [.agg (encV ⟨nd, sq, .mk t n i, vs, ac, cf, hd⟩), .agg [I nd, I sq, I t, encI n, encTL i, encCs vs, encCs ac, encCs cf, .sl none 7 ((hd.map encM).set (lo : Int).toNat (splice (encM ⟨yn, ys, .mk yt ynn yi, yv, ya⟩) 0 (encM ⟨mn, ms, .mk mt mnn mi, mv, ma⟩)))]] (.agg (encV ⟨nd', sq', .mk t' n' i', vs', ac', cf', hd'⟩)) := by
        rw [es]; exact h101
      refine fn_ok (G := G) tabOK hm pl19 Tryz.func19 rfl (by kernel_rfl) (by kernel_rfl) rfl rfl ?_
      repeat' (first | refine And.intro (by rfl) ?_ | refine litA ?_ | refine litB ?_ | refine litC ?_ | refine litD ?_ | refine And.intro trivial ?_ | refine And.intro (keptI (by repeat' (first | refine And.intro ?_ ?_ | exact True.intro | rfl | (simp; done)))) ?_ | refine ⟨_, _, h39, rfl, rfl, trivial, ?_⟩ | refine ⟨_, _, h102, rfl, rfl, trivial, ?_⟩ | refine ⟨_, _, h103, rfl, rfl, trivial, ?_⟩ | refine ⟨_, _, h106, rfl, rfl, trivial, ?_⟩ | (refine And.intro ?_ ?_ <;> intro h))
      · have e : R = (zeroV, 1) := by rw [← hR]; simp_all
        rw [e]; repeat' (first | refine And.intro ?_ ?_ | exact .inl rfl | rfl | exact .inr ⟨rfl, _, rfl⟩)
      · refine ⟨by omega, encM ⟨yn, ys, .mk yt ynn yi, yv, ya⟩, by simp [hy], ?_⟩
        repeat' (first | refine And.intro (by rfl) ?_ | refine litA ?_ | refine litB ?_ | refine litC ?_ | refine litD ?_ | refine And.intro trivial ?_ | refine And.intro (keptI (by repeat' (first | refine And.intro ?_ ?_ | exact True.intro | rfl | (simp; done)))) ?_ | refine ⟨_, _, h106, rfl, rfl, trivial, ?_⟩ | (refine And.intro ?_ ?_ <;> intro h))
        · have e : R = (zeroV, 9) := by rw [← hR]; simp_all
          rw [e]; repeat' (first | refine And.intro ?_ ?_ | exact .inl rfl | rfl | exact .inr ⟨rfl, _, rfl⟩)
        · refine ⟨by omega, by simp; omega, ?_⟩
          repeat (first | refine And.intro (by rfl) ?_ | refine litA ?_ | refine litB ?_ | refine litC ?_ | refine litD ?_ | refine And.intro trivial ?_ | refine And.intro (keptI (by repeat' (first | refine And.intro ?_ ?_ | exact True.intro | rfl | (simp; done)))) ?_)
          refine ⟨encM ⟨yn, ys, .mk yt ynn yi, yv, ya⟩, by simp [hy], rfl, rfl, rfl, ?_⟩
          repeat (first | refine And.intro (by rfl) ?_ | refine litA ?_ | refine litB ?_ | refine litC ?_ | refine litD ?_ | refine And.intro trivial ?_ | refine And.intro (keptI (by repeat' (first | refine And.intro ?_ ?_ | exact True.intro | rfl | (simp; done)))) ?_)
          refine And.intro (List.length_set).symm ?_
          refine ⟨_, _, h101', rfl, rfl, trivial, ?_⟩
          repeat (first | refine And.intro (by rfl) ?_ | refine litA ?_ | refine litB ?_ | refine litC ?_ | refine litD ?_ | refine And.intro trivial ?_ | refine And.intro (keptI (by repeat' (first | refine And.intro ?_ ?_ | exact True.intro | rfl | (simp; done)))) ?_)
          have e : R = (⟨nd', sq', .mk t' n' i', vs', ac', cf', hd'⟩, 0) := by rw [← hR]; simp_all
          rw [e]; repeat' (first | refine And.intro ?_ ?_ | exact .inl rfl | rfl | exact .inr ⟨rfl, _, rfl⟩)
      · have e : R = (zeroV, 1) := by rw [← hR]; simp_all
        rw [e]; repeat' (first | refine And.intro ?_ ?_ | exact .inl rfl | rfl | exact .inr ⟨rfl, _, rfl⟩)
    · have hf : foundAt hd mn lo = false := by simpa using hf
      rw [hf] at h103
      have hold : oldM hd ⟨mn, ms, .mk mt mnn mi, mv, ma⟩ = false := by simp only [oldM, hL, hf, Bool.false_and]
      have hput : putM hd ⟨mn, ms, .mk mt mnn mi, mv, ma⟩ = hd.take (lo : Int).toNat ++ ⟨mn, ms, .mk mt mnn mi, mv, ma⟩ :: hd.drop (lo : Int).toNat := by
        simp only [putM, hL, hf]; simp
      rw [hput] at h101
      refine fn_ok (G := G) tabOK hm pl19 Tryz.func19 rfl (by kernel_rfl) (by kernel_rfl) rfl rfl ?_
      repeat' (first | refine And.intro (by rfl) ?_ | refine litA ?_ | refine litB ?_ | refine litC ?_ | refine litD ?_ | refine And.intro trivial ?_ | refine And.intro (keptI (by repeat' (first | refine And.intro ?_ ?_ | exact True.intro | rfl | (simp; done)))) ?_ | refine ⟨_, _, h39, rfl, rfl, trivial, ?_⟩ | refine ⟨_, _, h102, rfl, rfl, trivial, ?_⟩ | refine ⟨_, _, h103, rfl, rfl, trivial, ?_⟩ | refine ⟨_, _, h106, rfl, rfl, trivial, ?_⟩ | (refine And.intro ?_ ?_ <;> intro h))
      · have e : R = (zeroV, 1) := by rw [← hR]; simp_all
        rw [e]; repeat' (first | refine And.intro ?_ ?_ | exact .inl rfl | rfl | exact .inr ⟨rfl, _, rfl⟩)
      · refine ⟨_, _, h107, rfl, rfl, ⟨trivial, trivial⟩, ?_⟩
        repeat (first | refine And.intro (by rfl) ?_ | refine litA ?_ | refine litB ?_ | refine litC ?_ | refine litD ?_ | refine And.intro trivial ?_ | refine And.intro (keptI (by repeat' (first | refine And.intro ?_ ?_ | exact True.intro | rfl | (simp; done)))) ?_)
        refine ⟨_, _, h101, rfl, rfl, trivial, ?_⟩
        repeat (first | refine And.intro (by rfl) ?_ | refine litA ?_ | refine litB ?_ | refine litC ?_ | refine litD ?_ | refine And.intro trivial ?_ | refine And.intro (keptI (by repeat' (first | refine And.intro ?_ ?_ | exact True.intro | rfl | (simp; done)))) ?_)
        have e : R = (⟨nd', sq', .mk t' n' i', vs', ac', cf', hd'⟩, 0) := by rw [← hR, hold]; simp_all
        rw [e]; repeat' (first | refine And.intro ?_ ?_ | exact .inl rfl | rfl | exact .inr ⟨rfl, _, rfl⟩)
      · have e : R = (zeroV, 1) := by rw [← hR]; simp_all
        rw [e]; repeat' (first | refine And.intro ?_ ?_ | exact .inl rfl | rfl | exact .inr ⟨rfl, _, rfl⟩)
  · have hval : validV v = false := by simpa using hval
    rw [hval] at h39
    have e : hearS v m = (zeroV, 1) := by rw [hearS, if_neg (by simp [hval])]
    rw [e]
    obtain ⟨nd, sq, ⟨t, n, i⟩, vs, ac, cf, hd⟩ := v
    obtain ⟨mn, ms, ⟨mt, mnn, mi⟩, mv, ma⟩ := m
    refine fn_ok (G := G) tabOK hm pl19 Tryz.func19 rfl (by kernel_rfl) (by kernel_rfl) rfl rfl ?_
    repeat' (first | refine And.intro (by rfl) ?_ | refine litA ?_ | refine litB ?_ | refine litC ?_ | refine litD ?_ | refine And.intro trivial ?_ | refine And.intro (keptI (by repeat' (first | refine And.intro ?_ ?_ | exact True.intro | rfl | (simp; done)))) ?_ | refine ⟨_, _, h39, rfl, rfl, trivial, ?_⟩ | (refine And.intro ?_ ?_ <;> intro h))
    all_goals repeat' (first | refine And.intro ?_ ?_ | exact .inl rfl | rfl | exact .inr ⟨rfl, _, rfl⟩)
set_option maxRecDepth 10000
/-! The plain law of what a voter does -/
theorem plainL_iff (l : List Claim) : plainL l = true ↔ (∀ x ∈ l, x.ok = true) ∧ l.Pairwise ltC := by
  induction l with
  | nil => simp [plainL]
  | cons x l ih =>
    rw [plainL_cons]
    simp only [Bool.and_eq_true, ih, List.forall_mem_cons, List.pairwise_cons]
    constructor
    · rintro ⟨⟨h1, h2⟩, h3, h4⟩
      refine ⟨⟨h1, h3⟩, ?_, h4⟩
      cases l with
      | nil => intro y hy; cases hy
      | cons z l =>
        have hz : ltC x z := (cmpC_lt _ _).1 (by simpa using h2)
        obtain ⟨h5, _⟩ := List.pairwise_cons.1 h4
        intro y hy
        rcases List.mem_cons.1 hy with rfl | hy
        · exact hz
        · have := h5 y hy; unfold ltC at *; omega
    · rintro ⟨⟨h1, h3⟩, h2, h4⟩
      refine ⟨⟨h1, ?_⟩, h3, h4⟩
      cases l with
      | nil => rfl
      | cons z l => exact decide_eq_true ((cmpC_lt _ _).2 (h2 z (by simp)))
theorem plain_sortC (l : List Claim) : plainL (sortC l) = true := (plainL_iff _).2 ⟨fun x hx => ((sortC_mem _ _).1 hx).1, sortC_sorted l⟩
theorem plain_unionC (a b : List Claim) : plainL (unionC a b) = true := plain_sortC _
theorem sortC_plain {l : List Claim} (h : plainL l = true) : sortC l = l := by
  obtain ⟨h1, h2⟩ := (plainL_iff l).1 h
  exact strict_ext (sortC_sorted l) h2 fun x => by rw [sortC_mem]; exact ⟨fun h => h.2, fun h => ⟨h1 x h, h⟩⟩
theorem sortC_congr {a b : List Claim} (h : ∀ x, x.ok = true → (x ∈ a ↔ x ∈ b)) : sortC a = sortC b := by
  refine strict_ext (sortC_sorted a) (sortC_sorted b) fun x => ?_
  rw [sortC_mem, sortC_mem]
  exact ⟨fun g => ⟨g.1, (h x g.1).1 g.2⟩, fun g => ⟨g.1, (h x g.1).2 g.2⟩⟩
/-- 'kept' -/
theorem kept_of {a b : List Claim} (hb : plainL b = true) (h : ∀ x ∈ a, x ∈ b) : unionC a b = b := by
  unfold unionC
  rw [sortC_congr (b := b) fun x _ => ⟨fun g => by
    rcases List.mem_append.1 g with g | g
    · exact h x g
    · exact g, fun g => List.mem_append.2 (.inr g)⟩]
  exact sortC_plain hb
theorem contra_self (x : Claim) : contra x x = false := by simp [contra]
theorem consL_iff (l : List Claim) : consL l = true ↔ ∀ x ∈ l, ∀ y ∈ l, contra x y = false := by
  induction l with
  | nil => simp [consL]
  | cons z l ih =>
    simp only [consL, Bool.and_eq_true, List.all_eq_true, ih, List.forall_mem_cons, Bool.not_eq_true']
    constructor
    · rintro ⟨h1, h2⟩
      exact ⟨⟨contra_self z, h1⟩, fun x hx => ⟨by rw [contra_comm]; exact h1 x hx, h2 x hx⟩⟩
    · rintro ⟨⟨_, h1⟩, h2⟩
      exact ⟨h1, fun x hx => (h2 x hx).2⟩
theorem consL_sub {a b : List Claim} (h : consL b = true) (hs : ∀ x ∈ a, x ∈ b) : consL a = true := by
  rw [consL_iff] at *
  exact fun x hx y hy => h x (hs x hx) y (hs y hy)
/-- A voter that is valid but for its number. -/
structure soundV (v : Voter) : Prop where
  ok : okV v
  node : nodeS v.node = true
  trust : validT v.trust = 0
  votes : plainL v.votes = true
  accepts : plainL v.accepts = true
  confirms : plainL v.confirms = true
  cvotes : consL v.votes = true
  caccepts : consL v.accepts = true
  sub : ∀ x ∈ v.confirms, x ∈ v.accepts
  heard : heardOK v.node v.heard = true
theorem validV_iff (v : Voter) : validV v = true ↔ nodeS v.node = true ∧ (1 ≤ v.seq ∧ v.seq ≤ 1000000) ∧ validT v.trust = 0 ∧ plainL v.votes = true ∧ plainL v.accepts = true ∧ plainL v.confirms = true ∧ consL v.votes = true ∧ consL v.accepts = true ∧ (∀ x ∈ v.confirms, x ∈ v.accepts) ∧ heardOK v.node v.heard = true := by
  simp only [validV, Bool.and_eq_true, decide_eq_true_eq, List.all_eq_true, and_assoc]
theorem soundV.valid {v : Voter} (h : soundV v) (h1 : 1 ≤ v.seq) (h2 : v.seq ≤ 1000000) : validV v = true := (validV_iff v).2 ⟨h.node, ⟨h1, h2⟩, h.trust, h.votes, h.accepts, h.confirms, h.cvotes, h.caccepts, h.sub, h.heard⟩
theorem sound_of_valid {v : Voter} (h : validV v = true) (hv : okV v) : soundV v := by
  obtain ⟨h1, _, h2, h3, h4, h5, h6, h7, h8, h9⟩ := (validV_iff v).1 h
  exact ⟨hv, h1, h2, h3, h4, h5, h6, h7, h8, h9⟩
theorem soundV.put {c : List Member} {v : Voter} (h : soundV v) {x : Claim} (hx : nextS c v = some x) : soundV (putA v x) ∧ ∀ y ∈ v.accepts, y ∈ (putA v x).accepts := by
  obtain ⟨h1, h2, _, h3⟩ := nextS_some hx
  have hsub : ∀ y ∈ v.accepts, y ∈ (putA v x).accepts := fun y hy => (unionC_mem _ _ _).2 ⟨plainL_ok h.accepts y hy, .inl hy⟩
  refine ⟨⟨h.ok.put x, h.node, h.trust, h.votes, plain_unionC _ _, h.confirms, h.cvotes, ?_, fun y hy => hsub y (h.sub y hy), h.heard⟩, hsub⟩
  have hc : consL (v.accepts ++ [x]) = true := by
    simp only [canS, Bool.and_eq_true] at h3
    exact h3.2.1
  exact consL_sub hc fun y hy => by
    obtain ⟨_, hy⟩ := (unionC_mem _ _ _).1 hy
    exact List.mem_append.2 hy
theorem settleA_sound (c : List Member) : ∀ (f : Nat) (v : Voter), soundV v → soundV (settleA c f v) ∧ ∀ y ∈ v.accepts, y ∈ (settleA c f v).accepts
  | 0, v, h => ⟨h, fun _ h => h⟩
  | f + 1, v, h => by
    rw [settleA]
    cases hn : nextS c v with
    | none => exact ⟨h, fun _ h => h⟩
    | some x =>
      obtain ⟨h1, h2⟩ := h.put hn
      obtain ⟨h3, h4⟩ := settleA_sound c f _ h1
      exact ⟨h3, fun y hy => h4 y (h2 y hy)⟩
theorem confsOf_sound (p : Claim → Bool) (ac : List Claim) (hok : ∀ x ∈ ac, x.ok = true) : ∀ (l cf : List Claim), (∀ x ∈ l, x ∈ ac) → plainL cf = true → (∀ x ∈ cf, x ∈ ac) →
    plainL (confsOf p cf l) = true ∧ (∀ x ∈ confsOf p cf l, x ∈ ac) ∧ ∀ x, x ∈ confsOf p cf l ↔ x ∈ cf ∨ x ∈ l ∧ p x = true
  | [], cf, _, h1, h2 => ⟨h1, h2, fun x => by simp [confsOf]⟩
  | y :: l, cf, hl, h1, h2 => by
    have hy := hl y (by simp)
    have hl' : ∀ x ∈ l, x ∈ ac := fun x hx => hl x (List.mem_cons_of_mem _ hx)
    unfold confsOf
    rw [List.foldl_cons]
    by_cases hp : p y = true
    · rw [if_pos hp]
      obtain ⟨h3, h4, h5⟩ := confsOf_sound p ac hok l (unionC cf [y]) hl' (plain_unionC _ _) fun x hx => by
        rcases ((unionC_mem _ _ _).1 hx).2 with hx | hx
        · exact h2 x hx
        · rw [List.mem_singleton.1 hx]; exact hy
      refine ⟨h3, h4, fun x => (h5 x).trans ?_⟩
      rw [unionC_mem, List.mem_singleton, List.mem_cons]
      constructor
      · rintro (⟨_, h | rfl⟩ | h)
        · exact .inl h
        · exact .inr ⟨.inl rfl, hp⟩
        · exact .inr ⟨.inr h.1, h.2⟩
      · rintro (h | ⟨rfl | h, h'⟩)
        · exact .inl ⟨hok x (h2 x h), .inl h⟩
        · exact .inl ⟨hok x hy, .inr rfl⟩
        · exact .inr ⟨h, h'⟩
    · rw [if_neg hp]
      obtain ⟨h3, h4, h5⟩ := confsOf_sound p ac hok l cf hl' h1 h2
      refine ⟨h3, h4, fun x => (h5 x).trans ?_⟩
      rw [List.mem_cons]
      constructor
      · rintro (h | h)
        · exact .inl h
        · exact .inr ⟨.inr h.1, h.2⟩
      · rintro (h | ⟨rfl | h, h'⟩)
        · exact .inl h
        · exact absurd h' hp
        · exact .inr ⟨h, h'⟩
theorem settleS_sound {v : Voter} (h : soundV v) : soundV (settleS v) ∧ (∀ y ∈ v.accepts, y ∈ (settleS v).accepts) ∧ ∀ y ∈ v.confirms, y ∈ (settleS v).confirms := by
  obtain ⟨h1, h2⟩ := settleA_sound (viewS v.node v.trust v.heard) 129 v h
  have hcf : (settleA (viewS v.node v.trust v.heard) 129 v).confirms = v.confirms := by rw [settleA_shape]
  have hok := settleS_okV h.ok
  obtain ⟨h3, h4, h5⟩ := confsOf_sound (confS (viewS v.node v.trust v.heard) (settleA (viewS v.node v.trust v.heard) 129 v)) _ (plainL_ok h1.accepts) _ (settleA (viewS v.node v.trust v.heard) 129 v).confirms (fun x hx => hx) h1.confirms h1.sub
  refine ⟨⟨hok, h1.node, h1.trust, h1.votes, h1.accepts, h3, h1.cvotes, h1.caccepts, h4, h1.heard⟩, h2, fun y hy => ?_⟩
  exact (h5 y).2 (.inl (by rw [hcf]; exact hy))
theorem turnS_sound {vb v : Voter} (h : soundV v) : soundV (turnS vb v) ∧ (∀ y ∈ v.accepts, y ∈ (turnS vb v).accepts) ∧ (∀ y ∈ v.confirms, y ∈ (turnS vb v).confirms) ∧ (turnS vb v).votes = v.votes ∧ v.seq ≤ (turnS vb v).seq ∧ (turnS vb v).seq ≤ v.seq + 1 := by
  obtain ⟨h1, h2, h3⟩ := settleS_sound h
  have e := settleS_shape v
  have e1 : (settleS v).votes = v.votes := by rw [e]
  have e2 : (settleS v).seq = v.seq := by rw [e]
  unfold turnS
  split
  · exact ⟨⟨⟨h1.ok.trust, h1.ok.votes, h1.ok.accepts, h1.ok.confirms, h1.ok.heard, h1.ok.each⟩, h1.node, h1.trust, h1.votes, h1.accepts, h1.confirms, h1.cvotes, h1.caccepts, h1.sub, h1.heard⟩, h2, h3, e1, by dsimp only; omega, by dsimp only; omega⟩
  · exact ⟨h1, h2, h3, e1, by omega, by omega⟩
set_option maxRecDepth 10000
structure stepOK (v w : Voter) : Prop where
  sound : soundV w
  ge : v.seq ≤ w.seq
  le : w.seq ≤ v.seq + 1
  votes : ∀ x ∈ v.votes, x ∈ w.votes
  accepts : ∀ x ∈ v.accepts, x ∈ w.accepts
  confirms : ∀ x ∈ v.confirms, x ∈ w.confirms
  node : w.node = v.node
theorem stepOK.refl {v : Voter} (h : soundV v) : stepOK v v := ⟨h, Int.le_refl _, by omega, fun _ h => h, fun _ h => h, fun _ h => h, rfl⟩
theorem turnS_node (vb v : Voter) : (turnS vb v).node = v.node := by
  have e := settleS_shape v
  have : (settleS v).node = v.node := by rw [e]
  unfold turnS
  split <;> exact this
theorem stepOK_turn {v v' : Voter} (h : soundV v') (hs : v'.seq = v.seq) (hv : ∀ x ∈ v.votes, x ∈ v'.votes) (ha : v'.accepts = v.accepts) (hc : v'.confirms = v.confirms) (hn : v'.node = v.node) : stepOK v (turnS v v') := by
  obtain ⟨h1, h2, h3, h4, h5, h6⟩ := turnS_sound (vb := v) h
  exact ⟨h1, by omega, by omega, fun x hx => by rw [h4]; exact hv x hx, fun x hx => h2 x (by rw [ha]; exact hx), fun x hx => h3 x (by rw [hc]; exact hx), by rw [turnS_node]; exact hn⟩
theorem voteS_step {v : Voter} {x : Claim} (hv : okV v) (h : (voteS v x).2 = 0) : stepOK v (voteS v x).1 := by
  unfold voteS at h ⊢
  split at h
  · rename_i hval
    rw [if_pos hval]
    have hs := sound_of_valid hval.1 hv
    split at h
    · cases h
    · rename_i hc
      rw [if_neg hc]
      split at h
      · rename_i hx
        rw [if_pos hx]
        exact stepOK.refl hs
      · rename_i hx
        rw [if_neg hx]
        refine stepOK_turn ⟨hv.votes' _ (Nat.le_trans (unionC_len _ _) (by decide)), hs.node, hs.trust, plain_unionC _ _, hs.accepts, hs.confirms, ?_, hs.caccepts, hs.sub, hs.heard⟩ rfl (fun y hy => (unionC_mem _ _ _).2 ⟨plainL_ok hs.votes y hy, .inl hy⟩) rfl rfl rfl
        rw [consL_iff]
        have h1 := (consL_iff _).1 hs.cvotes
        have h2 : ∀ y ∈ v.votes, contra x y = false := fun y hy => by
          cases hcy : contra x y
          · rfl
          · exact absurd (.inl (List.any_eq_true.2 ⟨y, hy, hcy⟩)) hc
        intro a ha b hb
        rcases ((unionC_mem _ _ _).1 ha).2 with ha | ha <;> rcases ((unionC_mem _ _ _).1 hb).2 with hb | hb
        · exact h1 a ha b hb
        · rw [List.mem_singleton.1 hb, contra_comm]; exact h2 a ha
        · rw [List.mem_singleton.1 ha]; exact h2 b hb
        · rw [List.mem_singleton.1 ha, List.mem_singleton.1 hb]; exact contra_self x
  · cases h
theorem declareS_step {v : Voter} {t : Trust} (hv : okV v) (ht : smallT 1000000 t) (h : (declareS v t).2 = 0) : stepOK v (declareS v t).1 := by
  unfold declareS at h ⊢
  split at h
  · rename_i hval
    rw [if_pos hval]
    have hs := sound_of_valid hval hv
    split at h
    · rename_i h0; exact absurd h h0
    · rename_i h0
      rw [if_neg h0]
      split at h
      · rename_i he
        rw [if_pos he]
        exact stepOK.refl hs
      · rename_i he
        rw [if_neg he]
        exact stepOK_turn ⟨hv.trust' _ ht, hs.node, by simpa using h0, hs.votes, hs.accepts, hs.confirms, hs.cvotes, hs.caccepts, hs.sub, hs.heard⟩ rfl (fun y hy => hy) rfl rfl rfl
  · cases h
theorem nodesUp_iff (l : List Message) : nodesUp l = true ↔ l.Pairwise fun a b => a.node < b.node := by
  induction l with
  | nil => simp [nodesUp]
  | cons x l ih =>
    constructor
    · intro h
      exact List.pairwise_cons.2 ⟨nodesUp_lt h, ih.1 (nodesUp_tail h)⟩
    · intro h
      obtain ⟨h1, h2⟩ := List.pairwise_cons.1 h
      rw [nodesUp_cons, ih.2 h2, Bool.and_true]
      cases l with
      | nil => rfl
      | cons z l => exact decide_eq_true (h1 z (by simp))
theorem putM_up {l : List Message} {m : Message} (h : nodesUp l = true) : nodesUp (putM l m) = true := by
  obtain ⟨p1, p2, p3⟩ := placeM_is l m.node h
  rw [nodesUp_iff] at h ⊢
  unfold putM
  have hsplit : l = l.take (placeM l m.node) ++ l.drop (placeM l m.node) := (List.take_append_drop _ _).symm
  generalize placeM l m.node = lo at *
  rw [hsplit] at h
  obtain ⟨h1, h2, h3⟩ := List.pairwise_append.1 h
  split
  · rename_i hf
    obtain ⟨y, hy, hyn⟩ : ∃ y, l[lo]? = some y ∧ y.node = m.node := by
      unfold foundAt at hf
      split at hf
      · rename_i y hy; exact ⟨y, hy, by simpa using hf⟩
      · cases hf
    have hlo : lo < l.length := (List.getElem?_eq_some_iff.1 hy).1
    have hd : l.drop lo = y :: l.drop (lo + 1) := by
      rw [List.drop_eq_getElem_cons hlo]
      rw [List.getElem?_eq_getElem hlo] at hy
      cases hy; rfl
    have hset : l.set lo m = l.take lo ++ m :: l.drop (lo + 1) := by rw [List.set_eq_take_append_cons_drop, if_pos hlo]
    rw [hset]
    rw [hd] at h2 h3
    obtain ⟨h4, h5⟩ := List.pairwise_cons.1 h2
    refine List.pairwise_append.2 ⟨h1, List.pairwise_cons.2 ⟨fun z hz => ?_, h5⟩, fun a ha b hb => ?_⟩
    · rw [← hyn]; exact h4 z hz
    · rcases List.mem_cons.1 hb with rfl | hb
      · exact p2 a ha
      · exact h3 a ha b (List.mem_cons_of_mem _ hb)
  · rename_i hf
    refine List.pairwise_append.2 ⟨h1, List.pairwise_cons.2 ⟨fun z hz => ?_, h2⟩, fun a ha b hb => ?_⟩
    · cases hd : l.drop lo with
      | nil => rw [hd] at hz; cases hz
      | cons y r =>
        have hy : l[lo]? = some y := by
          have := congrArg (fun q => q[0]?) hd
          simpa using this
        have hyn : y.node ≠ m.node := by
          intro he
          apply hf
          unfold foundAt
          rw [hy]
          exact decide_eq_true he
        have h6 := p3 y (by rw [hd]; simp)
        rw [hd] at hz h2
        obtain ⟨h4, _⟩ := List.pairwise_cons.1 h2
        rcases List.mem_cons.1 hz with rfl | hz
        · omega
        · have := h4 z hz; omega
    · rcases List.mem_cons.1 hb with rfl | hb
      · exact p2 a ha
      · exact h3 a ha b hb
theorem hearS_step {v : Voter} {m : Message} (hv : okV v) (hms : smallT 1000000 m.trust ∧ m.votes.length ≤ 100000 ∧ m.accepts.length ≤ 100000) (h : (hearS v m).2 = 0) : stepOK v (hearS v m).1 := by
  unfold hearS at h ⊢
  split at h
  · rename_i hval
    rw [if_pos hval]
    obtain ⟨hval, hpm, hne⟩ := hval
    have hs := sound_of_valid hval hv
    have hlen := validV_len hval
    split at h
    · cases h
    · rename_i ho
      rw [if_neg ho]
      obtain ⟨u1, u2⟩ := heardOK_mem hs.heard
      refine stepOK_turn ⟨hv.heard' _ (Nat.le_trans (putM_len _ _) (by omega)) (fun y hy => ?_), hs.node, hs.trust, hs.votes, hs.accepts, hs.confirms, hs.cvotes, hs.caccepts, hs.sub, ?_⟩ rfl (fun y hy => hy) rfl rfl rfl
      · rcases putM_mem hy with rfl | hy
        · exact hms
        · exact hv.each y hy
      · simp only [heardOK, Bool.and_eq_true, List.all_eq_true, decide_eq_true_eq]
        refine ⟨fun y hy => ?_, putM_up u1⟩
        rcases putM_mem hy with rfl | hy
        · exact ⟨hpm, hne⟩
        · exact u2 y hy
  · cases h
/-! make.Trust, make.Message -/
def trustT (n : Nat) (t : Tape) : Trust × Tape :=
  if validT (trust2 n t).1 ≠ 0 then (.mk 1 [((trust2 n t).2.n n).1] [], ((trust2 n t).2.n n).2) else trust2 n t
theorem f15_ok (t : Tape) (n : Nat) (h1 : 0 < n) (h2 : n ≤ 10) : C 15 [.mp (encTp t), I n, I 2] (.agg (encT (trustT n t).1)) [(0, .box (encTp (trustT n t).2) false)] := by
  have := f15_of t (trust2 n t).2 n (by omega) (by omega) (trust2 n t).1 (f92b_ok t n h1 h2)
  unfold trustT
  split at this
  · rename_i h; rw [if_pos h]; exact this
  · rename_i h; rw [if_neg h]; exact this
theorem trustT_small (n : Nat) (t : Tape) (h1 : 0 < n) (h2 : n ≤ 10) : smallT 1000000 (trustT n t).1 := by
  unfold trustT
  split
  · exact ⟨by simp, by simp, trivial⟩
  · exact smallT_mono (by decide) _ (trust2_small n t h1 h2)
theorem validT_one (k : Int) (h : 0 ≤ k) (h2 : k < 10) : validT (.mk 1 [k] []) = 0 := by
  have h' : k = 0 ∨ k = 1 ∨ k = 2 ∨ k = 3 ∨ k = 4 ∨ k = 5 ∨ k = 6 ∨ k = 7 ∨ k = 8 ∨ k = 9 := by omega
  rcases h' with rfl | rfl | rfl | rfl | rfl | rfl | rfl | rfl | rfl | rfl <;> decide +kernel
theorem trustT_valid (n : Nat) (t : Tape) (h1 : 0 < n) (h2 : n ≤ 10) : validT (trustT n t).1 = 0 := by
  have h := (trust2 n t).2.n_range (n := n) (by omega)
  unfold trustT
  split
  · exact validT_one _ h.1 (by omega)
  · rename_i h; simpa using h
def msgT (n : Nat) (t : Tape) : Message × Tape :=
  let q := trustT n ((t.n n).2.n 5).2
  let a := claimsT (q.2.n 4).2 (q.2.n 4).1.toNat
  let b := claimsT (a.2.n 3).2 (a.2.n 3).1.toNat
  (⟨(t.n n).1, 1 + ((t.n n).2.n 5).1, q.1, sortC a.1, sortC b.1⟩, b.2)
theorem f31_ok (t : Tape) (n : Nat) (h1 : 0 < n) (h2 : n ≤ 10) : C 31 [.mp (encTp t), I n] (.agg (encM (msgT n t).1)) [(0, .box (encTp (msgT n t).2) false)] := by
  have h15 := f15_ok ((t.n n).2.n 5).2 n h1 h2
  unfold msgT
  generalize trustT n ((t.n n).2.n 5).2 = q at *
  exact f31_of t n (by omega) (by omega) q.1 q.2 h15
theorem msgT_small (n : Nat) (t : Tape) (h1 : 0 < n) (h2 : n ≤ 10) : smallT 1000000 (msgT n t).1.trust ∧ (msgT n t).1.votes.length ≤ 100000 ∧ (msgT n t).1.accepts.length ≤ 100000 := by
  have h := trustT_small n ((t.n n).2.n 5).2 h1 h2
  unfold msgT
  generalize trustT n ((t.n n).2.n 5).2 = q at *
  exact ⟨h, Nat.le_trans (sortC_len _) (by decide), Nat.le_trans (sortC_len _) (by decide)⟩
set_option maxRecDepth 10000
/-! awake -/
def awT : Trust := .mk 1 [3] []
def aw0 : Voter := ⟨3, 1, awT, [], [], [], []⟩
def aw1 : Voter := ⟨3, 1, awT, [⟨1, 2⟩], [], [], []⟩
def aw2 : Voter := ⟨3, 2, awT, [⟨1, 2⟩], [⟨1, 2⟩], [⟨1, 2⟩], []⟩
theorem aw_settle : settleS aw1 = { aw2 with seq := 1 } := by
  rw [settleS_shape]
  have h1 : (settleS aw1).accepts = [⟨1, 2⟩] := by decide +kernel
  have h2 : (settleS aw1).confirms = [⟨1, 2⟩] := by decide +kernel
  rw [h1, h2]; rfl
theorem aw_vote : voteS aw0 ⟨1, 2⟩ = (aw2, 0) := by
  have h1 : validV aw0 = true := by decide +kernel
  have h2 : unionC [] [⟨1, 2⟩] = [(⟨1, 2⟩ : Claim)] := by decide +kernel
  unfold voteS
  rw [if_pos ⟨h1, rfl⟩, if_neg (by simp [aw0]), if_neg (by simp [aw0])]
  have h3 : ({ aw0 with votes := unionC aw0.votes [⟨1, 2⟩] } : Voter) = aw1 := by show (⟨3, 1, awT, unionC [] [⟨1, 2⟩], [], [], []⟩ : Voter) = aw1; rw [h2]; rfl
  rw [h3]
  unfold turnS
  rw [aw_settle, if_pos (.inr (.inl (by simp [aw0, aw2])))]
  rfl
theorem aw_again : voteS aw2 ⟨1, 3⟩ = (zeroV, 14) := by
  have h1 : validV aw2 = true := by decide +kernel
  unfold voteS
  rw [if_pos ⟨h1, rfl⟩, if_pos (.inl (by decide +kernel))]
theorem aw_ok0 : okV aw0 := ⟨⟨by simp, by simp, trivial⟩, by simp [aw0], by simp [aw0], by simp [aw0], by simp [aw0], by simp [aw0]⟩
theorem aw_ok2 : okV aw2 := ⟨⟨by simp, by simp, trivial⟩, by simp [aw2], by simp [aw2], by simp [aw2], by simp [aw2], by simp [aw2]⟩
theorem f21_ok : C 21 [] (bval true) := by
  have h14 : C 14 [I 3, .agg [I 1, encI [3], .nils]] (.tup [.agg (encV aw0), I 0]) := by
    have := f14_ok 3 awT ⟨by simp, by simp, trivial⟩
    have e : startV 3 awT = (aw0, 0) := by unfold startV; rw [if_neg (by decide), if_neg (by decide +kernel)]; rfl
    rw [e] at this
    exact CallOK.weak (args' := [I 3, .agg [I 1, encI [3], .nils]]) this ⟨.inl rfl, ⟨.inl rfl, .inl rfl, .inr ⟨rfl, _, rfl⟩, trivial⟩, trivial⟩
  have h16 := f16_ok aw0 ⟨1, 2⟩ aw_ok0
  have h16b := f16_ok aw2 ⟨1, 3⟩ aw_ok2
  have h42 := f42_ok aw2 aw_ok2.smallV
  rw [aw_vote] at h16
  rw [aw_again] at h16b
  refine fn_ok (G := G) tabOK hm D0 Tryz.func21 rfl (by kernel_rfl) (by kernel_rfl) rfl rfl ?_
  repeat' (first | refine And.intro (by rfl) ?_ | refine litA ?_ | refine litB ?_ | refine litC ?_ | refine litD ?_ | refine And.intro trivial ?_ | refine And.intro (keptI (by repeat' (first | refine And.intro ?_ ?_ | exact True.intro | rfl | (simp; done)))) ?_ | refine ⟨_, _, h14, rfl, rfl, trivial, ?_⟩ | refine ⟨_, _, h16, rfl, rfl, trivial, ?_⟩ | refine ⟨_, _, h16b, rfl, rfl, trivial, ?_⟩ | refine ⟨_, _, h42, rfl, rfl, trivial, ?_⟩ | (refine And.intro ?_ ?_ <;> intro h))
  repeat' (first | refine And.intro ?_ ?_ | exact .inl rfl | rfl | exact .inr ⟨rfl, _, rfl⟩)
/-! played -/
noncomputable def stepS (n : Nat) (t : Tape) (v : Voter) (i : Nat) : (Voter × Int) × Tape :=
  if (t.n 5).1 = 0 then (voteS v (claimT (t.n 5).2).1, (claimT (t.n 5).2).2)
  else if (t.n 5).1 = 1 then (declareS v (trustT n (t.n 5).2).1, (trustT n (t.n 5).2).2)
  else (hearS v { (msgT n (t.n 5).2).1 with seq := (msgT n (t.n 5).2).1.seq + 5 * i }, (msgT n (t.n 5).2).2)
theorem stepS_ok (n : Nat) (h1 : 0 < n) (h2 : n ≤ 10) (t : Tape) (v : Voter) (i : Nat) (hv : okV v) (h : (stepS n t v i).1.2 = 0) : stepOK v (stepS n t v i).1.1 := by
  unfold stepS at h ⊢
  split at h
  · rename_i hc; rw [if_pos hc]; exact voteS_step hv h
  · rename_i hc; rw [if_neg hc]
    have ht := trustT_small n (t.n 5).2 h1 h2
    have hm' := msgT_small n (t.n 5).2 h1 h2
    generalize trustT n (t.n 5).2 = q at *
    generalize msgT n (t.n 5).2 = r at *
    split at h
    · rename_i hc; rw [if_pos hc]; exact declareS_step hv ht h
    · rename_i hc; rw [if_neg hc]; exact hearS_step hv hm' h
noncomputable def playS (n : Nat) (t : Tape) : Nat → Voter × Tape
  | 0 => ((startV (t.n n).1 (trustT n (t.n n).2).1).1, (trustT n (t.n n).2).2)
  | i + 1 => if (stepS n (playS n t i).2 (playS n t i).1 (i + 1)).1.2 = 0 then ((stepS n (playS n t i).2 (playS n t i).1 (i + 1)).1.1, (stepS n (playS n t i).2 (playS n t i).1 (i + 1)).2) else ((playS n t i).1, (stepS n (playS n t i).2 (playS n t i).1 (i + 1)).2)
theorem start_ok (n : Nat) (h1 : 0 < n) (h2 : n ≤ 10) (t : Tape) : startV (t.n n).1 (trustT n (t.n n).2).1 = (⟨(t.n n).1, 1, (trustT n (t.n n).2).1, [], [], [], []⟩, 0) := by
  have hr := t.n_range (n := n) (by omega)
  unfold startV
  rw [if_neg (by simp [nodeS]; omega), if_neg (by simpa using trustT_valid n _ h1 h2)]
theorem playS_ok (n : Nat) (h1 : 0 < n) (h2 : n ≤ 10) (t : Tape) : ∀ i, soundV (playS n t i).1 ∧ 1 ≤ (playS n t i).1.seq ∧ (playS n t i).1.seq ≤ 1 + i ∧ 0 ≤ (playS n t i).1.node ∧ (playS n t i).1.node < n
  | 0 => by
    have hr := t.n_range (n := n) (by omega)
    rw [playS, start_ok n h1 h2]
    refine ⟨⟨⟨trustT_small n _ h1 h2, by simp, by simp, by simp, by simp, by simp⟩, by simp [nodeS]; omega, trustT_valid n _ h1 h2, rfl, rfl, rfl, rfl, rfl, by simp, rfl⟩, by simp, by simp, hr.1, hr.2⟩
  | i + 1 => by
    obtain ⟨k1, k2, k3, k4, k5⟩ := playS_ok n h1 h2 t i
    rw [playS]
    split
    · rename_i h
      have hs := stepS_ok n h1 h2 _ _ _ k1.ok h
      exact ⟨hs.sound, Int.le_trans k2 hs.ge, by have := hs.le; dsimp only; omega, by dsimp only; rw [hs.node]; exact k4, by dsimp only; rw [hs.node]; exact k5⟩
    · exact ⟨k1, k2, by dsimp only; omega, k4, k5⟩
set_option maxRecDepth 10000
theorem step_checks {v w : Voter} (hv : okV v) (h : stepOK v w) (h1 : 1 ≤ w.seq) (h2 : w.seq ≤ 1000000) :
    C 40 [.agg (encV w)] (bval true) ∧ C 39 [.agg (encV w)] (bval true) ∧ C 108 [encCs v.votes, encCs w.votes] (bval true) ∧ C 108 [encCs v.accepts, encCs w.accepts] (bval true) ∧ C 108 [encCs v.confirms, encCs w.confirms] (bval true) ∧ C 109 [encCs w.accepts] (bval true) := by
  have hval := h.sound.valid h1 h2
  have a := f40_ok w
  have b := f39_ok w
  have hw := h.sound.ok
  have q : ∀ x y : List Claim, x.length ≤ 100000 → y.length ≤ 100000 → unionC x y = y → C 108 [encCs x, encCs y] (bval true) := fun x y hx hy e => by
    have := f108_ok x y (by omega)
    rw [decide_eq_true e] at this
    exact this
  have d := f109_ok w.accepts
  rw [hval] at a b
  rw [h.sound.caccepts] at d
  exact ⟨a, b, q _ _ hv.votes hw.votes (kept_of h.sound.votes h.votes), q _ _ hv.accepts hw.accepts (kept_of h.sound.accepts h.accepts), q _ _ hv.confirms hw.confirms (kept_of h.sound.confirms h.confirms), d⟩
theorem msgT_seq (n : Nat) (t : Tape) : 1 ≤ (msgT n t).1.seq ∧ (msgT n t).1.seq ≤ 5 := by
  have h := (t.n n).2.n_range (n := 5) (by decide)
  unfold msgT
  generalize trustT n ((t.n n).2.n 5).2 = q
  dsimp only
  omega
set_option maxHeartbeats 4000000 in
theorem f22_ok (t : Tape) (n m : Nat) (h1 : 0 < n) (h2 : n ≤ 10) (hml : m ≤ 1000) : C 22 [.mp (encTp t), I n, I m] (.tup [.agg (encV (playS n t m).1), bval true]) [(0, .box (encTp (playS n t m).2) false)] := by
  have h17 := f17_ok t n (by omega) (by omega)
  have h15 := f15_ok (t.n n).2 n h1 h2
  have h14 := f14_ok (t.n n).1 (trustT n (t.n n).2).1 (trustT_small n _ h1 h2)
  rw [start_ok n h1 h2] at h14
  have h0 : playS n t 0 = (⟨(t.n n).1, 1, (trustT n (t.n n).2).1, [], [], [], []⟩, (trustT n (t.n n).2).2) := by rw [playS, start_ok n h1 h2]
  have hP := playS_ok n h1 h2 t
  have hS : ∀ i, playS n t (i + 1) = if (stepS n (playS n t i).2 (playS n t i).1 (i + 1)).1.2 = 0 then ((stepS n (playS n t i).2 (playS n t i).1 (i + 1)).1.1, (stepS n (playS n t i).2 (playS n t i).1 (i + 1)).2) else ((playS n t i).1, (stepS n (playS n t i).2 (playS n t i).1 (i + 1)).2) := fun i => rfl
  generalize hR : playS n t m = R
  generalize playS n t = P at *
  generalize trustT n (t.n n).2 = T0 at *
  obtain ⟨⟨tt, tn, ti⟩, tp0⟩ := T0
  dsimp only at h14 h0
  refine fn_ok (G := G) tabOK hm pl22 Tryz.func22 rfl (by kernel_rfl) (by kernel_rfl) rfl rfl ?_
  repeat (first | refine And.intro (by rfl) ?_ | refine litA ?_ | refine litB ?_ | refine litC ?_ | refine litD ?_ | refine And.intro trivial ?_ | refine And.intro (keptI (by repeat' (first | refine And.intro ?_ ?_ | exact True.intro | rfl | (simp; done)))) ?_)
  refine ⟨_, _, h17, rfl, rfl, ⟨⟨rfl, rfl⟩, trivial⟩, ?_⟩
  repeat (first | refine And.intro (by rfl) ?_ | refine litA ?_ | refine litB ?_ | refine litC ?_ | refine litD ?_ | refine And.intro trivial ?_ | refine And.intro (keptI (by repeat' (first | refine And.intro ?_ ?_ | exact True.intro | rfl | (simp; done)))) ?_)
  refine ⟨_, _, h15, rfl, rfl, ⟨⟨rfl, rfl⟩, trivial⟩, ?_⟩
  repeat (first | refine And.intro (by rfl) ?_ | refine litA ?_ | refine litB ?_ | refine litC ?_ | refine litD ?_ | refine And.intro trivial ?_ | refine And.intro (keptI (by repeat' (first | refine And.intro ?_ ?_ | exact True.intro | rfl | (simp; done)))) ?_)
  refine ⟨_, _, h14, rfl, rfl, trivial, ?_⟩
  repeat (first | refine And.intro (by rfl) ?_ | refine litA ?_ | refine litB ?_ | refine litC ?_ | refine litD ?_ | refine And.intro trivial ?_ | refine And.intro (keptI (by repeat' (first | refine And.intro ?_ ?_ | exact True.intro | rfl | (simp; done)))) ?_)
  refine loop_ok (G := G) tabOK hm pl22 (α := {q : Nat × (Voter × Tape) // q.1 ≤ m ∧ P q.1 = q.2}) (fun q => ⟨119, [(10, I (q.1.1 + 1 : Nat)), (0, .loc 1500 0), (1, I n), (2, I m), (6, .loc 7000 0), (8, .loc 9000 0)], [(9000, .box (encV q.1.2.1) false), (7000, .box [I 0, I 0, I 0, .nils, .nils, .nils, .nils, .nils, .nils] false), (1500, .box (encTp q.1.2.2) false)]⟩) (fun q => m - q.1.1) (by kernel_rfl) ⟨(0, _), by omega, h0⟩ ?_ ?_
  · repeat' (first | refine fitE_ls rfl rfl ?_ | refine fitC_ls rfl ?_ | refine And.intro ?_ ?_ | exact True.intro | rfl | exact ⟨_, _, rfl, rfl⟩ | exact ⟨_, _, rfl⟩ | decide | (simp [St.get, St.obj, look, lookD, unI, List.map_take]; done))
  clear h14 h15 h17 h0 tt tn ti tp0
  rintro ⟨⟨k, ⟨⟨nd, sq, ⟨tt, tn, ti⟩, vs, ac, cf, hd⟩, tp⟩⟩, hk, hx⟩
  dsimp only at hk hx
  have hk1 := hP k
  have hS1 := hS k
  rw [hx] at hk1 hS1
  dsimp only at hk1 hS1
  repeat (first | refine And.intro (by rfl) ?_ | refine litA ?_ | refine litB ?_ | refine litC ?_ | refine litD ?_ | refine And.intro trivial ?_ | refine And.intro (keptI (by repeat' (first | refine And.intro ?_ ?_ | exact True.intro | rfl | (simp; done)))) ?_)
  refine And.intro (fun h => ?_) (fun h => ?_)
  rotate_left
  · have hkm : k = m := by simp at h; omega
    subst hkm
    repeat (first | refine And.intro (by rfl) ?_ | refine litA ?_ | refine litB ?_ | refine litC ?_ | refine litD ?_ | refine And.intro trivial ?_ | refine And.intro (keptI (by repeat' (first | refine And.intro ?_ ?_ | exact True.intro | rfl | (simp; done)))) ?_)
    rw [hR] at hx
    subst hx
    repeat' (first | refine And.intro ?_ ?_ | exact .inl rfl | rfl | exact .inr ⟨rfl, _, rfl⟩)
  have hkm : k < m := by simp at h; omega
  have e : IntKind.i64.wrap (((k + 1 : Nat) : Int) + 1) = ((k + 1 + 1 : Nat) : Int) := by rw [wrap_id] <;> omega
  have h17 := f17_ok tp 5 (by decide) (by decide)
  have hok := hk1.1.ok
  unfold stepS at hS1
  generalize tp.n 5 = d at *
  obtain ⟨dx, dt⟩ := d
  dsimp only at hS1 h17
  repeat (first | refine And.intro (by rfl) ?_ | refine litA ?_ | refine litB ?_ | refine litC ?_ | refine litD ?_ | refine And.intro trivial ?_ | refine And.intro (keptI (by repeat' (first | refine And.intro ?_ ?_ | exact True.intro | rfl | (simp; done)))) ?_)
  refine ⟨_, _, h17, rfl, rfl, ⟨⟨rfl, rfl⟩, trivial⟩, ?_⟩
  repeat' (first | refine And.intro (by rfl) ?_ | refine litA ?_ | refine litB ?_ | refine litC ?_ | refine litD ?_ | refine And.intro trivial ?_ | refine And.intro (keptI (by repeat' (first | refine And.intro ?_ ?_ | exact True.intro | rfl | (simp; done)))) ?_ | (refine And.intro ?_ ?_ <;> intro h))
  · have hd0 : dx = 0 := by simpa using h
    rw [if_pos hd0] at hS1
    have h44 := f44_ok dt
    generalize claimT dt = c at *
    have h16 := f16_ok ⟨nd, sq, .mk tt tn ti, vs, ac, cf, hd⟩ c.1 hok
    have hst : _ → _ := voteS_step (x := c.1) hok
    generalize voteS ⟨nd, sq, .mk tt tn ti, vs, ac, cf, hd⟩ c.1 = V at *
    obtain ⟨⟨nd', sq', ⟨t', n', i'⟩, vs', ac', cf', hd'⟩, f'⟩ := V
    dsimp only at hS1 h16 hst
    refine ⟨_, _, h44, rfl, rfl, ⟨⟨rfl, rfl⟩, trivial⟩, ?_⟩
    repeat (first | refine And.intro (by rfl) ?_ | refine litA ?_ | refine litB ?_ | refine litC ?_ | refine litD ?_ | refine And.intro trivial ?_ | refine And.intro (keptI (by repeat' (first | refine And.intro ?_ ?_ | exact True.intro | rfl | (simp; done)))) ?_)
    refine ⟨_, _, h16, rfl, rfl, trivial, ?_⟩
    repeat' (first | refine And.intro (by rfl) ?_ | refine litA ?_ | refine litB ?_ | refine litC ?_ | refine litD ?_ | refine And.intro trivial ?_ | refine And.intro (keptI (by repeat' (first | refine And.intro ?_ ?_ | exact True.intro | rfl | (simp; done)))) ?_ | (refine And.intro ?_ ?_ <;> intro h))
    · have hf : ¬ f' = 0 := by simpa using h
      rw [if_neg hf] at hS1
      refine ⟨⟨(k + 1, (⟨nd, sq, .mk tt tn ti, vs, ac, cf, hd⟩, c.2)), hkm, hS1⟩, ?_, ?_⟩
      · repeat' (first | refine fitE_ls rfl rfl ?_ | refine fitC_ls rfl ?_ | exact congrArg I e | refine And.intro ?_ ?_ | exact True.intro | rfl | exact ⟨_, _, rfl, rfl⟩ | exact ⟨_, _, rfl⟩ | decide | (simp [St.get, St.obj, look, lookD, unI, List.map_take]; done))
      · dsimp only; omega
    · have hf : f' = 0 := by simpa using h
      subst hf
      rw [if_pos rfl] at hS1
      have hso := hst rfl
      have hge : sq ≤ sq' := hso.ge
      have hle : sq' ≤ sq + 1 := hso.le
      obtain ⟨q1, q2, q3, q4, q5, q6⟩ := step_checks hk1.1.ok hso (show 1 ≤ sq' by omega) (show sq' ≤ 1000000 by omega)
      dsimp only at q1 q2 q3 q4 q5 q6
      repeat' (first | refine And.intro (by rfl) ?_ | refine litA ?_ | refine litB ?_ | refine litC ?_ | refine litD ?_ | refine And.intro trivial ?_ | refine And.intro (keptI (by repeat' (first | refine And.intro ?_ ?_ | exact True.intro | rfl | (simp; done)))) ?_ | refine ⟨_, _, q1, rfl, rfl, trivial, ?_⟩ | refine ⟨_, _, q2, rfl, rfl, trivial, ?_⟩ | refine ⟨_, _, q3, rfl, rfl, trivial, ?_⟩ | refine ⟨_, _, q4, rfl, rfl, trivial, ?_⟩ | refine ⟨_, _, q5, rfl, rfl, trivial, ?_⟩ | refine ⟨_, _, q6, rfl, rfl, trivial, ?_⟩ | (refine And.intro ?_ ?_ <;> intro h))
      rotate_left
      · have h : decide (sq' < sq) = true := h
        simp at h; omega
      refine ⟨⟨(k + 1, (⟨nd', sq', .mk t' n' i', vs', ac', cf', hd'⟩, c.2)), hkm, hS1⟩, ?_, ?_⟩
      · repeat' (first | refine fitE_ls rfl rfl ?_ | refine fitC_ls rfl ?_ | exact congrArg I e | refine And.intro ?_ ?_ | exact True.intro | rfl | exact ⟨_, _, rfl, rfl⟩ | exact ⟨_, _, rfl⟩ | decide | (simp [St.get, St.obj, look, lookD, unI, List.map_take]; done))
      · dsimp only; omega
  · have hd0 : ¬ dx = 0 := by simpa using ‹(dx == 0) = false›
    have hd1 : dx = 1 := by simpa using h
    rw [if_neg hd0, if_pos hd1] at hS1
    have h15 := f15_ok dt n h1 h2
    have hts := trustT_small n dt h1 h2
    generalize trustT n dt = c at *
    have h32 := f32_ok ⟨nd, sq, .mk tt tn ti, vs, ac, cf, hd⟩ c.1 hok hts
    have hst : _ → _ := declareS_step (t := c.1) hok hts
    generalize declareS ⟨nd, sq, .mk tt tn ti, vs, ac, cf, hd⟩ c.1 = V at *
    obtain ⟨⟨nd', sq', ⟨t', n', i'⟩, vs', ac', cf', hd'⟩, f'⟩ := V
    obtain ⟨⟨ct, cn, ci⟩, ctp⟩ := c
    dsimp only at hS1 h32 hst
    refine ⟨_, _, h15, rfl, rfl, ⟨⟨rfl, rfl⟩, trivial⟩, ?_⟩
    repeat (first | refine And.intro (by rfl) ?_ | refine litA ?_ | refine litB ?_ | refine litC ?_ | refine litD ?_ | refine And.intro trivial ?_ | refine And.intro (keptI (by repeat' (first | refine And.intro ?_ ?_ | exact True.intro | rfl | (simp; done)))) ?_)
    refine ⟨_, _, h32, rfl, rfl, trivial, ?_⟩
    repeat' (first | refine And.intro (by rfl) ?_ | refine litA ?_ | refine litB ?_ | refine litC ?_ | refine litD ?_ | refine And.intro trivial ?_ | refine And.intro (keptI (by repeat' (first | refine And.intro ?_ ?_ | exact True.intro | rfl | (simp; done)))) ?_ | (refine And.intro ?_ ?_ <;> intro h))
    · have hf : ¬ f' = 0 := by simpa using h
      rw [if_neg hf] at hS1
      refine ⟨⟨(k + 1, (⟨nd, sq, .mk tt tn ti, vs, ac, cf, hd⟩, ctp)), hkm, hS1⟩, ?_, ?_⟩
      · repeat' (first | refine fitE_ls rfl rfl ?_ | refine fitC_ls rfl ?_ | exact congrArg I e | refine And.intro ?_ ?_ | exact True.intro | rfl | exact ⟨_, _, rfl, rfl⟩ | exact ⟨_, _, rfl⟩ | decide | (simp [St.get, St.obj, look, lookD, unI, List.map_take]; done))
      · dsimp only; omega
    · have hf : f' = 0 := by simpa using h
      subst hf
      rw [if_pos rfl] at hS1
      have hso := hst rfl
      have hge : sq ≤ sq' := hso.ge
      have hle : sq' ≤ sq + 1 := hso.le
      obtain ⟨q1, q2, q3, q4, q5, q6⟩ := step_checks hk1.1.ok hso (show 1 ≤ sq' by omega) (show sq' ≤ 1000000 by omega)
      dsimp only at q1 q2 q3 q4 q5 q6
      repeat' (first | refine And.intro (by rfl) ?_ | refine litA ?_ | refine litB ?_ | refine litC ?_ | refine litD ?_ | refine And.intro trivial ?_ | refine And.intro (keptI (by repeat' (first | refine And.intro ?_ ?_ | exact True.intro | rfl | (simp; done)))) ?_ | refine ⟨_, _, q1, rfl, rfl, trivial, ?_⟩ | refine ⟨_, _, q2, rfl, rfl, trivial, ?_⟩ | refine ⟨_, _, q3, rfl, rfl, trivial, ?_⟩ | refine ⟨_, _, q4, rfl, rfl, trivial, ?_⟩ | refine ⟨_, _, q5, rfl, rfl, trivial, ?_⟩ | refine ⟨_, _, q6, rfl, rfl, trivial, ?_⟩ | (refine And.intro ?_ ?_ <;> intro h))
      rotate_left
      · have h : decide (sq' < sq) = true := h
        simp at h; omega
      refine ⟨⟨(k + 1, (⟨nd', sq', .mk t' n' i', vs', ac', cf', hd'⟩, ctp)), hkm, hS1⟩, ?_, ?_⟩
      · repeat' (first | refine fitE_ls rfl rfl ?_ | refine fitC_ls rfl ?_ | exact congrArg I e | refine And.intro ?_ ?_ | exact True.intro | rfl | exact ⟨_, _, rfl, rfl⟩ | exact ⟨_, _, rfl⟩ | decide | (simp [St.get, St.obj, look, lookD, unI, List.map_take]; done))
      · dsimp only; omega
  · have hd0 : ¬ dx = 0 := by simpa using ‹(dx == 0) = false›
    have hd1 : ¬ dx = 1 := by simpa using h
    rw [if_neg hd0, if_neg hd1] at hS1
    have h31 := f31_ok dt n h1 h2
    have hts := msgT_small n dt h1 h2
    have hsq := msgT_seq n dt
    generalize msgT n dt = c at *
    obtain ⟨⟨cn, cs, ⟨ct, cnn, ci⟩, cv, ca⟩, ctp⟩ := c
    dsimp only at hts hS1 h31 hsq
    have em : IntKind.i64.wrap (5 * ((k + 1 : Nat) : Int)) = 5 * ((k + 1 : Nat) : Int) := by rw [wrap_id] <;> omega
    have ew : IntKind.i64.wrap (cs + IntKind.i64.wrap (5 * ((k + 1 : Nat) : Int))) = cs + 5 * ((k + 1 : Nat) : Int) := by rw [em, wrap_id] <;> omega
    have h19 := f19_ok ⟨nd, sq, .mk tt tn ti, vs, ac, cf, hd⟩ ⟨cn, cs + 5 * ((k + 1 : Nat) : Int), .mk ct cnn ci, cv, ca⟩ hok hts
    have hst : _ → _ := hearS_step (m := ⟨cn, cs + 5 * ((k + 1 : Nat) : Int), .mk ct cnn ci, cv, ca⟩) hok hts
    generalize hearS ⟨nd, sq, .mk tt tn ti, vs, ac, cf, hd⟩ ⟨cn, cs + 5 * ((k + 1 : Nat) : Int), .mk ct cnn ci, cv, ca⟩ = V at *
    obtain ⟨⟨nd', sq', ⟨t', n', i'⟩, vs', ac', cf', hd'⟩, f'⟩ := V
    dsimp only at hS1 h19 hst
    have h19' : C 19 [.agg (encV ⟨nd, sq, .mk tt tn ti, vs, ac, cf, hd⟩), .agg (encM ⟨cn, IntKind.i64.wrap (cs + IntKind.i64.wrap (5 * ((k + 1 : Nat) : Int))), .mk ct cnn ci, cv, ca⟩)] (.tup [.agg (encV ⟨nd', sq', .mk t' n' i', vs', ac', cf', hd'⟩), I f']) := by rw [ew]; exact h19
    refine ⟨_, _, h31, rfl, rfl, ⟨⟨rfl, rfl⟩, trivial⟩, ?_⟩
    repeat (first | refine And.intro (by rfl) ?_ | refine litA ?_ | refine litB ?_ | refine litC ?_ | refine litD ?_ | refine And.intro trivial ?_ | refine And.intro (keptI (by repeat' (first | refine And.intro ?_ ?_ | exact True.intro | rfl | (simp; done)))) ?_)
    refine ⟨_, _, h19', rfl, rfl, trivial, ?_⟩
    repeat' (first | refine And.intro (by rfl) ?_ | refine litA ?_ | refine litB ?_ | refine litC ?_ | refine litD ?_ | refine And.intro trivial ?_ | refine And.intro (keptI (by repeat' (first | refine And.intro ?_ ?_ | exact True.intro | rfl | (simp; done)))) ?_ | (refine And.intro ?_ ?_ <;> intro h))
    · have hf : ¬ f' = 0 := by simpa using h
      rw [if_neg hf] at hS1
      refine ⟨⟨(k + 1, (⟨nd, sq, .mk tt tn ti, vs, ac, cf, hd⟩, ctp)), hkm, hS1⟩, ?_, ?_⟩
      · repeat' (first | refine fitE_ls rfl rfl ?_ | refine fitC_ls rfl ?_ | exact congrArg I e | refine And.intro ?_ ?_ | exact True.intro | rfl | exact ⟨_, _, rfl, rfl⟩ | exact ⟨_, _, rfl⟩ | decide | (simp [St.get, St.obj, look, lookD, unI, List.map_take]; done))
      · dsimp only; omega
    · have hf : f' = 0 := by simpa using h
      subst hf
      rw [if_pos rfl] at hS1
      have hso := hst rfl
      have hge : sq ≤ sq' := hso.ge
      have hle : sq' ≤ sq + 1 := hso.le
      obtain ⟨q1, q2, q3, q4, q5, q6⟩ := step_checks hk1.1.ok hso (show 1 ≤ sq' by omega) (show sq' ≤ 1000000 by omega)
      dsimp only at q1 q2 q3 q4 q5 q6
      repeat' (first | refine And.intro (by rfl) ?_ | refine litA ?_ | refine litB ?_ | refine litC ?_ | refine litD ?_ | refine And.intro trivial ?_ | refine And.intro (keptI (by repeat' (first | refine And.intro ?_ ?_ | exact True.intro | rfl | (simp; done)))) ?_ | refine ⟨_, _, q1, rfl, rfl, trivial, ?_⟩ | refine ⟨_, _, q2, rfl, rfl, trivial, ?_⟩ | refine ⟨_, _, q3, rfl, rfl, trivial, ?_⟩ | refine ⟨_, _, q4, rfl, rfl, trivial, ?_⟩ | refine ⟨_, _, q5, rfl, rfl, trivial, ?_⟩ | refine ⟨_, _, q6, rfl, rfl, trivial, ?_⟩ | (refine And.intro ?_ ?_ <;> intro h))
      rotate_left
      · have h : decide (sq' < sq) = true := h
        simp at h; omega
      refine ⟨⟨(k + 1, (⟨nd', sq', .mk t' n' i', vs', ac', cf', hd'⟩, ctp)), hkm, hS1⟩, ?_, ?_⟩
      · repeat' (first | refine fitE_ls rfl rfl ?_ | refine fitC_ls rfl ?_ | exact congrArg I e | refine And.intro ?_ ?_ | exact True.intro | rfl | exact ⟨_, _, rfl, rfl⟩ | exact ⟨_, _, rfl⟩ | decide | (simp [St.get, St.obj, look, lookD, unI, List.map_take]; done))
      · dsimp only; omega
set_option maxRecDepth 10000
theorem f4_ok (l : List Int) : C 4 [encI l] (bval true) := by
  have h22 := f22_ok ⟨l.take 400, 0⟩ 4 8 (by decide) (by decide) (by decide)
  generalize playS 4 ⟨l.take 400, 0⟩ 8 = R at *
  obtain ⟨⟨nd, sq, ⟨t, n, i⟩, vs, ac, cf, hd⟩, tp⟩ := R
  refine fn_ok (G := G) tabOK hm D0 Tryz.func4 rfl (by kernel_rfl) (by kernel_rfl) rfl rfl ?_
  repeat (first | refine And.intro (by rfl) ?_ | refine litA ?_ | refine litB ?_ | refine litC ?_ | refine litD ?_ | refine And.intro trivial ?_ | refine And.intro (keptI (by repeat' (first | refine And.intro ?_ ?_ | exact True.intro | rfl | (simp; done)))) ?_)
  refine ⟨_, _, f13_ok l, rfl, rfl, trivial, ?_⟩
  repeat (first | refine And.intro (by rfl) ?_ | refine litA ?_ | refine litB ?_ | refine litC ?_ | refine litD ?_ | refine And.intro trivial ?_ | refine And.intro (keptI (by repeat' (first | refine And.intro ?_ ?_ | exact True.intro | rfl | (simp; done)))) ?_)
  refine ⟨_, _, h22, rfl, rfl, ⟨⟨rfl, rfl⟩, trivial⟩, ?_⟩
  repeat' (first | refine And.intro (by rfl) ?_ | refine litA ?_ | refine litB ?_ | refine litC ?_ | refine litD ?_ | refine And.intro trivial ?_ | refine And.intro (keptI (by repeat' (first | refine And.intro ?_ ?_ | exact True.intro | rfl | (simp; done)))) ?_ | refine ⟨_, _, f21_ok, rfl, rfl, trivial, ?_⟩ | (refine And.intro ?_ ?_ <;> intro h))
  repeat' (first | refine And.intro ?_ ?_ | exact .inl rfl | rfl | exact .inr ⟨rfl, _, rfl⟩)
end Go.Proofs.YtnkpakakgfkpbaaGreat.V
end
section
namespace Go.Vi
open Go.RowKit
section
variable {P : Program} {f : FuncId}
/-- All cells of a world. -/
def rdW (W : World) : Rd := fun p => if p.spot = none then (match W.cell? p with | some v => if v.oneCell' = true then some v else none | none => none) else none
theorem rdW_some {W : World} {p : Addr} {v : Value} (h : W.cell? p = some v) (h1 : v.oneCell' = true) (h2 : p.spot = none) : rdW W p = some v := by
  simp [rdW, h2, h, h1]
theorem rdW_hrd {W : World} (p : Addr) (v : Value) (h : rdW W p = some v) : W.cell? p = some v ∧ v.oneCell' = true ∧ p.spot = none := by
  unfold rdW at h
  split at h
  · rename_i hs
    split at h
    · rename_i u hu
      split at h
      · rename_i ho; cases h; exact ⟨hu, ho, hs⟩
      · cases h
    · cases h
  · cases h
theorem WOk_bare {rd : Rd} {L : Lay} {W : World} (h : ∀ p v, rd p = some v → W.cell? p = some v ∧ v.oneCell' = true ∧ p.spot = none) : WOk rd L (look []) W :=
  ⟨h, (by intro id cs fr h; cases h), (by intro id e sz es fr h; cases h), (by intro i j b h; cases h)⟩
theorem top_ok {args : List PV} {b : Bool} (h : CallOK P f args (.sc (.bool b)) []) (hA : adoptA 0 args = (args, [])) {vs : List Value} {W : World}
    (hv : ∀ L, All2 (rep2 (rdW W) L (look [])) args vs) : Calls P f vs.toArray W fun e w' => e = .returned (.bool b) ∧ Below W.heap.size W w' := by
  have L0 : Lay := ⟨fun _ => .bool false, fun _ => 0⟩
  have hc := h.2 (rdW W) L0 W vs
  rw [hA] at hc
  refine (hc (WOk_bare rdW_hrd) (hv L0)).mono fun e w' hp => ?_
  obtain ⟨v, rd', L', he, _, hr, hg, _⟩ := hp
  have hvb : v = .bool b := by
    have hr : RepP rd' (.sc (.bool b)) v := hr
    cases hr; rfl
  subst hvb
  refine ⟨he, hg.os, hg.tape, hg.output.out, hg.size, fun k hk => hg.block k hk fun hM => ?_⟩
  obtain ⟨id, hid⟩ := hM
  rw [hA] at hid
  cases hid
end
end Go.Vi
end
section
namespace Go.Proofs.YtnkpakakgfkpbaaGreat.V
open Go.Vi
set_option maxRecDepth 10000
open Go.ChangeShapes Go.WideShapes Go.ChangeAt Go.RowKit
theorem own : ownKnob Tryz.prog.godebug = none := by kernel_rfl
theorem laidOut : laidOutB Tryz.prog = true := by kernel_rfl
theorem ints_rep {H : Type} {enc : TypeId × Value → H} {W : World} {base : Nat} {spare : Nat → Bool} {held : Bool} {a : Option Addr} {len cap : Nat} {d : DataW H} {ps : List MemPlace}
    (h : DataW.Trod enc PG W base spare held 22 (.slice a len cap) d ps) : ∃ l : List Int, RepP (rdW W) (encI l) (.slice a len cap) := by
  obtain ⟨fuel, hf⟩ := h
  rcases open_ints (k := .i64) Tryz.underlying22 Tryz.underlying3 (by kernel_rfl) hf with ⟨hcs, _⟩ | ⟨a, len, cap, zs, hcs, _, hl, hmx, hz, _, hcell, _⟩
  · simp [Value.cells] at hcs
    obtain ⟨rfl, rfl, rfl⟩ := hcs
    exact ⟨[], RepP.sl (b := 0) (o := 0) (u := fun _ _ => undef) (es := []) (Nat.le_refl _) (Nat.zero_le _) (fun _ => rfl) (fun h => absurd rfl h) (fun e he => by cases he) (fun i e j c h => by cases h) (fun i e j c h => by cases h)⟩
  · simp [Value.cells] at hcs
    obtain ⟨rfl, rfl, rfl⟩ := hcs
    have hzl : len ≤ zs.length := by rw [hz]; split <;> omega
    have hlen : ((zs.take len).map fun x => [I x]).length = len := by rw [List.length_map, List.length_take]; omega
    have hspot : 0 < len → a.spot = none := fun h0 => by
      have h1 := hcell 0 (by omega)
      cases hs : a.spot with
      | none => rfl
      | some q => simp [World.cell?, Addr.add, hs] at h1; split at h1 <;> cases h1
    have hget : ∀ (i : Nat) (e : List PV), ((zs.take len).map fun x => [I x])[i]? = some e → i < len ∧ e = [I (zs.getD i 0)] := fun i e he => by
      have hil := (List.getElem?_eq_some_iff.1 he).1
      rw [hlen] at hil
      refine ⟨hil, ?_⟩
      rw [List.getElem?_map, List.getElem?_take, if_pos hil, List.getElem?_eq_getElem (by omega)] at he
      simp only [Option.map_some, Option.some.injEq] at he
      rw [← he, List.getD_eq_getElem?_getD, List.getElem?_eq_getElem (by omega)]; rfl
    have := RepP.sl (rd := rdW W) (own := none) (sz := 1) (a := some a) (cap := cap) (b := a.block) (o := a.off) (u := fun i _ => Value.int .i64 (zs.getD i 0)) (es := (zs.take len).map fun x => [I x]) (by rw [hlen]; exact hl) hmx (fun h => by cases h)
      (fun hne => by
        have h0 : 0 < len := by rw [← hlen]; exact List.length_pos_iff.2 hne
        have := hspot h0
        obtain ⟨b, o, s⟩ := a
        dsimp only at this
        rw [this]) (fun e he => by obtain ⟨x, _, rfl⟩ := List.mem_map.1 he; rfl) (fun i e j c he hc => by
        obtain ⟨hi, rfl⟩ := hget i e he
        have hj : j = 0 := by have := (List.getElem?_eq_some_iff.1 hc).1; simp at this; exact this
        subst hj
        have h1 := hcell i (by omega)
        have hs := hspot (by omega)
        obtain ⟨b, o, s⟩ := a
        dsimp only at hs ⊢
        subst hs
        rw [Addr.add_lit] at h1
        refine rdW_some ?_ rfl rfl
        simpa using h1) (fun i e j c he hc => by
        obtain ⟨hi, rfl⟩ := hget i e he
        have hj : j = 0 := by have := (List.getElem?_eq_some_iff.1 hc).1; simp at this; exact this
        subst hj
        cases hc
        exact .sc rfl)
    rw [hlen] at this
    exact ⟨zs.take len, this⟩
namespace votingKeeps
set_option maxRecDepth 100000 in
theorem lifted (os : Os) (started : os.Started) (H : Type) (enc : TypeId × Value → H) :
    ReturnsInHanded {} Tryz.checked os 4 .any (Rows.votingKeepsSpec.pre6 enc Tryz.prog Tryz.f4 Rows.votingKeepsRow.domain false) (Rows.votingKeepsSpec.post enc Tryz.prog Tryz.f4 false true false false) := by
  refine returnsInHanded_of_change_sized (C := Tryz.checked) own started (by kernel_rfl) Tryz.func4
    (ChangeSpec.witness6 (enc := enc) (C := Tryz.checked) false ⟨#[], #[.slice none 0 0], []⟩ 8 (by kernel_rfl) (by kernel_rfl) (by kernel_rfl) (by kernel_rfl)) ?_
  intro W base args ds gs before hval0 hW hcnd hsz0 _
  have hval : ∀ (j : Nat) t v, Tryz.f4.params[j]? = some t → args[j]? = some v → Value.okWide Tryz.prog W .any base t v := hval0
  have hW' := hW
  obtain ⟨p, q, hA0, hV, rfl, hfz, hnd⟩ := hW
  have hA : DataW.TrodAll enc Tryz.prog W 0 (fun _ => true) true Tryz.f4.params.toList args.toList ds p := hA0
  rw [Tryz.params4] at hA hval
  obtain ⟨v0, vs0, d0, ds0, p0, q0, hargs, rfl, rfl, h0, r0⟩ := trodAll_cons hA
  obtain ⟨rfl, rfl, rfl⟩ := trodAll_nil r0
  obtain rfl : args = #[v0] := by cases args; simp_all
  obtain ⟨rfl, rfl⟩ := trodVars_none hV
  obtain ⟨a0, len0, cap0, rfl⟩ := okWide_slice Tryz.underlying22 (hval 0 22 v0 rfl rfl)
  have k0 := h0
  have lt0 : ∀ x ∈ p0, x.block < W.heap.size := by obtain ⟨m, hm'⟩ := k0; exact DataW.trod_lt m _ _ _ hm'
  obtain ⟨l, hl⟩ := ints_rep h0
  clear hA0 hval0 hsz0
  refine (top_ok (b := true) (f4_ok l) rfl (vs := [.slice a0 len0 cap0]) (W := W) (fun L => .cons hl .nil)).mono fun e W' ⟨he, bel⟩ => ?_
  subst he
  exact ⟨_, rfl, _, _, _, [], _, [], hW', trodAll_mk1 (shut_bool Tryz.underlying4 _), trodAll_cons_mk (Below.trod laidOut (by kernel_rfl) (of_decide_eq_true (by kernel_rfl)) k0 bel lt0) trodAll_mk0, rfl, bel.frame _, fun h => by cases h⟩
set_option maxRecDepth 100000 in
theorem j_in : (Rows.votingKeepsRow.inPlace == Tryz.prog.inPlace 4) = true := by kernel_rfl
set_option maxRecDepth 100000 in
theorem j_un : (Rows.votingKeepsRow.unfollowed == Tryz.prog.unfollowed 4) = true := by kernel_rfl
set_option maxRecDepth 100000 in
theorem j_re : (Rows.votingKeepsRow.recurses == Tryz.prog.recurses 4) = true := by
  have h : Tryz.prog.recurses 4 = true := by
    unfold Program.recurses
    have := j_un
    rw [beq_iff_eq] at this
    rw [← this]; rfl
  rw [h]; rfl
set_option maxRecDepth 100000 in
theorem j_na : (Rows.votingKeepsRow.named == Tryz.prog.varsNamed 4) = true := by kernel_rfl
set_option maxRecDepth 100000 in
theorem closed : joinedFacts Tryz.prog 4 Tryz.f4 Rows.votingKeepsSpec Rows.votingKeepsRow = true := by
  unfold joinedFacts
  rw [j_in, j_un, j_re, j_na]
  kernel_rfl
set_option maxRecDepth 100000 in
theorem over : Rows.votingKeepsRow.holds Tryz.pinned (OpenSpec.ofChange Rows.votingKeepsSpec) :=
  OpenClaim.holds_of_wide 4 Tryz.f4 rfl rfl rfl rfl rfl rfl rfl ⟨rfl, rfl, rfl, rfl, rfl⟩ rfl rfl rfl rfl rfl (by kernel_rfl) Tryz.func4 closed
    (of_decide_eq_true (by kernel_rfl)) (by unfold Func.isWrapper; first | (rw [if_pos (by decide +kernel)]; kernel_rfl) | (rw [if_neg (by decide +kernel)]; exact ⟨rfl, rfl⟩))
    (fun os started H enc _ => lifted os started H enc)
theorem proved : Rows.VotingKeepsSaid := over
end votingKeeps
theorem votingKeeps_holds : Rows.VotingKeepsSaid := votingKeeps.proved
end Go.Proofs.YtnkpakakgfkpbaaGreat.V

end
