/-
  NARROWER THAN 'FOR EVERY INPUT', by the rows' own cells (each row's printed sentence says how): VotingAnswers: loops · NominationAnswers: loops.
  DERIVED. THE GIVEN ROWS OF THIS SEAT. 10 by the template 'for every input the law returns true; each argument reads behind the call as it read before'; 0 by the template 'total and deterministic' (their statements: YtnkpakakgfkpbaaGreatTotals.lean).
  GIVEN WITH THE SEED: the statements are not yours to turn. If you find one false, say at which input.
  Laid BY PROGRAM, IN A SANDBOX (cutbox-rows.mjs): the forced cells as the released guide's own fill.sh prints them over the translation 4a15e1ecbf514860… (all of the seat's roots in one cut). By AI agents, Wed Nov 11 2026. No macro, syntax, notation, axiom, sorry.
-/
import Derived.Test.YtnkpakakgfkpbaaGreatChecked
import GoSem.Claim
import GoSem.ClaimJoined
import GoSem.ClaimMapViews
import Derived.JoinedTies
import Derived.KernelRfl
namespace Go.Proofs.YtnkpakakgfkpbaaGreat
/- THE CELL 'sum', in the pinned program and in every row, IS THE sha256 OF THE DUMP (.gsa) THAT YtnkpakakgfkpbaaGreatProg.lean LOADS. Nothing in Lean hashes anything: it is a label: what it is worth is what the hold of that sum in a sandbox is worth. -/
noncomputable def Tryz.pinned : Pinned := { name := "ytnkpakakgfkpbaagreat", sum := "4a15e1ecbf514860f864ce8cece3ff0b132d5e49190d775edaddff50ff690410", checked := Tryz.checked }
namespace Rows
def none {H : Type} : Left H := { results := [], args := [] }

/-- 'trustquorumlaw19.VotingOrder': WHATEVER THE INPUT: true; the input reads as it did. -/
def votingOrderSpec : ChangeSpec := { name := "votingOrder", fn := fun _ => fun
  | [d] => { results := [.lit (.bool true)], args := [d] }
  | _ => none }
def votingOrderRow : OpenClaim := { program := "ytnkpakakgfkpbaagreat", sum := "4a15e1ecbf514860f864ce8cece3ff0b132d5e49190d775edaddff50ff690410", func := "trustquorum/trustquorumlaw19.VotingOrder", spec := "votingOrder", inPlace := ["slices.overlaps[trustquorum/api.Message]"], unfollowed := true, recurses := true, apart := false }
def VotingOrderSaid : Prop := votingOrderRow.holds Tryz.pinned (OpenSpec.ofChange votingOrderSpec)

/-- ITS FALSE NEIGHBOUR: 'it returns false'. Refute it at one input. -/
def votingOrderWrong : ChangeSpec := { name := "votingOrder", fn := fun _ => fun
  | [d] => { results := [.lit (.bool false)], args := [d] }
  | _ => none }
def VotingOrderWrongFalsely : Prop := votingOrderRow.holds Tryz.pinned (OpenSpec.ofChange votingOrderWrong)

/-- 'trustquorumlaw19.VotingKeeps': WHATEVER THE INPUT: true; the input reads as it did. -/
def votingKeepsSpec : ChangeSpec := { name := "votingKeeps", fn := fun _ => fun
  | [d] => { results := [.lit (.bool true)], args := [d] }
  | _ => none }
def votingKeepsRow : OpenClaim := { program := "ytnkpakakgfkpbaagreat", sum := "4a15e1ecbf514860f864ce8cece3ff0b132d5e49190d775edaddff50ff690410", func := "trustquorum/trustquorumlaw19.VotingKeeps", spec := "votingKeeps", inPlace := ["slices.overlaps[trustquorum/api.Message]"], unfollowed := true, recurses := true, apart := false }
def VotingKeepsSaid : Prop := votingKeepsRow.holds Tryz.pinned (OpenSpec.ofChange votingKeepsSpec)

/-- ITS FALSE NEIGHBOUR: 'it returns false'. Refute it at one input. -/
def votingKeepsWrong : ChangeSpec := { name := "votingKeeps", fn := fun _ => fun
  | [d] => { results := [.lit (.bool false)], args := [d] }
  | _ => none }
def VotingKeepsWrongFalsely : Prop := votingKeepsRow.holds Tryz.pinned (OpenSpec.ofChange votingKeepsWrong)

/-- 'trustquorumlaw19.VotingSettles': WHATEVER THE INPUT: true; the input reads as it did. -/
def votingSettlesSpec : ChangeSpec := { name := "votingSettles", fn := fun _ => fun
  | [d] => { results := [.lit (.bool true)], args := [d] }
  | _ => none }
def votingSettlesRow : OpenClaim := { program := "ytnkpakakgfkpbaagreat", sum := "4a15e1ecbf514860f864ce8cece3ff0b132d5e49190d775edaddff50ff690410", func := "trustquorum/trustquorumlaw19.VotingSettles", spec := "votingSettles", inPlace := ["slices.overlaps[trustquorum/api.Message]"], unfollowed := true, recurses := true, apart := false }
def VotingSettlesSaid : Prop := votingSettlesRow.holds Tryz.pinned (OpenSpec.ofChange votingSettlesSpec)

/-- ITS FALSE NEIGHBOUR: 'it returns false'. Refute it at one input. -/
def votingSettlesWrong : ChangeSpec := { name := "votingSettles", fn := fun _ => fun
  | [d] => { results := [.lit (.bool false)], args := [d] }
  | _ => none }
def VotingSettlesWrongFalsely : Prop := votingSettlesRow.holds Tryz.pinned (OpenSpec.ofChange votingSettlesWrong)

/-- 'trustquorumlaw19.VotingNumbers': WHATEVER THE INPUT: true; the input reads as it did. -/
def votingNumbersSpec : ChangeSpec := { name := "votingNumbers", fn := fun _ => fun
  | [d] => { results := [.lit (.bool true)], args := [d] }
  | _ => none }
def votingNumbersRow : OpenClaim := { program := "ytnkpakakgfkpbaagreat", sum := "4a15e1ecbf514860f864ce8cece3ff0b132d5e49190d775edaddff50ff690410", func := "trustquorum/trustquorumlaw19.VotingNumbers", spec := "votingNumbers", inPlace := ["slices.overlaps[trustquorum/api.Message]"], unfollowed := true, recurses := true, apart := false }
def VotingNumbersSaid : Prop := votingNumbersRow.holds Tryz.pinned (OpenSpec.ofChange votingNumbersSpec)

/-- ITS FALSE NEIGHBOUR: 'it returns false'. Refute it at one input. -/
def votingNumbersWrong : ChangeSpec := { name := "votingNumbers", fn := fun _ => fun
  | [d] => { results := [.lit (.bool false)], args := [d] }
  | _ => none }
def VotingNumbersWrongFalsely : Prop := votingNumbersRow.holds Tryz.pinned (OpenSpec.ofChange votingNumbersWrong)

/-- 'trustquorumlaw19.VotingAnswers': WHATEVER THE INPUT: true; the input reads as it did. -/
def votingAnswersSpec : ChangeSpec := { name := "votingAnswers", fn := fun _ => fun
  | [d1, d2, d3, d4, d5, d6] => { results := [.lit (.bool true)], args := [d1, d2, d3, d4, d5, d6] }
  | _ => none }
def votingAnswersRow : OpenClaim := { program := "ytnkpakakgfkpbaagreat", sum := "4a15e1ecbf514860f864ce8cece3ff0b132d5e49190d775edaddff50ff690410", func := "trustquorum/trustquorumlaw19.VotingAnswers", spec := "votingAnswers", inPlace := ["slices.overlaps[trustquorum/api.Message]"], unfollowed := true, recurses := true, loops := true, apart := false }
def VotingAnswersSaid : Prop := votingAnswersRow.holds Tryz.pinned (OpenSpec.ofChange votingAnswersSpec)

/-- ITS FALSE NEIGHBOUR: 'it returns false'. Refute it at one input. -/
def votingAnswersWrong : ChangeSpec := { name := "votingAnswers", fn := fun _ => fun
  | [d1, d2, d3, d4, d5, d6] => { results := [.lit (.bool false)], args := [d1, d2, d3, d4, d5, d6] }
  | _ => none }
def VotingAnswersWrongFalsely : Prop := votingAnswersRow.holds Tryz.pinned (OpenSpec.ofChange votingAnswersWrong)

/-- 'trustquorumlaw22.NominationAll': WHATEVER THE INPUT: true; the input reads as it did. -/
def nominationAllSpec : ChangeSpec := { name := "nominationAll", fn := fun _ => fun
  | [d] => { results := [.lit (.bool true)], args := [d] }
  | _ => none }
def nominationAllRow : OpenClaim := { program := "ytnkpakakgfkpbaagreat", sum := "4a15e1ecbf514860f864ce8cece3ff0b132d5e49190d775edaddff50ff690410", func := "trustquorum/trustquorumlaw22.NominationAll", spec := "nominationAll", inPlace := ["slices.overlaps[string]", "slices.overlaps[trustquorum/api.Nomination]"], unfollowed := true, recurses := true, apart := false }
def NominationAllSaid : Prop := nominationAllRow.holds Tryz.pinned (OpenSpec.ofChange nominationAllSpec)

/-- ITS FALSE NEIGHBOUR: 'it returns false'. Refute it at one input. -/
def nominationAllWrong : ChangeSpec := { name := "nominationAll", fn := fun _ => fun
  | [d] => { results := [.lit (.bool false)], args := [d] }
  | _ => none }
def NominationAllWrongFalsely : Prop := nominationAllRow.holds Tryz.pinned (OpenSpec.ofChange nominationAllWrong)

/-- 'trustquorumlaw22.NominationAgrees': WHATEVER THE INPUT: true; the input reads as it did. -/
def nominationAgreesSpec : ChangeSpec := { name := "nominationAgrees", fn := fun _ => fun
  | [d] => { results := [.lit (.bool true)], args := [d] }
  | _ => none }
def nominationAgreesRow : OpenClaim := { program := "ytnkpakakgfkpbaagreat", sum := "4a15e1ecbf514860f864ce8cece3ff0b132d5e49190d775edaddff50ff690410", func := "trustquorum/trustquorumlaw22.NominationAgrees", spec := "nominationAgrees", inPlace := ["slices.overlaps[string]", "slices.overlaps[trustquorum/api.Nomination]"], unfollowed := true, recurses := true, apart := false }
def NominationAgreesSaid : Prop := nominationAgreesRow.holds Tryz.pinned (OpenSpec.ofChange nominationAgreesSpec)

/-- ITS FALSE NEIGHBOUR: 'it returns false'. Refute it at one input. -/
def nominationAgreesWrong : ChangeSpec := { name := "nominationAgrees", fn := fun _ => fun
  | [d] => { results := [.lit (.bool false)], args := [d] }
  | _ => none }
def NominationAgreesWrongFalsely : Prop := nominationAgreesRow.holds Tryz.pinned (OpenSpec.ofChange nominationAgreesWrong)

/-- 'trustquorumlaw22.NominationKeeps': WHATEVER THE INPUT: true; the input reads as it did. -/
def nominationKeepsSpec : ChangeSpec := { name := "nominationKeeps", fn := fun _ => fun
  | [d] => { results := [.lit (.bool true)], args := [d] }
  | _ => none }
def nominationKeepsRow : OpenClaim := { program := "ytnkpakakgfkpbaagreat", sum := "4a15e1ecbf514860f864ce8cece3ff0b132d5e49190d775edaddff50ff690410", func := "trustquorum/trustquorumlaw22.NominationKeeps", spec := "nominationKeeps", inPlace := ["slices.overlaps[string]", "slices.overlaps[trustquorum/api.Nomination]"], unfollowed := true, recurses := true, apart := false }
def NominationKeepsSaid : Prop := nominationKeepsRow.holds Tryz.pinned (OpenSpec.ofChange nominationKeepsSpec)

/-- ITS FALSE NEIGHBOUR: 'it returns false'. Refute it at one input. -/
def nominationKeepsWrong : ChangeSpec := { name := "nominationKeeps", fn := fun _ => fun
  | [d] => { results := [.lit (.bool false)], args := [d] }
  | _ => none }
def NominationKeepsWrongFalsely : Prop := nominationKeepsRow.holds Tryz.pinned (OpenSpec.ofChange nominationKeepsWrong)

/-- 'trustquorumlaw22.NominationFollows': WHATEVER THE INPUT: true; the input reads as it did. -/
def nominationFollowsSpec : ChangeSpec := { name := "nominationFollows", fn := fun _ => fun
  | [d] => { results := [.lit (.bool true)], args := [d] }
  | _ => none }
def nominationFollowsRow : OpenClaim := { program := "ytnkpakakgfkpbaagreat", sum := "4a15e1ecbf514860f864ce8cece3ff0b132d5e49190d775edaddff50ff690410", func := "trustquorum/trustquorumlaw22.NominationFollows", spec := "nominationFollows", inPlace := ["slices.overlaps[string]", "slices.overlaps[trustquorum/api.Nomination]"], unfollowed := true, recurses := true, apart := false }
def NominationFollowsSaid : Prop := nominationFollowsRow.holds Tryz.pinned (OpenSpec.ofChange nominationFollowsSpec)

/-- ITS FALSE NEIGHBOUR: 'it returns false'. Refute it at one input. -/
def nominationFollowsWrong : ChangeSpec := { name := "nominationFollows", fn := fun _ => fun
  | [d] => { results := [.lit (.bool false)], args := [d] }
  | _ => none }
def NominationFollowsWrongFalsely : Prop := nominationFollowsRow.holds Tryz.pinned (OpenSpec.ofChange nominationFollowsWrong)

/-- 'trustquorumlaw22.NominationAnswers': WHATEVER THE INPUT: true; the input reads as it did. -/
def nominationAnswersSpec : ChangeSpec := { name := "nominationAnswers", fn := fun _ => fun
  | [d1, d2, d3, d4, d5, d6, d7, d8, d9] => { results := [.lit (.bool true)], args := [d1, d2, d3, d4, d5, d6, d7, d8, d9] }
  | _ => none }
def nominationAnswersRow : OpenClaim := { program := "ytnkpakakgfkpbaagreat", sum := "4a15e1ecbf514860f864ce8cece3ff0b132d5e49190d775edaddff50ff690410", func := "trustquorum/trustquorumlaw22.NominationAnswers", spec := "nominationAnswers", inPlace := ["slices.overlaps[string]", "slices.overlaps[trustquorum/api.Nomination]"], unfollowed := true, recurses := true, loops := true, apart := false }
def NominationAnswersSaid : Prop := nominationAnswersRow.holds Tryz.pinned (OpenSpec.ofChange nominationAnswersSpec)

/-- ITS FALSE NEIGHBOUR: 'it returns false'. Refute it at one input. -/
def nominationAnswersWrong : ChangeSpec := { name := "nominationAnswers", fn := fun _ => fun
  | [d1, d2, d3, d4, d5, d6, d7, d8, d9] => { results := [.lit (.bool false)], args := [d1, d2, d3, d4, d5, d6, d7, d8, d9] }
  | _ => none }
def NominationAnswersWrongFalsely : Prop := nominationAnswersRow.holds Tryz.pinned (OpenSpec.ofChange nominationAnswersWrong)

/- THE SECOND FORM. 'bulk': how many values and letters a reading holds, each counted each time it is reached (what is shared counts as often as it is met; a slice's spare places count too). A statement '..UptoSaid' is the law's where the arguments, and the package variables that the reading takes, are together of bulk at most 1048576: NARROWER than '..Said'. Prove '..Said' where nothing that the law and all that it calls make is longer than what came in: it says more and counts as full. Else prove '..UptoSaid'. A law counts once. -/
mutual
def uptoBulk {H : Type} : DataW H → Nat
  | .lit (.string bytes) => bytes.length + 1
  | .lit _ => 1
  | .nil => 1
  | .ptr d => uptoBulk d + 1
  | .slice elems spare => uptoBulkAll elems + uptoBulkAll spare + 1
  | .agg parts => uptoBulkAll parts + 1
  | .iface _ d => uptoBulk d + 1
  | .map entries => uptoBulkEntries entries + 1
  | .held _ => 1
def uptoBulkAll {H : Type} : List (DataW H) → Nat
  | [] => 0
  | d :: r => uptoBulk d + uptoBulkAll r
def uptoBulkEntries {H : Type} : List (Lit × DataW H) → Nat
  | [] => 0
  | x :: r => uptoBulkEntry x + uptoBulkEntries r
def uptoBulkEntry {H : Type} : Lit × DataW H → Nat
  | (.string bytes, d) => bytes.length + uptoBulk d + 1
  | (_, d) => uptoBulk d + 1
 end
def uptoSmall : (H : Type) → List (DataW H) → Bool := fun _ ds => decide (uptoBulkAll ds ≤ 1048576)
def OpenSpec.upto (s : _root_.Go.ChangeSpec) : _root_.Go.OpenSpec := { _root_.Go.OpenSpec.ofChange s with cond := some uptoSmall }

/-- 'trustquorumlaw19.VotingOrder', WHERE WHAT IT READS IS OF BULK AT MOST 1048576: true; the input reads as it did. -/
def votingOrderUptoRow : OpenClaim := { program := "ytnkpakakgfkpbaagreat", sum := "4a15e1ecbf514860f864ce8cece3ff0b132d5e49190d775edaddff50ff690410", func := "trustquorum/trustquorumlaw19.VotingOrder", spec := "votingOrder", inPlace := ["slices.overlaps[trustquorum/api.Message]"], unfollowed := true, recurses := true, apart := false, narrowed := true }
def VotingOrderUptoSaid : Prop := votingOrderUptoRow.holds Tryz.pinned (OpenSpec.upto votingOrderSpec)

/-- 'trustquorumlaw19.VotingKeeps', WHERE WHAT IT READS IS OF BULK AT MOST 1048576: true; the input reads as it did. -/
def votingKeepsUptoRow : OpenClaim := { program := "ytnkpakakgfkpbaagreat", sum := "4a15e1ecbf514860f864ce8cece3ff0b132d5e49190d775edaddff50ff690410", func := "trustquorum/trustquorumlaw19.VotingKeeps", spec := "votingKeeps", inPlace := ["slices.overlaps[trustquorum/api.Message]"], unfollowed := true, recurses := true, apart := false, narrowed := true }
def VotingKeepsUptoSaid : Prop := votingKeepsUptoRow.holds Tryz.pinned (OpenSpec.upto votingKeepsSpec)

/-- 'trustquorumlaw19.VotingSettles', WHERE WHAT IT READS IS OF BULK AT MOST 1048576: true; the input reads as it did. -/
def votingSettlesUptoRow : OpenClaim := { program := "ytnkpakakgfkpbaagreat", sum := "4a15e1ecbf514860f864ce8cece3ff0b132d5e49190d775edaddff50ff690410", func := "trustquorum/trustquorumlaw19.VotingSettles", spec := "votingSettles", inPlace := ["slices.overlaps[trustquorum/api.Message]"], unfollowed := true, recurses := true, apart := false, narrowed := true }
def VotingSettlesUptoSaid : Prop := votingSettlesUptoRow.holds Tryz.pinned (OpenSpec.upto votingSettlesSpec)

/-- 'trustquorumlaw19.VotingNumbers', WHERE WHAT IT READS IS OF BULK AT MOST 1048576: true; the input reads as it did. -/
def votingNumbersUptoRow : OpenClaim := { program := "ytnkpakakgfkpbaagreat", sum := "4a15e1ecbf514860f864ce8cece3ff0b132d5e49190d775edaddff50ff690410", func := "trustquorum/trustquorumlaw19.VotingNumbers", spec := "votingNumbers", inPlace := ["slices.overlaps[trustquorum/api.Message]"], unfollowed := true, recurses := true, apart := false, narrowed := true }
def VotingNumbersUptoSaid : Prop := votingNumbersUptoRow.holds Tryz.pinned (OpenSpec.upto votingNumbersSpec)

/-- 'trustquorumlaw19.VotingAnswers', WHERE WHAT IT READS IS OF BULK AT MOST 1048576: true; the input reads as it did. -/
def votingAnswersUptoRow : OpenClaim := { program := "ytnkpakakgfkpbaagreat", sum := "4a15e1ecbf514860f864ce8cece3ff0b132d5e49190d775edaddff50ff690410", func := "trustquorum/trustquorumlaw19.VotingAnswers", spec := "votingAnswers", inPlace := ["slices.overlaps[trustquorum/api.Message]"], unfollowed := true, recurses := true, loops := true, apart := false, narrowed := true }
def VotingAnswersUptoSaid : Prop := votingAnswersUptoRow.holds Tryz.pinned (OpenSpec.upto votingAnswersSpec)

/-- 'trustquorumlaw22.NominationAll', WHERE WHAT IT READS IS OF BULK AT MOST 1048576: true; the input reads as it did. -/
def nominationAllUptoRow : OpenClaim := { program := "ytnkpakakgfkpbaagreat", sum := "4a15e1ecbf514860f864ce8cece3ff0b132d5e49190d775edaddff50ff690410", func := "trustquorum/trustquorumlaw22.NominationAll", spec := "nominationAll", inPlace := ["slices.overlaps[string]", "slices.overlaps[trustquorum/api.Nomination]"], unfollowed := true, recurses := true, apart := false, narrowed := true }
def NominationAllUptoSaid : Prop := nominationAllUptoRow.holds Tryz.pinned (OpenSpec.upto nominationAllSpec)

/-- 'trustquorumlaw22.NominationAgrees', WHERE WHAT IT READS IS OF BULK AT MOST 1048576: true; the input reads as it did. -/
def nominationAgreesUptoRow : OpenClaim := { program := "ytnkpakakgfkpbaagreat", sum := "4a15e1ecbf514860f864ce8cece3ff0b132d5e49190d775edaddff50ff690410", func := "trustquorum/trustquorumlaw22.NominationAgrees", spec := "nominationAgrees", inPlace := ["slices.overlaps[string]", "slices.overlaps[trustquorum/api.Nomination]"], unfollowed := true, recurses := true, apart := false, narrowed := true }
def NominationAgreesUptoSaid : Prop := nominationAgreesUptoRow.holds Tryz.pinned (OpenSpec.upto nominationAgreesSpec)

/-- 'trustquorumlaw22.NominationKeeps', WHERE WHAT IT READS IS OF BULK AT MOST 1048576: true; the input reads as it did. -/
def nominationKeepsUptoRow : OpenClaim := { program := "ytnkpakakgfkpbaagreat", sum := "4a15e1ecbf514860f864ce8cece3ff0b132d5e49190d775edaddff50ff690410", func := "trustquorum/trustquorumlaw22.NominationKeeps", spec := "nominationKeeps", inPlace := ["slices.overlaps[string]", "slices.overlaps[trustquorum/api.Nomination]"], unfollowed := true, recurses := true, apart := false, narrowed := true }
def NominationKeepsUptoSaid : Prop := nominationKeepsUptoRow.holds Tryz.pinned (OpenSpec.upto nominationKeepsSpec)

/-- 'trustquorumlaw22.NominationFollows', WHERE WHAT IT READS IS OF BULK AT MOST 1048576: true; the input reads as it did. -/
def nominationFollowsUptoRow : OpenClaim := { program := "ytnkpakakgfkpbaagreat", sum := "4a15e1ecbf514860f864ce8cece3ff0b132d5e49190d775edaddff50ff690410", func := "trustquorum/trustquorumlaw22.NominationFollows", spec := "nominationFollows", inPlace := ["slices.overlaps[string]", "slices.overlaps[trustquorum/api.Nomination]"], unfollowed := true, recurses := true, apart := false, narrowed := true }
def NominationFollowsUptoSaid : Prop := nominationFollowsUptoRow.holds Tryz.pinned (OpenSpec.upto nominationFollowsSpec)

/-- 'trustquorumlaw22.NominationAnswers', WHERE WHAT IT READS IS OF BULK AT MOST 1048576: true; the input reads as it did. -/
def nominationAnswersUptoRow : OpenClaim := { program := "ytnkpakakgfkpbaagreat", sum := "4a15e1ecbf514860f864ce8cece3ff0b132d5e49190d775edaddff50ff690410", func := "trustquorum/trustquorumlaw22.NominationAnswers", spec := "nominationAnswers", inPlace := ["slices.overlaps[string]", "slices.overlaps[trustquorum/api.Nomination]"], unfollowed := true, recurses := true, loops := true, apart := false, narrowed := true }
def NominationAnswersUptoSaid : Prop := nominationAnswersUptoRow.holds Tryz.pinned (OpenSpec.upto nominationAnswersSpec)

end Rows
end Go.Proofs.YtnkpakakgfkpbaaGreat
