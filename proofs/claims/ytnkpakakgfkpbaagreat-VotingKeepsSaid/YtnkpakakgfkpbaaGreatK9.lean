/-
  VotingKeeps: for every list of integers the law's function returns true, and the argument reads behind the call as it read before. No condition.
-/
import Derived.Test.YtnkpakakgfkpbaaGreatK8
namespace Go.Proofs.YtnkpakakgfkpbaaGreat
theorem votingKeeps_holds : Rows.VotingKeepsSaid := V.votingKeeps_holds
end Go.Proofs.YtnkpakakgfkpbaaGreat
