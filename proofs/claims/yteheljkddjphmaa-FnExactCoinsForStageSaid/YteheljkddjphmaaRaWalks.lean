/-
  The walk of the law FnExactCoinsForStage: it returns true and changes nothing, for all arguments that lie in Go's range of int.
-/
import Derived.Test.YteheljkddjphmaaRows
import Derived.WalkKit
import Derived.WalkSpells
import Derived.WalkLawsBesides
import Derived.Handy
namespace Go.Proofs.Yteheljkddjphmaa
open Go.RowKit
set_option linter.unusedVariables false

set_option maxHeartbeats 1000000 in
theorem ra_any (a b : Int) (w : World) :
    Calls Try.prog 3 #[.int .i64 a, .int .i64 b] w fun e w' => e = .returned (.bool true) ∧ w' = w := by
  go_enter Try.func3, Try.ntmps3
  go_wp2
  all_goals go_ret
  all_goals (refine ⟨?_, rfl⟩; simp [*]; try omega)
end Go.Proofs.Yteheljkddjphmaa
