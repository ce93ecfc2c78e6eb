/-
  The law FnExactBatchSums returns true for all arguments, and changes nothing. No conditions.
-/
import Derived.Test.YtikmcaegilhfeaaRows
import Derived.Test.YtikmcaegilhfeaaBsumLaw
import Derived.ProofKit
namespace Go.Proofs.Ytikmcaegilhfeaa
open Go.ChangeShapes Go.WideShapes Go.ChangeAt Go.RowKit

theorem rbsum_own : ownKnob Try.prog.godebug = none := by kernel_rfl

set_option maxRecDepth 100000 in
theorem rbsum_lifted (os : Os) (started : os.Started) (H : Type) (enc : TypeId × Value → H) :
    ReturnsInHanded {} Try.checked os 9 .any (Rows.fnExactBatchSumsSpec.pre6 enc Try.prog Try.f9 Rows.fnExactBatchSumsRow.domain false) (Rows.fnExactBatchSumsSpec.post enc Try.prog Try.f9 false true false false) := by
  refine returnsInHanded_of_change (C := Try.checked) rbsum_own started (by kernel_rfl) Try.func9
    (ChangeSpec.witness6 (enc := enc) (C := Try.checked) false ⟨#[], #[.agg #[.int .i64 0, .int .i64 0, .int .i64 0], .int .i64 0, .slice none 0 0, .slice none 0 0], []⟩ 8 (by kernel_rfl) (by kernel_rfl) (by kernel_rfl) (by kernel_rfl)) ?_
  intro W base args ds gs before hval hW _ _
  exact Vd.row_calls (C := Try.checked) (f := 9) (fn := Try.f9) (tb := 4) (con := Vd.c_L_FnExactBatchSums) Vd.m_L_FnExactBatchSums rfl (by kernel_rfl) (fun x hx => ⟨true, Vd.law_FnExactBatchSums x hx, rfl⟩) rfl
    (fun ds hds => match ds, hds with | [d0, d1, d2, d3], _ => ⟨rfl, rfl, rfl⟩) rfl Try.underlying4 (by kernel_rfl) (by kernel_rfl) W base args ds gs before hval hW

theorem rbsum_holds : Rows.FnExactBatchSumsSaid :=
  OpenClaim.holds_of_wide 9 Try.f9 rfl rfl rfl rfl rfl rfl rfl ⟨rfl, rfl, rfl, rfl, rfl⟩ rfl rfl rfl rfl rfl (by kernel_rfl) Try.func9 (by kernel_rfl)
    (of_decide_eq_true (by kernel_rfl)) (by unfold Func.isWrapper; rw [if_neg (by decide +kernel)]; exact ⟨rfl, rfl⟩)
    (fun os started H enc _ => rbsum_lifted os started H enc)

#print axioms rbsum_holds
end Go.Proofs.Ytikmcaegilhfeaa
