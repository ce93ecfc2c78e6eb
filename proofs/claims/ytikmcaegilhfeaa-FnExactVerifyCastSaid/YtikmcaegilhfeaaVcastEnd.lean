/-
  The law FnExactVerifyCast returns true for all arguments, and changes nothing. No conditions.
-/
import Derived.Test.YtikmcaegilhfeaaRows
import Derived.Test.YtikmcaegilhfeaaVcastLaw
import Derived.ProofKit
namespace Go.Proofs.Ytikmcaegilhfeaa
open Go.ChangeShapes Go.WideShapes Go.ChangeAt Go.RowKit

theorem rvcast_own : ownKnob Try.prog.godebug = none := by kernel_rfl

set_option maxRecDepth 100000 in
theorem rvcast_lifted (os : Os) (started : os.Started) (H : Type) (enc : TypeId × Value → H) :
    ReturnsInHanded {} Try.checked os 13 .any (Rows.fnExactVerifyCastSpec.pre6 enc Try.prog Try.f13 Rows.fnExactVerifyCastRow.domain false) (Rows.fnExactVerifyCastSpec.post enc Try.prog Try.f13 false true false false) := by
  refine returnsInHanded_of_change (C := Try.checked) rvcast_own started (by kernel_rfl) Try.func13
    (ChangeSpec.witness6 (enc := enc) (C := Try.checked) false ⟨#[], #[.agg #[.int .i64 0, .int .i64 0, .int .i64 0], .agg #[.int .i64 0, .int .i64 0, .int .i64 0, .int .i64 0, .slice none 0 0, .slice none 0 0, .slice none 0 0]], []⟩ 8 (by kernel_rfl) (by kernel_rfl) (by kernel_rfl) (by kernel_rfl)) ?_
  intro W base args ds gs before hval hW _ _
  exact Vd.row_calls (C := Try.checked) (f := 13) (fn := Try.f13) (tb := 4) (con := Vd.c_L_FnExactVerifyCast) Vd.m_L_FnExactVerifyCast rfl (by kernel_rfl) (fun x hx => ⟨true, Vd.law_FnExactVerifyCast x hx, rfl⟩) rfl
    (fun ds hds => match ds, hds with | [d0, d1], _ => ⟨rfl, rfl, rfl⟩) rfl Try.underlying4 (by kernel_rfl) (by kernel_rfl) W base args ds gs before hval hW

theorem rvcast_holds : Rows.FnExactVerifyCastSaid :=
  OpenClaim.holds_of_wide 13 Try.f13 rfl rfl rfl rfl rfl rfl rfl ⟨rfl, rfl, rfl, rfl, rfl⟩ rfl rfl rfl rfl rfl (by kernel_rfl) Try.func13 (by kernel_rfl)
    (of_decide_eq_true (by kernel_rfl)) (by unfold Func.isWrapper; rw [if_neg (by decide +kernel)]; exact ⟨rfl, rfl⟩)
    (fun os started H enc _ => rvcast_lifted os started H enc)

#print axioms rvcast_holds
end Go.Proofs.Ytikmcaegilhfeaa
