/-
  The law FnExactPlaceCommits returns true for all arguments, and changes nothing. No conditions.
-/
import Derived.Test.YtikmcaegilhfeaaRows
import Derived.Test.YtikmcaegilhfeaaPlcLaw
import Derived.ProofKit
namespace Go.Proofs.Ytikmcaegilhfeaa
open Go.ChangeShapes Go.WideShapes Go.ChangeAt Go.RowKit

theorem rplc_own : ownKnob Try.prog.godebug = none := by kernel_rfl

set_option maxRecDepth 100000 in
theorem rplc_lifted (os : Os) (started : os.Started) (H : Type) (enc : TypeId × Value → H) :
    ReturnsInHanded {} Try.checked os 14 .any (Rows.fnExactPlaceCommitsSpec.pre6 enc Try.prog Try.f14 Rows.fnExactPlaceCommitsRow.domain false) (Rows.fnExactPlaceCommitsSpec.post enc Try.prog Try.f14 false true false false) := by
  refine returnsInHanded_of_change (C := Try.checked) rplc_own started (by kernel_rfl) Try.func14
    (ChangeSpec.witness6 (enc := enc) (C := Try.checked) false ⟨#[], #[.agg #[.int .i64 0, .int .i64 0, .int .i64 0], .slice none 0 0, .slice none 0 0], []⟩ 8 (by kernel_rfl) (by kernel_rfl) (by kernel_rfl) (by kernel_rfl)) ?_
  intro W base args ds gs before hval hW _ _
  exact Vd.row_calls (C := Try.checked) (f := 14) (fn := Try.f14) (tb := 4) (con := Vd.c_L_FnExactPlaceCommits) Vd.m_L_FnExactPlaceCommits rfl (by kernel_rfl) (fun x hx => ⟨true, Vd.law_FnExactPlaceCommits x, rfl⟩) rfl
    (fun ds hds => match ds, hds with | [d0, d1, d2], _ => ⟨rfl, rfl, rfl⟩) rfl Try.underlying4 (by kernel_rfl) (by kernel_rfl) W base args ds gs before hval hW

theorem rplc_holds : Rows.FnExactPlaceCommitsSaid :=
  OpenClaim.holds_of_wide 14 Try.f14 rfl rfl rfl rfl rfl rfl rfl ⟨rfl, rfl, rfl, rfl, rfl⟩ rfl rfl rfl rfl rfl (by kernel_rfl) Try.func14 (by kernel_rfl)
    (of_decide_eq_true (by kernel_rfl)) (by unfold Func.isWrapper; rw [if_neg (by decide +kernel)]; exact ⟨rfl, rfl⟩)
    (fun os started H enc _ => rplc_lifted os started H enc)

#print axioms rplc_holds
end Go.Proofs.Ytikmcaegilhfeaa
