/-
  The law FnExactBordaScores returns true for all arguments, and changes nothing. No conditions.
-/
import Derived.Test.YtmgphiofmhfjnaaRows
import Derived.Test.YtmgphiofmhfjnaaBordaLaw
import Derived.ProofKit
namespace Go.Proofs.Ytmgphiofmhfjnaa
open Go.ChangeShapes Go.WideShapes Go.ChangeAt Go.RowKit

theorem rborda_own : ownKnob Try.prog.godebug = none := by kernel_rfl

set_option maxRecDepth 100000 in
theorem rborda_lifted (os : Os) (started : os.Started) (H : Type) (enc : TypeId × Value → H) :
    ReturnsInHanded {} Try.checked os 5 .any (Rows.fnExactBordaScoresSpec.pre6 enc Try.prog Try.f5 Rows.fnExactBordaScoresRow.domain false) (Rows.fnExactBordaScoresSpec.post enc Try.prog Try.f5 false true false false) := by
  refine returnsInHanded_of_change (C := Try.checked) rborda_own started (by kernel_rfl) Try.func5
    (ChangeSpec.witness6 (enc := enc) (C := Try.checked) false ⟨#[], #[.int .i64 0, .slice none 0 0], []⟩ 8 (by kernel_rfl) (by kernel_rfl) (by kernel_rfl) (by kernel_rfl)) ?_
  intro W base args ds gs before hval hW _ _
  exact Vd.row_calls (C := Try.checked) (f := 5) (fn := Try.f5) (tb := 4) (con := Vd.c_L_FnExactBordaScores) Vd.m_L_FnExactBordaScores rfl (by kernel_rfl) (fun x hx => ⟨true, Vd.law_FnExactBordaScores x hx, rfl⟩) rfl
    (fun ds hds => match ds, hds with | [d0, d1], _ => ⟨rfl, rfl, rfl⟩) rfl Try.underlying4 (by kernel_rfl) (by kernel_rfl) W base args ds gs before hval hW

theorem rborda_holds : Rows.FnExactBordaScoresSaid :=
  OpenClaim.holds_of_wide 5 Try.f5 rfl rfl rfl rfl rfl rfl rfl ⟨rfl, rfl, rfl, rfl, rfl⟩ rfl rfl rfl rfl rfl (by kernel_rfl) Try.func5 (by kernel_rfl)
    (of_decide_eq_true (by kernel_rfl)) (by unfold Func.isWrapper; rw [if_neg (by decide +kernel)]; exact ⟨rfl, rfl⟩)
    (fun os started H enc _ => rborda_lifted os started H enc)

#print axioms rborda_holds
end Go.Proofs.Ytmgphiofmhfjnaa
