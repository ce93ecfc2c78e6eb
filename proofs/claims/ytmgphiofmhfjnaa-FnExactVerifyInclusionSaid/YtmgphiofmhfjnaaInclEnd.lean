/-
  The law FnExactVerifyInclusion returns true for all arguments, and changes nothing. No conditions.
-/
import Derived.Test.YtmgphiofmhfjnaaRows
import Derived.Test.YtmgphiofmhfjnaaInclLaw
import Derived.ProofKit
namespace Go.Proofs.Ytmgphiofmhfjnaa
open Go.ChangeShapes Go.WideShapes Go.ChangeAt Go.RowKit

theorem rincl_own : ownKnob Try.prog.godebug = none := by kernel_rfl

set_option maxRecDepth 100000 in
theorem rincl_lifted (os : Os) (started : os.Started) (H : Type) (enc : TypeId × Value → H) :
    ReturnsInHanded {} Try.checked os 7 .any (Rows.fnExactVerifyInclusionSpec.pre6 enc Try.prog Try.f7 Rows.fnExactVerifyInclusionRow.domain false) (Rows.fnExactVerifyInclusionSpec.post enc Try.prog Try.f7 false true false false) := by
  refine returnsInHanded_of_change (C := Try.checked) rincl_own started (by kernel_rfl) Try.func7
    (ChangeSpec.witness6 (enc := enc) (C := Try.checked) false ⟨#[], #[.int .i64 0, .int .i64 0, .int .i64 0, .slice none 0 0, .int .i64 0], []⟩ 8 (by kernel_rfl) (by kernel_rfl) (by kernel_rfl) (by kernel_rfl)) ?_
  intro W base args ds gs before hval hW _ _
  exact Vd.row_calls (C := Try.checked) (f := 7) (fn := Try.f7) (tb := 4) (con := Vd.c_L_FnExactVerifyInclusion) Vd.m_L_FnExactVerifyInclusion rfl (by kernel_rfl) (fun x hx => ⟨true, Vd.law_FnExactVerifyInclusion x, rfl⟩) rfl
    (fun ds hds => match ds, hds with | [d0, d1, d2, d3, d4], _ => ⟨rfl, rfl, rfl⟩) rfl Try.underlying4 (by kernel_rfl) (by kernel_rfl) W base args ds gs before hval hW

theorem rincl_holds : Rows.FnExactVerifyInclusionSaid :=
  OpenClaim.holds_of_wide 7 Try.f7 rfl rfl rfl rfl rfl rfl rfl ⟨rfl, rfl, rfl, rfl, rfl⟩ rfl rfl rfl rfl rfl (by kernel_rfl) Try.func7 (by kernel_rfl)
    (of_decide_eq_true (by kernel_rfl)) (by unfold Func.isWrapper; rw [if_neg (by decide +kernel)]; exact ⟨rfl, rfl⟩)
    (fun os started H enc _ => rincl_lifted os started H enc)

#print axioms rincl_holds
end Go.Proofs.Ytmgphiofmhfjnaa
