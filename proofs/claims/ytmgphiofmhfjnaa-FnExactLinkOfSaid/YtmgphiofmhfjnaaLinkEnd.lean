/-
  The law FnExactLinkOf returns true for all arguments, and changes nothing. No conditions.
-/
import Derived.Test.YtmgphiofmhfjnaaRows
import Derived.Test.YtmgphiofmhfjnaaLinkLaw
import Derived.ProofKit
namespace Go.Proofs.Ytmgphiofmhfjnaa
open Go.ChangeShapes Go.WideShapes Go.ChangeAt Go.RowKit

theorem rlink_own : ownKnob Try.prog.godebug = none := by kernel_rfl

set_option maxRecDepth 100000 in
theorem rlink_lifted (os : Os) (started : os.Started) (H : Type) (enc : TypeId × Value → H) :
    ReturnsInHanded {} Try.checked os 8 .any (Rows.fnExactLinkOfSpec.pre6 enc Try.prog Try.f8 Rows.fnExactLinkOfRow.domain false) (Rows.fnExactLinkOfSpec.post enc Try.prog Try.f8 false true false false) := by
  refine returnsInHanded_of_change (C := Try.checked) rlink_own started (by kernel_rfl) Try.func8
    (ChangeSpec.witness6 (enc := enc) (C := Try.checked) false ⟨#[], #[.slice none 0 0], []⟩ 8 (by kernel_rfl) (by kernel_rfl) (by kernel_rfl) (by kernel_rfl)) ?_
  intro W base args ds gs before hval hW _ _
  exact Vd.row_calls (C := Try.checked) (f := 8) (fn := Try.f8) (tb := 4) (con := Vd.c_L_FnExactLinkOf) Vd.m_L_FnExactLinkOf rfl (by kernel_rfl) (fun x hx => ⟨true, Vd.law_FnExactLinkOf x hx, rfl⟩) rfl
    (fun ds hds => match ds, hds with | [d0], _ => ⟨rfl, rfl, rfl⟩) rfl Try.underlying4 (by kernel_rfl) (by kernel_rfl) W base args ds gs before hval hW

theorem rlink_holds : Rows.FnExactLinkOfSaid :=
  OpenClaim.holds_of_wide 8 Try.f8 rfl rfl rfl rfl rfl rfl rfl ⟨rfl, rfl, rfl, rfl, rfl⟩ rfl rfl rfl rfl rfl (by kernel_rfl) Try.func8 (by kernel_rfl)
    (of_decide_eq_true (by kernel_rfl)) (by unfold Func.isWrapper; rw [if_neg (by decide +kernel)]; exact ⟨rfl, rfl⟩)
    (fun os started H enc _ => rlink_lifted os started H enc)

#print axioms rlink_holds
end Go.Proofs.Ytmgphiofmhfjnaa
