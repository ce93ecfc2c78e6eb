/-
  The law FnExactRootOf returns true for all arguments, and changes nothing. No conditions.
-/
import Derived.Test.YtmgphiofmhfjnaaRows
import Derived.Test.YtmgphiofmhfjnaaRootLaw
import Derived.ProofKit
namespace Go.Proofs.Ytmgphiofmhfjnaa
open Go.ChangeShapes Go.WideShapes Go.ChangeAt Go.RowKit

theorem rroot_own : ownKnob Try.prog.godebug = none := by kernel_rfl

set_option maxRecDepth 100000 in
theorem rroot_lifted (os : Os) (started : os.Started) (H : Type) (enc : TypeId × Value → H) :
    ReturnsInHanded {} Try.checked os 6 .any (Rows.fnExactRootOfSpec.pre6 enc Try.prog Try.f6 Rows.fnExactRootOfRow.domain false) (Rows.fnExactRootOfSpec.post enc Try.prog Try.f6 false true false false) := by
  refine returnsInHanded_of_change (C := Try.checked) rroot_own started (by kernel_rfl) Try.func6
    (ChangeSpec.witness6 (enc := enc) (C := Try.checked) false ⟨#[], #[.slice none 0 0], []⟩ 8 (by kernel_rfl) (by kernel_rfl) (by kernel_rfl) (by kernel_rfl)) ?_
  intro W base args ds gs before hval hW _ _
  exact Vd.row_calls (C := Try.checked) (f := 6) (fn := Try.f6) (tb := 4) (con := Vd.c_L_FnExactRootOf) Vd.m_L_FnExactRootOf rfl (by kernel_rfl) (fun x hx => ⟨true, Vd.law_FnExactRootOf x, rfl⟩) rfl
    (fun ds hds => match ds, hds with | [d0], _ => ⟨rfl, rfl, rfl⟩) rfl Try.underlying4 (by kernel_rfl) (by kernel_rfl) W base args ds gs before hval hW

theorem rroot_holds : Rows.FnExactRootOfSaid :=
  OpenClaim.holds_of_wide 6 Try.f6 rfl rfl rfl rfl rfl rfl rfl ⟨rfl, rfl, rfl, rfl, rfl⟩ rfl rfl rfl rfl rfl (by kernel_rfl) Try.func6 (by kernel_rfl)
    (of_decide_eq_true (by kernel_rfl)) (by unfold Func.isWrapper; rw [if_neg (by decide +kernel)]; exact ⟨rfl, rfl⟩)
    (fun os started H enc _ => rroot_lifted os started H enc)

#print axioms rroot_holds
end Go.Proofs.Ytmgphiofmhfjnaa
