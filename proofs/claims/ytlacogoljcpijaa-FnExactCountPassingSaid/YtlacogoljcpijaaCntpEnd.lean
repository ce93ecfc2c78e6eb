/-
  The law FnExactCountPassing returns true for all arguments, and changes nothing. No conditions.
-/
import Derived.Test.YtlacogoljcpijaaRows
import Derived.Test.YtlacogoljcpijaaCntpLaw
import Derived.ProofKit
namespace Go.Proofs.Ytlacogoljcpijaa
open Go.ChangeShapes Go.WideShapes Go.ChangeAt Go.RowKit

theorem rcntp_own : ownKnob Try.prog.godebug = none := by kernel_rfl

set_option maxRecDepth 100000 in
theorem rcntp_lifted (os : Os) (started : os.Started) (H : Type) (enc : TypeId × Value → H) :
    ReturnsInHanded {} Try.checked os 10 .any (Rows.fnExactCountPassingSpec.pre6 enc Try.prog Try.f10 Rows.fnExactCountPassingRow.domain false) (Rows.fnExactCountPassingSpec.post enc Try.prog Try.f10 false true false false) := by
  refine returnsInHanded_of_change (C := Try.checked) rcntp_own started (by kernel_rfl) Try.func10
    (ChangeSpec.witness6 (enc := enc) (C := Try.checked) false ⟨#[], #[.int .i64 0, .slice none 0 0], []⟩ 8 (by kernel_rfl) (by kernel_rfl) (by kernel_rfl) (by kernel_rfl)) ?_
  intro W base args ds gs before hval hW _ _
  exact Vd.row_calls (C := Try.checked) (f := 10) (fn := Try.f10) (tb := 4) (con := Vd.c_L_FnExactCountPassing) Vd.m_L_FnExactCountPassing rfl (by kernel_rfl) (fun x hx => ⟨true, Vd.law_FnExactCountPassing x, rfl⟩) rfl
    (fun ds hds => match ds, hds with | [d0, d1], _ => ⟨rfl, rfl, rfl⟩) rfl Try.underlying4 (by kernel_rfl) (by kernel_rfl) W base args ds gs before hval hW

theorem rcntp_holds : Rows.FnExactCountPassingSaid :=
  OpenClaim.holds_of_wide 10 Try.f10 rfl rfl rfl rfl rfl rfl rfl ⟨rfl, rfl, rfl, rfl, rfl⟩ rfl rfl rfl rfl rfl (by kernel_rfl) Try.func10 (by kernel_rfl)
    (of_decide_eq_true (by kernel_rfl)) (by unfold Func.isWrapper; rw [if_neg (by decide +kernel)]; exact ⟨rfl, rfl⟩)
    (fun os started H enc _ => rcntp_lifted os started H enc)

#print axioms rcntp_holds
end Go.Proofs.Ytlacogoljcpijaa
