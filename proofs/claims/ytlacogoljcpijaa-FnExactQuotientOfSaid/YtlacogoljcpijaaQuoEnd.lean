/-
  The law FnExactQuotientOf returns true for all arguments, and changes nothing. No conditions.
-/
import Derived.Test.YtlacogoljcpijaaRows
import Derived.Test.YtlacogoljcpijaaQuoLaw
import Derived.ProofKit
namespace Go.Proofs.Ytlacogoljcpijaa
open Go.ChangeShapes Go.WideShapes Go.ChangeAt Go.RowKit

theorem rquo_own : ownKnob Try.prog.godebug = none := by kernel_rfl

set_option maxRecDepth 100000 in
theorem rquo_lifted (os : Os) (started : os.Started) (H : Type) (enc : TypeId × Value → H) :
    ReturnsInHanded {} Try.checked os 12 .any (Rows.fnExactQuotientOfSpec.pre6 enc Try.prog Try.f12 Rows.fnExactQuotientOfRow.domain false) (Rows.fnExactQuotientOfSpec.post enc Try.prog Try.f12 false true false false) := by
  refine returnsInHanded_of_change (C := Try.checked) rquo_own started (by kernel_rfl) Try.func12
    (ChangeSpec.witness6 (enc := enc) (C := Try.checked) false ⟨#[], #[.agg #[.int .i64 0, .int .i64 0, .int .i64 0], .agg #[.int .i64 0, .int .i64 0], .agg #[.int .i64 0, .int .i64 0]], []⟩ 8 (by kernel_rfl) (by kernel_rfl) (by kernel_rfl) (by kernel_rfl)) ?_
  intro W base args ds gs before hval hW _ _
  exact Vd.row_calls (C := Try.checked) (f := 12) (fn := Try.f12) (tb := 4) (con := Vd.c_L_FnExactQuotientOf) Vd.m_L_FnExactQuotientOf rfl (by kernel_rfl) (fun x hx => ⟨true, Vd.law_FnExactQuotientOf x, rfl⟩) rfl
    (fun ds hds => match ds, hds with | [d0, d1, d2], _ => ⟨rfl, rfl, rfl⟩) rfl Try.underlying4 (by kernel_rfl) (by kernel_rfl) W base args ds gs before hval hW

theorem rquo_holds : Rows.FnExactQuotientOfSaid :=
  OpenClaim.holds_of_wide 12 Try.f12 rfl rfl rfl rfl rfl rfl rfl ⟨rfl, rfl, rfl, rfl, rfl⟩ rfl rfl rfl rfl rfl (by kernel_rfl) Try.func12 (by kernel_rfl)
    (of_decide_eq_true (by kernel_rfl)) (by unfold Func.isWrapper; rw [if_neg (by decide +kernel)]; exact ⟨rfl, rfl⟩)
    (fun os started H enc _ => rquo_lifted os started H enc)

#print axioms rquo_holds
end Go.Proofs.Ytlacogoljcpijaa
