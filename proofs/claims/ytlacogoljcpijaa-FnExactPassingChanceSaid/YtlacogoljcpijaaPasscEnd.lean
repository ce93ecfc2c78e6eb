/-
  The law FnExactPassingChance returns true for all arguments, and changes nothing. No conditions.
-/
import Derived.Test.YtlacogoljcpijaaRows
import Derived.Test.YtlacogoljcpijaaPasscLaw
import Derived.ProofKit
namespace Go.Proofs.Ytlacogoljcpijaa
open Go.ChangeShapes Go.WideShapes Go.ChangeAt Go.RowKit

theorem rpassc_own : ownKnob Try.prog.godebug = none := by kernel_rfl

set_option maxRecDepth 100000 in
theorem rpassc_lifted (os : Os) (started : os.Started) (H : Type) (enc : TypeId × Value → H) :
    ReturnsInHanded {} Try.checked os 13 .any (Rows.fnExactPassingChanceSpec.pre6 enc Try.prog Try.f13 Rows.fnExactPassingChanceRow.domain false) (Rows.fnExactPassingChanceSpec.post enc Try.prog Try.f13 false true false false) := by
  refine returnsInHanded_of_change (C := Try.checked) rpassc_own started (by kernel_rfl) Try.func13
    (ChangeSpec.witness6 (enc := enc) (C := Try.checked) false ⟨#[], #[.int .i64 0, .slice none 0 0], []⟩ 8 (by kernel_rfl) (by kernel_rfl) (by kernel_rfl) (by kernel_rfl)) ?_
  intro W base args ds gs before hval hW _ _
  exact Vd.row_calls (C := Try.checked) (f := 13) (fn := Try.f13) (tb := 4) (con := Vd.c_L_FnExactPassingChance) Vd.m_L_FnExactPassingChance rfl (by kernel_rfl) (fun x hx => ⟨true, Vd.law_FnExactPassingChance x, rfl⟩) rfl
    (fun ds hds => match ds, hds with | [d0, d1], _ => ⟨rfl, rfl, rfl⟩) rfl Try.underlying4 (by kernel_rfl) (by kernel_rfl) W base args ds gs before hval hW

theorem rpassc_holds : Rows.FnExactPassingChanceSaid :=
  OpenClaim.holds_of_wide 13 Try.f13 rfl rfl rfl rfl rfl rfl rfl ⟨rfl, rfl, rfl, rfl, rfl⟩ rfl rfl rfl rfl rfl (by kernel_rfl) Try.func13 (by kernel_rfl)
    (of_decide_eq_true (by kernel_rfl)) (by unfold Func.isWrapper; rw [if_neg (by decide +kernel)]; exact ⟨rfl, rfl⟩)
    (fun os started H enc _ => rpassc_lifted os started H enc)

#print axioms rpassc_holds
end Go.Proofs.Ytlacogoljcpijaa
