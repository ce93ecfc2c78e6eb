/-
  The law FnExactFakeCredential returns true for all arguments, and changes nothing. No conditions.
-/
import Derived.Test.YtlacogoljcpijaaRows
import Derived.Test.YtlacogoljcpijaaFakeLaw
import Derived.ProofKit
namespace Go.Proofs.Ytlacogoljcpijaa
open Go.ChangeShapes Go.WideShapes Go.ChangeAt Go.RowKit

theorem rfake_own : ownKnob Try.prog.godebug = none := by kernel_rfl

set_option maxRecDepth 100000 in
theorem rfake_lifted (os : Os) (started : os.Started) (H : Type) (enc : TypeId × Value → H) :
    ReturnsInHanded {} Try.checked os 11 .any (Rows.fnExactFakeCredentialSpec.pre6 enc Try.prog Try.f11 Rows.fnExactFakeCredentialRow.domain false) (Rows.fnExactFakeCredentialSpec.post enc Try.prog Try.f11 false true false false) := by
  refine returnsInHanded_of_change (C := Try.checked) rfake_own started (by kernel_rfl) Try.func11
    (ChangeSpec.witness6 (enc := enc) (C := Try.checked) false ⟨#[], #[.agg #[.int .i64 0, .int .i64 0, .int .i64 0], .int .i64 0, .int .i64 0], []⟩ 8 (by kernel_rfl) (by kernel_rfl) (by kernel_rfl) (by kernel_rfl)) ?_
  intro W base args ds gs before hval hW _ _
  exact Vd.row_calls (C := Try.checked) (f := 11) (fn := Try.f11) (tb := 4) (con := Vd.c_L_FnExactFakeCredential) Vd.m_L_FnExactFakeCredential rfl (by kernel_rfl) (fun x hx => ⟨true, Vd.law_FnExactFakeCredential x, rfl⟩) rfl
    (fun ds hds => match ds, hds with | [d0, d1, d2], _ => ⟨rfl, rfl, rfl⟩) rfl Try.underlying4 (by kernel_rfl) (by kernel_rfl) W base args ds gs before hval hW

theorem rfake_holds : Rows.FnExactFakeCredentialSaid :=
  OpenClaim.holds_of_wide 11 Try.f11 rfl rfl rfl rfl rfl rfl rfl ⟨rfl, rfl, rfl, rfl, rfl⟩ rfl rfl rfl rfl rfl (by kernel_rfl) Try.func11 (by kernel_rfl)
    (of_decide_eq_true (by kernel_rfl)) (by unfold Func.isWrapper; rw [if_neg (by decide +kernel)]; exact ⟨rfl, rfl⟩)
    (fun os started H enc _ => rfake_lifted os started H enc)

#print axioms rfake_holds
end Go.Proofs.Ytlacogoljcpijaa
