/-
  The law FnExactNodeDigest returns true for all arguments, and changes nothing. No conditions.
-/
import Derived.Test.YtlacogoljcpijaaRows
import Derived.Test.YtlacogoljcpijaaNodeLaw
import Derived.ProofKit
namespace Go.Proofs.Ytlacogoljcpijaa
open Go.ChangeShapes Go.WideShapes Go.ChangeAt Go.RowKit

theorem rnode_own : ownKnob Try.prog.godebug = none := by kernel_rfl

set_option maxRecDepth 100000 in
theorem rnode_lifted (os : Os) (started : os.Started) (H : Type) (enc : TypeId × Value → H) :
    ReturnsInHanded {} Try.checked os 7 .any (Rows.fnExactNodeDigestSpec.pre6 enc Try.prog Try.f7 Rows.fnExactNodeDigestRow.domain false) (Rows.fnExactNodeDigestSpec.post enc Try.prog Try.f7 false true false false) := by
  refine returnsInHanded_of_change (C := Try.checked) rnode_own started (by kernel_rfl) Try.func7
    (ChangeSpec.witness6 (enc := enc) (C := Try.checked) false ⟨#[], #[.int .i64 0, .int .i64 0], []⟩ 8 (by kernel_rfl) (by kernel_rfl) (by kernel_rfl) (by kernel_rfl)) ?_
  intro W base args ds gs before hval hW _ _
  exact Vd.row_calls (C := Try.checked) (f := 7) (fn := Try.f7) (tb := 4) (con := Vd.c_L_FnExactNodeDigest) Vd.m_L_FnExactNodeDigest rfl (by kernel_rfl) (fun x hx => ⟨true, Vd.law_FnExactNodeDigest x, rfl⟩) rfl
    (fun ds hds => match ds, hds with | [d0, d1], _ => ⟨rfl, rfl, rfl⟩) rfl Try.underlying4 (by kernel_rfl) (by kernel_rfl) W base args ds gs before hval hW

theorem rnode_holds : Rows.FnExactNodeDigestSaid :=
  OpenClaim.holds_of_wide 7 Try.f7 rfl rfl rfl rfl rfl rfl rfl ⟨rfl, rfl, rfl, rfl, rfl⟩ rfl rfl rfl rfl rfl (by kernel_rfl) Try.func7 (by kernel_rfl)
    (of_decide_eq_true (by kernel_rfl)) (by unfold Func.isWrapper; rw [if_neg (by decide +kernel)]; exact ⟨rfl, rfl⟩)
    (fun os started H enc _ => rnode_lifted os started H enc)

#print axioms rnode_holds
end Go.Proofs.Ytlacogoljcpijaa
