/-
  The law FnExactDecodeTally returns true for all arguments, and changes nothing. No conditions.
-/
import Derived.Test.YtmgphiofmhfjnaaRows
import Derived.Test.YtmgphiofmhfjnaaDecodeLaw
import Derived.ProofKit
namespace Go.Proofs.Ytmgphiofmhfjnaa
open Go.ChangeShapes Go.WideShapes Go.ChangeAt Go.RowKit

theorem rdecode_own : ownKnob Try.prog.godebug = none := by kernel_rfl

set_option maxRecDepth 100000 in
theorem rdecode_lifted (os : Os) (started : os.Started) (H : Type) (enc : TypeId × Value → H) :
    ReturnsInHanded {} Try.checked os 4 .any (Rows.fnExactDecodeTallySpec.pre6 enc Try.prog Try.f4 Rows.fnExactDecodeTallyRow.domain false) (Rows.fnExactDecodeTallySpec.post enc Try.prog Try.f4 false true false false) := by
  refine returnsInHanded_of_change (C := Try.checked) rdecode_own started (by kernel_rfl) Try.func4
    (ChangeSpec.witness6 (enc := enc) (C := Try.checked) false ⟨#[], #[.agg #[.int .i64 0, .int .i64 0, .int .i64 0], .slice none 0 0, .int .i64 0], []⟩ 8 (by kernel_rfl) (by kernel_rfl) (by kernel_rfl) (by kernel_rfl)) ?_
  intro W base args ds gs before hval hW _ _
  exact Vd.row_calls (C := Try.checked) (f := 4) (fn := Try.f4) (tb := 4) (con := Vd.c_L_FnExactDecodeTally) Vd.m_L_FnExactDecodeTally rfl (by kernel_rfl) (fun x hx => ⟨true, Vd.law_FnExactDecodeTally x, rfl⟩) rfl
    (fun ds hds => match ds, hds with | [d0, d1, d2], _ => ⟨rfl, rfl, rfl⟩) rfl Try.underlying4 (by kernel_rfl) (by kernel_rfl) W base args ds gs before hval hW

theorem rdecode_holds : Rows.FnExactDecodeTallySaid :=
  OpenClaim.holds_of_wide 4 Try.f4 rfl rfl rfl rfl rfl rfl rfl ⟨rfl, rfl, rfl, rfl, rfl⟩ rfl rfl rfl rfl rfl (by kernel_rfl) Try.func4 (by kernel_rfl)
    (of_decide_eq_true (by kernel_rfl)) (by unfold Func.isWrapper; rw [if_neg (by decide +kernel)]; exact ⟨rfl, rfl⟩)
    (fun os started H enc _ => rdecode_lifted os started H enc)

#print axioms rdecode_holds
end Go.Proofs.Ytmgphiofmhfjnaa
