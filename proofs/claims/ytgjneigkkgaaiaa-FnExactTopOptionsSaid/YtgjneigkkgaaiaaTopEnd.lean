/-
  The law FnExactTopOptions returns true for all arguments, and changes nothing. No conditions.
-/
import Derived.Test.YtgjneigkkgaaiaaRows
import Derived.Test.YtgjneigkkgaaiaaTopLaw
import Derived.ProofKit
namespace Go.Proofs.Ytgjneigkkgaaiaa
open Go.ChangeShapes Go.WideShapes Go.ChangeAt Go.RowKit

theorem rtop_own : ownKnob Try.prog.godebug = none := by kernel_rfl

set_option maxRecDepth 100000 in
theorem rtop_lifted (os : Os) (started : os.Started) (H : Type) (enc : TypeId × Value → H) :
    ReturnsInHanded {} Try.checked os 3 .any (Rows.fnExactTopOptionsSpec.pre6 enc Try.prog Try.f3 Rows.fnExactTopOptionsRow.domain false) (Rows.fnExactTopOptionsSpec.post enc Try.prog Try.f3 false true false false) := by
  refine returnsInHanded_of_change (C := Try.checked) rtop_own started (by kernel_rfl) Try.func3
    (ChangeSpec.witness6 (enc := enc) (C := Try.checked) false ⟨#[], #[.slice none 0 0, .int .i64 0], []⟩ 8 (by kernel_rfl) (by kernel_rfl) (by kernel_rfl) (by kernel_rfl)) ?_
  intro W base args ds gs before hval hW _ _
  exact Vd.row_calls (C := Try.checked) (f := 3) (fn := Try.f3) (tb := 4) (con := Vd.c_L_FnExactTopOptions) Vd.m_L_FnExactTopOptions rfl (by kernel_rfl) (fun x hx => ⟨true, Vd.law_FnExactTopOptions x, rfl⟩) rfl
    (fun ds hds => match ds, hds with | [d0, d1], _ => ⟨rfl, rfl, rfl⟩) rfl Try.underlying4 (by kernel_rfl) (by kernel_rfl) W base args ds gs before hval hW

set_option maxHeartbeats 4000000 in
theorem rtop_holds : Rows.FnExactTopOptionsSaid := by
  refine OpenClaim.holds_of_wide 3 Try.f3 rfl rfl rfl rfl rfl rfl rfl ⟨rfl, rfl, rfl, rfl, rfl⟩ rfl rfl rfl rfl rfl ?a Try.func3 ?b ?c ?d
    (fun os started H enc _ => rtop_lifted os started H enc)
  case a => as_aux_lemma => kernel_rfl
  case b => as_aux_lemma => kernel_rfl
  case c => as_aux_lemma => exact of_decide_eq_true (by kernel_rfl)
  case d => (as_aux_lemma => unfold Func.isWrapper; rw [if_neg (by decide +kernel)]; exact ⟨rfl, rfl⟩)

#print axioms rtop_holds
end Go.Proofs.Ytgjneigkkgaaiaa
