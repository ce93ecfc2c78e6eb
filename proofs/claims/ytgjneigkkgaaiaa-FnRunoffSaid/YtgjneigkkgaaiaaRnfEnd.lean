/-
  The law FnRunoff returns true for all arguments, and changes nothing. No conditions.
-/
import Derived.Test.YtgjneigkkgaaiaaRows
import Derived.Test.YtgjneigkkgaaiaaRnfLaw
import Derived.ProofKit
namespace Go.Proofs.Ytgjneigkkgaaiaa
open Go.ChangeShapes Go.WideShapes Go.ChangeAt Go.RowKit

theorem rrnf_own : ownKnob Try.prog.godebug = none := by kernel_rfl

set_option maxRecDepth 100000 in
theorem rrnf_lifted (os : Os) (started : os.Started) (H : Type) (enc : TypeId × Value → H) :
    ReturnsInHanded {} Try.checked os 7 .any (Rows.fnRunoffSpec.pre6 enc Try.prog Try.f7 Rows.fnRunoffRow.domain false) (Rows.fnRunoffSpec.post enc Try.prog Try.f7 false true false false) := by
  refine returnsInHanded_of_change (C := Try.checked) rrnf_own started (by kernel_rfl) Try.func7
    (ChangeSpec.witness6 (enc := enc) (C := Try.checked) false ⟨#[], #[.slice none 0 0, .slice none 0 0], []⟩ 8 (by kernel_rfl) (by kernel_rfl) (by kernel_rfl) (by kernel_rfl)) ?_
  intro W base args ds gs before hval hW _ _
  exact Vd.row_calls (C := Try.checked) (f := 7) (fn := Try.f7) (tb := 4) (con := Vd.c_L_FnRunoff) Vd.m_L_FnRunoff rfl (by kernel_rfl) (fun x hx => ⟨true, Vd.law_FnRunoff x hx, rfl⟩) rfl
    (fun ds hds => match ds, hds with | [d0, d1], _ => ⟨rfl, rfl, rfl⟩) rfl Try.underlying4 (by kernel_rfl) (by kernel_rfl) W base args ds gs before hval hW

set_option maxHeartbeats 4000000 in
theorem rrnf_holds : Rows.FnRunoffSaid := by
  refine OpenClaim.holds_of_wide 7 Try.f7 rfl rfl rfl rfl rfl rfl rfl ⟨rfl, rfl, rfl, rfl, rfl⟩ rfl rfl rfl rfl rfl ?a Try.func7 ?b ?c ?d
    (fun os started H enc _ => rrnf_lifted os started H enc)
  case a => as_aux_lemma => kernel_rfl
  case b => as_aux_lemma => kernel_rfl
  case c => as_aux_lemma => exact of_decide_eq_true (by kernel_rfl)
  case d => (as_aux_lemma => unfold Func.isWrapper; rw [if_neg (by decide +kernel)]; exact ⟨rfl, rfl⟩)

#print axioms rrnf_holds
end Go.Proofs.Ytgjneigkkgaaiaa
