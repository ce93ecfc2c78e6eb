/-
  The law FnPairwise returns true for all arguments, and changes nothing. No conditions.
-/
import Derived.Test.YtgjneigkkgaaiaaRows
import Derived.Test.YtgjneigkkgaaiaaPwLaw
import Derived.ProofKit
namespace Go.Proofs.Ytgjneigkkgaaiaa
open Go.ChangeShapes Go.WideShapes Go.ChangeAt Go.RowKit

theorem rpw_own : ownKnob Try.prog.godebug = none := by kernel_rfl

set_option maxRecDepth 100000 in
theorem rpw_lifted (os : Os) (started : os.Started) (H : Type) (enc : TypeId × Value → H) :
    ReturnsInHanded {} Try.checked os 8 .any (Rows.fnPairwiseSpec.pre6 enc Try.prog Try.f8 Rows.fnPairwiseRow.domain false) (Rows.fnPairwiseSpec.post enc Try.prog Try.f8 false true false false) := by
  refine returnsInHanded_of_change (C := Try.checked) rpw_own started (by kernel_rfl) Try.func8
    (ChangeSpec.witness6 (enc := enc) (C := Try.checked) false ⟨#[], #[.slice none 0 0, .slice none 0 0], []⟩ 8 (by kernel_rfl) (by kernel_rfl) (by kernel_rfl) (by kernel_rfl)) ?_
  intro W base args ds gs before hval hW _ _
  exact Vd.row_calls (C := Try.checked) (f := 8) (fn := Try.f8) (tb := 4) (con := Vd.c_L_FnPairwise) Vd.m_L_FnPairwise rfl (by kernel_rfl) (fun x hx => ⟨true, Vd.law_FnPairwise x hx, rfl⟩) rfl
    (fun ds hds => match ds, hds with | [d0, d1], _ => ⟨rfl, rfl, rfl⟩) rfl Try.underlying4 (by kernel_rfl) (by kernel_rfl) W base args ds gs before hval hW

set_option maxHeartbeats 4000000 in
theorem rpw_holds : Rows.FnPairwiseSaid := by
  refine OpenClaim.holds_of_wide 8 Try.f8 rfl rfl rfl rfl rfl rfl rfl ⟨rfl, rfl, rfl, rfl, rfl⟩ rfl rfl rfl rfl rfl ?a Try.func8 ?b ?c ?d
    (fun os started H enc _ => rpw_lifted os started H enc)
  case a => as_aux_lemma => kernel_rfl
  case b => as_aux_lemma => kernel_rfl
  case c => as_aux_lemma => exact of_decide_eq_true (by kernel_rfl)
  case d => (as_aux_lemma => unfold Func.isWrapper; rw [if_neg (by decide +kernel)]; exact ⟨rfl, rfl⟩)

#print axioms rpw_holds
end Go.Proofs.Ytgjneigkkgaaiaa
