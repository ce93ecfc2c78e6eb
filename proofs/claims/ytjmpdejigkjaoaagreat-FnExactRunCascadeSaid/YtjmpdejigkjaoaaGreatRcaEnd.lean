/-
  The law FnExactRunCascade returns true for all arguments, and changes nothing. No conditions.
-/
import Derived.Test.YtjmpdejigkjaoaaGreatRows
import Derived.Test.YtjmpdejigkjaoaaGreatRcaLaw2
import Derived.ProofKit
namespace Go.Proofs.YtjmpdejigkjaoaaGreat
open Go.ChangeShapes Go.WideShapes Go.ChangeAt Go.RowKit

theorem rrca_own : ownKnob Tryz.prog.godebug = none := by kernel_rfl

set_option maxRecDepth 100000 in
theorem rrca_lifted (os : Os) (started : os.Started) (H : Type) (enc : TypeId × Value → H) :
    ReturnsInHanded {} Tryz.checked os 7 .any (Rows.fnExactRunCascadeSpec.pre6 enc Tryz.prog Tryz.f7 Rows.fnExactRunCascadeRow.domain false) (Rows.fnExactRunCascadeSpec.post enc Tryz.prog Tryz.f7 false true false false) := by
  refine returnsInHanded_of_change (C := Tryz.checked) rrca_own started (by kernel_rfl) Tryz.func7
    (ChangeSpec.witness6 (enc := enc) (C := Tryz.checked) false ⟨#[], #[.agg #[.int .i64 0, .int .i64 0, .int .i64 0], .int .i64 0, .slice none 0 0, .slice none 0 0, .slice none 0 0, .slice none 0 0], []⟩ 8 (by kernel_rfl) (by kernel_rfl) (by kernel_rfl) (by kernel_rfl)) ?_
  intro W base args ds gs before hval hW _ _
  exact Vd.row_calls (C := Tryz.checked) (f := 7) (fn := Tryz.f7) (tb := 4) (con := Vd.c_L_FnExactRunCascade) Vd.m_L_FnExactRunCascade rfl (by kernel_rfl) (fun x hx => ⟨true, Vd.law_FnExactRunCascade x hx, rfl⟩) rfl
    (fun ds hds => match ds, hds with | [d0, d1, d2, d3, d4, d5], _ => ⟨rfl, rfl, rfl⟩) rfl Tryz.underlying4 (by kernel_rfl) (by kernel_rfl) W base args ds gs before hval hW

set_option maxHeartbeats 4000000 in
theorem rrca_holds : Rows.FnExactRunCascadeSaid := by
  refine OpenClaim.holds_of_wide 7 Tryz.f7 rfl rfl rfl rfl rfl rfl rfl ⟨rfl, rfl, rfl, rfl, rfl⟩ rfl rfl rfl rfl rfl ?a Tryz.func7 ?b ?c ?d
    (fun os started H enc _ => rrca_lifted os started H enc)
  case a => as_aux_lemma => kernel_rfl
  case b => as_aux_lemma => kernel_rfl
  case c => as_aux_lemma => exact of_decide_eq_true (by kernel_rfl)
  case d => (as_aux_lemma => unfold Func.isWrapper; rw [if_neg (by decide +kernel)]; exact ⟨rfl, rfl⟩)

#print axioms rrca_holds
end Go.Proofs.YtjmpdejigkjaoaaGreat
