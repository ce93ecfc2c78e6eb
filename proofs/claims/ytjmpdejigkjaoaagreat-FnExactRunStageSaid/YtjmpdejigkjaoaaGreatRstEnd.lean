/-
  The law FnExactRunStage returns true for all arguments, and changes nothing. No conditions.
-/
import Derived.Test.YtjmpdejigkjaoaaGreatRows
import Derived.Test.YtjmpdejigkjaoaaGreatRstLaw2
import Derived.ProofKit
namespace Go.Proofs.YtjmpdejigkjaoaaGreat
open Go.ChangeShapes Go.WideShapes Go.ChangeAt Go.RowKit

theorem rrst_own : ownKnob Tryz.prog.godebug = none := by kernel_rfl

set_option maxRecDepth 100000 in
theorem rrst_lifted (os : Os) (started : os.Started) (H : Type) (enc : TypeId × Value → H) :
    ReturnsInHanded {} Tryz.checked os 6 .any (Rows.fnExactRunStageSpec.pre6 enc Tryz.prog Tryz.f6 Rows.fnExactRunStageRow.domain false) (Rows.fnExactRunStageSpec.post enc Tryz.prog Tryz.f6 false true false false) := by
  refine returnsInHanded_of_change (C := Tryz.checked) rrst_own started (by kernel_rfl) Tryz.func6
    (ChangeSpec.witness6 (enc := enc) (C := Tryz.checked) false ⟨#[], #[.agg #[.int .i64 0, .int .i64 0, .int .i64 0], .int .i64 0, .slice none 0 0, .int .i64 0, .slice none 0 0, .slice none 0 0], []⟩ 8 (by kernel_rfl) (by kernel_rfl) (by kernel_rfl) (by kernel_rfl)) ?_
  intro W base args ds gs before hval hW _ _
  exact Vd.row_calls (C := Tryz.checked) (f := 6) (fn := Tryz.f6) (tb := 4) (con := Vd.c_L_FnExactRunStage) Vd.m_L_FnExactRunStage rfl (by kernel_rfl) (fun x hx => ⟨true, Vd.law_FnExactRunStage x hx, rfl⟩) rfl
    (fun ds hds => match ds, hds with | [d0, d1, d2, d3, d4, d5], _ => ⟨rfl, rfl, rfl⟩) rfl Tryz.underlying4 (by kernel_rfl) (by kernel_rfl) W base args ds gs before hval hW

set_option maxHeartbeats 4000000 in
theorem rrst_holds : Rows.FnExactRunStageSaid := by
  refine OpenClaim.holds_of_wide 6 Tryz.f6 rfl rfl rfl rfl rfl rfl rfl ⟨rfl, rfl, rfl, rfl, rfl⟩ rfl rfl rfl rfl rfl ?a Tryz.func6 ?b ?c ?d
    (fun os started H enc _ => rrst_lifted os started H enc)
  case a => as_aux_lemma => kernel_rfl
  case b => as_aux_lemma => kernel_rfl
  case c => as_aux_lemma => exact of_decide_eq_true (by kernel_rfl)
  case d => (as_aux_lemma => unfold Func.isWrapper; rw [if_neg (by decide +kernel)]; exact ⟨rfl, rfl⟩)

#print axioms rrst_holds
end Go.Proofs.YtjmpdejigkjaoaaGreat
