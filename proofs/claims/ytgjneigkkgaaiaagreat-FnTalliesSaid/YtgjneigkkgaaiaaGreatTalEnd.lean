/-
  The law FnTallies returns true for all arguments, and changes nothing. No conditions.
-/
import Derived.Test.YtgjneigkkgaaiaaGreatRows
import Derived.Test.YtgjneigkkgaaiaaGreatTalLaw
import Derived.ProofKit
namespace Go.Proofs.YtgjneigkkgaaiaaGreat
open Go.ChangeShapes Go.WideShapes Go.ChangeAt Go.RowKit

theorem rtal_own : ownKnob Tryz.prog.godebug = none := by kernel_rfl

set_option maxRecDepth 100000 in
theorem rtal_lifted (os : Os) (started : os.Started) (H : Type) (enc : TypeId × Value → H) :
    ReturnsInHanded {} Tryz.checked os 4 .any (Rows.fnTalliesSpec.pre6 enc Tryz.prog Tryz.f4 Rows.fnTalliesRow.domain false) (Rows.fnTalliesSpec.post enc Tryz.prog Tryz.f4 false true false false) := by
  refine returnsInHanded_of_change (C := Tryz.checked) rtal_own started (by kernel_rfl) Tryz.func4
    (ChangeSpec.witness6 (enc := enc) (C := Tryz.checked) false ⟨#[], #[.slice none 0 0, .slice none 0 0], []⟩ 8 (by kernel_rfl) (by kernel_rfl) (by kernel_rfl) (by kernel_rfl)) ?_
  intro W base args ds gs before hval hW _ _
  exact Vd.row_calls (C := Tryz.checked) (f := 4) (fn := Tryz.f4) (tb := 4) (con := Vd.c_L_FnTallies) Vd.m_L_FnTallies rfl (by kernel_rfl) (fun x hx => ⟨true, Vd.law_FnTallies x hx, rfl⟩) rfl
    (fun ds hds => match ds, hds with | [d0, d1], _ => ⟨rfl, rfl, rfl⟩) rfl Tryz.underlying4 (by kernel_rfl) (by kernel_rfl) W base args ds gs before hval hW

set_option maxHeartbeats 4000000 in
theorem rtal_holds : Rows.FnTalliesSaid := by
  refine OpenClaim.holds_of_wide 4 Tryz.f4 rfl rfl rfl rfl rfl rfl rfl ⟨rfl, rfl, rfl, rfl, rfl⟩ rfl rfl rfl rfl rfl ?a Tryz.func4 ?b ?c ?d
    (fun os started H enc _ => rtal_lifted os started H enc)
  case a => as_aux_lemma => kernel_rfl
  case b => as_aux_lemma => kernel_rfl
  case c => as_aux_lemma => exact of_decide_eq_true (by kernel_rfl)
  case d => (as_aux_lemma => unfold Func.isWrapper; rw [if_neg (by decide +kernel)]; exact ⟨rfl, rfl⟩)

#print axioms rtal_holds
end Go.Proofs.YtgjneigkkgaaiaaGreat
