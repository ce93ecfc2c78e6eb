/-
  The law FnExactFalseEqualCount returns true for all arguments, and changes nothing. No conditions.
-/
import Derived.Test.YtlacogoljcpijaaRows
import Derived.Test.YtlacogoljcpijaaFalseLaw
import Derived.ProofKit
namespace Go.Proofs.Ytlacogoljcpijaa
open Go.ChangeShapes Go.WideShapes Go.ChangeAt Go.RowKit

theorem rb_own : ownKnob Try.prog.godebug = none := by kernel_rfl

theorem rb_calls (a b : Int) (w : World) : Calls Try.prog 3 #[.int .i64 a, .int .i64 b] w fun e w' => e = .returned (.bool true) ∧ Vd.Later w w' ∧ ∀ b, b < w.heap.size → w'.heap[b]? = w.heap[b]? := by
  refine Vd.law_calls (args := [.int .i64 a, .int .i64 b]) Vd.m3 (x := ((a, b) : Int × Int)) (y := true) (Vd.law3 a b) rfl rfl rfl fun k p z v hk hv => ?_
  match k with
  | 0 => cases hk; cases hv; exact ⟨[.int .i64 a], rfl, rfl⟩
  | 1 => cases hk; cases hv; exact ⟨[.int .i64 b], rfl, rfl⟩
  | k + 2 => cases hv

set_option maxRecDepth 100000 in
theorem rb_lifted (os : Os) (started : os.Started) (H : Type) (enc : TypeId × Value → H) :
    ReturnsInHanded {} Try.checked os 3 .any (Rows.fnExactFalseEqualCountSpec.pre6 enc Try.prog Try.f3 Rows.fnExactFalseEqualCountRow.domain false) (Rows.fnExactFalseEqualCountSpec.post enc Try.prog Try.f3 false true false false) := by
  refine returnsInHanded_of_change (C := Try.checked) rb_own started (by kernel_rfl) Try.func3
    (ChangeSpec.witness6 (enc := enc) (C := Try.checked) false ⟨#[], #[.int .i64 0, .int .i64 0], []⟩ 8 (by kernel_rfl) (by kernel_rfl) (by kernel_rfl) (by kernel_rfl)) ?_
  intro W base args ds gs before hval0 hW hcnd _
  have hval : ∀ (j : Nat) t v, Try.f3.params[j]? = some t → args[j]? = some v → Value.okWide Try.prog W .any base t v := hval0
  have hW' := hW
  obtain ⟨p, q, hA0, hV, rfl, hfz, hnd⟩ := hW
  have hA : DataW.TrodAll enc Try.prog W 0 (fun _ => true) true Try.f3.params.toList args.toList ds p := hA0
  rw [Try.params3] at hA hval
  obtain ⟨v0, v1, d0, d1, p0, p1, rfl, rfl, rfl, h0, h1⟩ := trodAll_two hA
  obtain ⟨rfl, rfl⟩ := trodVars_none hV
  obtain ⟨a, rfl, rfl, rfl, wa⟩ := open_int Try.underlying3 (hval 0 3 v0 rfl rfl) h0
  obtain ⟨b, rfl, rfl, rfl, wb⟩ := open_int Try.underlying3 (hval 1 3 v1 rfl rfl) h1
  clear hA0 hval0
  simp only [List.append_nil] at hW'
  refine (rb_calls a b W).mono fun e W' ⟨he, hl, hb⟩ => ?_
  subst he
  exact ⟨_, rfl, Vd.post_of_kept (pa := []) (pv := []) hW' (fun _ _ _ => trodAll_mk1 (shut_bool Try.underlying4 _)) (fun sp _ => trodAll_mk2 (shut_int Try.underlying3 wa) (shut_int Try.underlying3 wb)) (fun _ _ => rfl) rfl
    hl hb (ok_one (by kernel_rfl) rfl (okWide_bool_mk Try.underlying4 _))⟩

theorem rb_holds : Rows.FnExactFalseEqualCountSaid :=
  OpenClaim.holds_of_wide 3 Try.f3 rfl rfl rfl rfl rfl rfl rfl ⟨rfl, rfl, rfl, rfl, rfl⟩ rfl rfl rfl rfl rfl (by kernel_rfl) Try.func3 (by kernel_rfl)
    (of_decide_eq_true (by kernel_rfl)) (by unfold Func.isWrapper; rw [if_neg (by decide +kernel)]; exact ⟨rfl, rfl⟩)
    (fun os started H enc _ => rb_lifted os started H enc)

#print axioms rb_holds
end Go.Proofs.Ytlacogoljcpijaa
