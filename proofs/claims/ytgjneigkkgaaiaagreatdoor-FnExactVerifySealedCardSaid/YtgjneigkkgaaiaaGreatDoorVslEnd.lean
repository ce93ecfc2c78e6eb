/-
  The law FnExactVerifySealed returns true for all arguments, and changes nothing: the tied card. The condition: the three listed tables of Go's library hold what the program's text lays.
-/
import Derived.Test.YtgjneigkkgaaiaaGreatDoorCards
import Derived.Test.YtgjneigkkgaaiaaGreatDoorTie
import Derived.Test.YtgjneigkkgaaiaaGreatDoorVslLaw
import Derived.ProofKit
import Derived.LaidMore
import Derived.OpenShut
import Derived.Stop.Joined
import Derived.Lib.LaidTab
namespace Go.Proofs.YtgjneigkkgaaiaaGreatDoor
open Go.ChangeShapes Go.WideShapes Go.ChangeAt Go.RowKit

theorem rvsl_own : ownKnob Tryz.prog.godebug = none := by kernel_rfl
theorem rvsl_tabT : (Tryz.prog.globals[0]?).map (·.type) = some 142 := by kernel_rfl
theorem rvsl_ce : Tryz.prog.cellsOf 133 = 1 := by kernel_rfl
theorem rvsl_ct : Tryz.prog.cellsOf 142 = 20 := by kernel_rfl
theorem rvsl_datum : Rows.laid_internal_strconv_uint64pow10 = (Lib.tabData .u64 Lib.pow10Tab : DataW Unit) := by kernel_rfl

/-- What the row's list gives: the table's cells. -/
theorem rvsl_tab {W : World} (h : laidMetH Tryz.prog Rows.fnExactVerifySealedRow.laid W) : Lib.TabIs Tryz.prog W "internal/strconv.uint64pow10" .u64 Lib.pow10Tab := by
  have h' : laidMet Tryz.prog Rows.fnExactVerifySealedRow.laid W := h
  obtain ⟨ps, ⟨g1, t1, c1, f1, p1, q1, _, _, _, _, ⟨g2, t2, c2, f2, p2, q2, _, _, _, _, ⟨g3, t3, c3, f3, p3, q3, a1, a2, a3, a4, _, _⟩, _⟩, _⟩, _⟩ := h'
  obtain rfl := Option.some.inj (Vd.ito_tab.symm.trans a1)
  obtain rfl := Option.some.inj (rvsl_tabT.symm.trans a2)
  rw [rvsl_datum] at a4
  unfold Lib.TabIs
  rw [a3, ← Lib.cells_of_tab Tryz.underlying142 Tryz.underlying133 rvsl_ce rvsl_ct a4]

theorem rvsl_met {W : World} (h : laidMetH Tryz.prog Rows.fnExactVerifySealedRow.laid W) : Vd.Met Tryz.prog W fun _ => .free := by
  intro g cs hg
  cases List.mem_singleton.1 hg
  refine ⟨rfl, ?_⟩
  have ht := rvsl_tab h
  unfold Lib.TabIs World.var? at ht
  rw [Vd.ito_tab, Option.bind_some] at ht
  split at ht
  · rename_i cs' T z e
    cases ht
    exact ⟨T, z, e⟩
  · cases ht

/-- The heap that the program's own start-up leaves meets the condition. -/
theorem rvsl_door (os : Os) (args : Array Value) : laidMetH Tryz.prog Rows.fnExactVerifySealedRow.laid ((World.doorLaid Tryz.prog 400 os).forCall (fun _ _ => 0) ⟨#[], args, []⟩).memory :=
  laidMetH_of_parts3 (fuel := 8) (laidMet_of_run' 8 (by kernel_rfl) (by kernel_rfl)) (by kernel_rfl) (by kernel_rfl)

set_option maxRecDepth 100000 in
theorem rvsl_lifted (os : Os) (started : os.Started) (H : Type) (enc : TypeId × Value → H) :
    ReturnsInHanded {} Tryz.checked os 3 .any (fun w args => (Rows.fnExactVerifySealedSpec.pre enc Tryz.prog Tryz.f3 Rows.fnExactVerifySealedRow.domain false w args ∧ laidMetH Tryz.prog Rows.fnExactVerifySealedRow.laid w) ∧ sizedMet enc Tryz.prog Tryz.f3 (OpenSpec.ofChange Rows.fnExactVerifySealedSpec) false w args)
      (Rows.fnExactVerifySealedSpec.post enc Tryz.prog Tryz.f3 false true false false) := by
  refine returnsInHanded_of_change_and (C := Tryz.checked) (X := fun w _ => laidMetH Tryz.prog Rows.fnExactVerifySealedRow.laid w) (fun _ _ _ hh h => h.of_heap hh) rvsl_own started (by kernel_rfl) Tryz.func3
    (ChangeSpec.witness_shaped (enc := enc) (C := Tryz.checked) (os := os) (X := fun w _ => laidMetH Tryz.prog Rows.fnExactVerifySealedRow.laid w) false (World.doorLaid Tryz.prog 400 os) #[.agg #[.int .i64 0, .int .i64 0, .int .i64 0], .int .i64 0, .agg #[.int .i64 0, .int .i64 0, .int .i64 0, .int .i64 0, .int .i64 0], .agg #[.int .i64 0, .slice none 0 0, .slice none 0 0, .slice none 0 0, .slice none 0 0, .slice none 0 0]] 8 rfl
      (World.shaped_of_RefB (by kernel_rfl) (by kernel_rfl)) (by kernel_rfl) (by kernel_rfl) (by kernel_rfl) (rvsl_door os _)) ?_
  intro W base args ds gs before hval hW _ _ hL _
  exact Vd.row_calls (C := Tryz.checked) (f := 3) (fn := Tryz.f3) (tb := 4) (con := Vd.c_L_FnExactVerifySealed) Vd.m_L_FnExactVerifySealed rfl (by kernel_rfl) (fun x hx => ⟨true, Vd.law_FnExactVerifySealed x hx, rfl⟩) rfl
    (fun ds hds => match ds, hds with | [d0, d1, d2, d3], _ => ⟨rfl, rfl, rfl⟩) rfl Tryz.underlying4 (by kernel_rfl) (by kernel_rfl) W base args ds gs before hval hW (rvsl_met hL)

set_option maxHeartbeats 4000000 in
theorem rvsl_row : Rows.FnExactVerifySealedSaid := by
  refine OpenClaim.holds_of_wide 3 Tryz.f3 rfl rfl rfl rfl rfl rfl rfl ⟨rfl, rfl, rfl, rfl, rfl⟩ rfl rfl rfl rfl rfl ?a Tryz.func3 ?b ?c ?d
    (fun os started H enc _ => rvsl_lifted os started H enc)
  case a => as_aux_lemma => kernel_rfl
  case b => as_aux_lemma => kernel_rfl
  case c => as_aux_lemma => exact of_decide_eq_true (by kernel_rfl)
  case d => (as_aux_lemma => unfold Func.isWrapper; rw [if_neg (by decide +kernel)]; exact ⟨rfl, rfl⟩)

/-- No parameter wants a stand-in; the program's own looks are off. -/
theorem rvsl_plain (f : FuncId) (fn : Func) (hf : Tryz.pinned.checked.prog.funcNamed "loop.example/g00878/laws.FnExactVerifySealed" = some f) (hfn : Tryz.pinned.checked.prog.funcs[f]? = some fn) :
    false = Tryz.pinned.checked.prog.looks [] ∧ ∀ (j : Nat) t, fn.params[j]? = some t → Tryz.pinned.checked.prog.wantsStandIn t = false := by
  obtain rfl : f = 3 := Option.some.inj ((show Tryz.prog.funcNamed "loop.example/g00878/laws.FnExactVerifySealed" = some 3 by kernel_rfl).symm.trans hf) |>.symm
  obtain rfl : fn = Tryz.f3 := (Option.some.inj (Tryz.func3.symm.trans hfn)).symm
  refine ⟨by kernel_rfl, fun j t ht => ?_⟩
  have hm : t ∈ Tryz.f3.params.toList := by simpa using Array.mem_of_getElem? ht
  have hall : (Tryz.f3.params.toList.all fun t => !Tryz.prog.wantsStandIn t) = true := by kernel_rfl
  have h2 : (!Tryz.prog.wantsStandIn t) = true := List.all_eq_true.1 hall t hm
  have h3 : Tryz.prog.wantsStandIn t = false := by
    revert h2; cases Tryz.prog.wantsStandIn t <;> simp
  exact h3

theorem rvsl_holds : Rows.FnExactVerifySealedCardSaid :=
  Claim7.holds_tied_plain_at .later [] _ _ _ _ rvsl_row (fun _ h => by cases h) (by kernel_rfl) (fun _ h => by cases h) fnExactVerifySealed_row_tie rfl ⟨rfl, rfl⟩ (by kernel_rfl) rfl rvsl_plain (by kernel_rfl)

#print axioms rvsl_holds
end Go.Proofs.YtgjneigkkgaaiaaGreatDoor
