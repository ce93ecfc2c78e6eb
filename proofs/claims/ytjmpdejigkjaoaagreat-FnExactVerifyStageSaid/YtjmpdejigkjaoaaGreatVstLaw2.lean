/- The law FnExactVerifyStage as plain functions on data returns true for all arguments. No conditions. -/
import Derived.Test.YtjmpdejigkjaoaaGreatVstLaw
set_option linter.unusedVariables false
set_option linter.unusedSimpArgs false
set_option linter.unusedSectionVars false
set_option linter.unnecessarySimpa false
namespace Go.Proofs.YtjmpdejigkjaoaaGreat.Vd
open Go.IntWalk

theorem law_FnExactVerifyStage (x : (Int × Int × Int) × Int × List (Int × Int) × Stg) (h : WFI [.data (.cons (.int .i64) (.cons (.int .i64) (.one (.int .i64)))), .data (.int .i64), .data (.sl (.cons (.int .i64) (.one (.int .i64)))), .data (.cons (.int .i64) (.cons (.sl (.cons (.int .i64) (.one (.int .i64)))) (.cons (.cons (.sl (.int .i64)) (.cons (.sl (.int .i64)) (.one (.cons (.sl (.int .i64)) (.cons (.sl (.int .i64)) (.one (.sl (.int .i64)))))))) (.one (.cons (.sl (.int .i64)) (.cons (.sl (.int .i64)) (.cons (.sl (.int .i64)) (.one (.cons (.sl (.int .i64)) (.cons (.sl (.int .i64)) (.one (.sl (.int .i64)))))))))))))] x) : M_L_FnExactVerifyStage x = some true := by
  obtain ⟨⟨p, q, g⟩, key, ins, s⟩ := x
  have hw : WF (.cons (.int .i64) (.cons (.sl (.cons (.int .i64) (.one (.int .i64)))) (.cons (.cons (.sl (.int .i64)) (.cons (.sl (.int .i64)) (.one (.cons (.sl (.int .i64)) (.cons (.sl (.int .i64)) (.one (.sl (.int .i64)))))))) (.one (.cons (.sl (.int .i64)) (.cons (.sl (.int .i64)) (.cons (.sl (.int .i64)) (.one (.cons (.sl (.int .i64)) (.cons (.sl (.int .i64)) (.one (.sl (.int .i64))))))))))))) s := h.2.2.2
  have w3 : ins.length ≤ maxLen := h.2.2.1.1
  have hm : maxLen < 2 ^ 63 := by decide
  have h1 := hw.2.1.1
  have a1 := hw.2.2.1.1.1
  have a2 := hw.2.2.1.2.1.1
  have a3 := hw.2.2.1.2.2.1.1
  have a4 := hw.2.2.1.2.2.2.1.1
  have a5 := hw.2.2.1.2.2.2.2.1
  have b1 := hw.2.2.2.1.1
  have b2 := hw.2.2.2.2.1.1
  have b3 := hw.2.2.2.2.2.1.1
  have b4 := hw.2.2.2.2.2.2.1.1
  have b5 := hw.2.2.2.2.2.2.2.1.1
  have b6 := hw.2.2.2.2.2.2.2.2.1
  have w2 : Stg.smalls s (2 ^ 63 - 1) := ⟨by omega, ⟨by omega, by omega, by omega, by omega, by omega⟩, by omega, by omega, by omega, by omega, by omega, by omega⟩
  unfold M_L_FnExactVerifyStage
  dsimp only
  rw [szCipherS_eq (by omega) (by omega) (by omega), bindO_some']
  by_cases hy : (1048576 : Int) < ins.length
  · rw [if_pos hy]
    rfl
  · rw [if_neg hy, decide_eq_false (by omega), cond_false]
    obtain ⟨k, e1, e2, e3⟩ := szStage_eq (s := s) (left := 1048576 - ins.length) (by omega) (by omega) w2
    rw [e1, bindO_some']
    by_cases hk : k < 0
    · have d : decide (k < 0) = true := by simpa using hk
      rw [d]
      rfl
    · have d : decide (k < 0) = false := by simpa using hk
      have hk' := e3 (by omega)
      have hr : Stg.small s := by
        simp only [wSt, wMp, wPp, wPf] at hk'
        exact ⟨by omega, ⟨by omega, by omega, by omega, by omega, by omega⟩, by omega, by omega, by omega, by omega, by omega, by omega⟩
      have hS := S_VerifyStage_eq (p := p) (q := q) (g := g) (key := key) (ins := ins) hr
      have hI := I_VerifyStage_eq (p := p) (q := q) (g := g) (key := key) (ins := ins) (by omega) hr
      generalize vsR p q g key ins s = o at hS hI
      obtain ⟨o1, o2⟩ := o
      rw [d, cond_false]
      simp [toGroup_eq, toCipherS_eq (show ins.length ≤ 1048576 by omega), toStage_eq hr, hS, hI, eqStage_eq hr, eqCipherS_eq (show ins.length < 2 ^ 62 by omega)]

end Go.Proofs.YtjmpdejigkjaoaaGreat.Vd
