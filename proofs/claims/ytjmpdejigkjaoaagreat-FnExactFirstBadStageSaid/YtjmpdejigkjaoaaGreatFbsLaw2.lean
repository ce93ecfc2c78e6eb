/- The law FnExactFirstBadStage as plain functions on data returns true for all arguments. No conditions. -/
import Derived.Test.YtjmpdejigkjaoaaGreatFbsLaw
set_option linter.unusedVariables false
set_option linter.unusedSimpArgs false
set_option linter.unusedSectionVars false
set_option linter.unnecessarySimpa false
namespace Go.Proofs.YtjmpdejigkjaoaaGreat.Vd
open Go.IntWalk

theorem szStage_eq {s : Stg} {left : Int} (h0 : 0 ≤ left) (h1 : left ≤ 1048576) (hl : Stg.smalls s (2 ^ 63 - 1)) : ∃ k, M_L_szStage (s, left) = some k ∧ k ≤ left ∧ (0 ≤ k → k = left - wSt s) := by
  obtain ⟨g1, g2, g3⟩ := hl
  unfold M_L_szStage wSt
  dsimp only
  rw [szCipherS_eq h0 h1 (by omega), bindO_some']
  by_cases e1 : left < s.2.1.length
  · rw [if_pos e1]
    exact ⟨-1, rfl, by omega, by omega⟩
  · obtain ⟨k, e3, e4, e5⟩ := szMatrixProof_eq (a := s.2.2.1) (left := left - s.2.1.length) (by omega) (by omega) g2
    rw [if_neg e1, decide_eq_false (show ¬ (left - (s.2.1.length : Int) < 0) by omega), cond_false, show M_L_szMatrixProof ((s.2.2.1.1, s.2.2.1.2.1, s.2.2.1.2.2.1, s.2.2.1.2.2.2.1, s.2.2.1.2.2.2.2), left - (s.2.1.length : Int)) = some k from e3, bindO_some']
    by_cases hk : k < 0
    · rw [decide_eq_true hk]
      exact ⟨-1, rfl, by omega, by omega⟩
    · have h5 := e5 (by omega)
      obtain ⟨k2, f3, f4, f5⟩ := szPolyProof_eq (a := s.2.2.2) (left := k) (by omega) (by omega) g3
      rw [decide_eq_false hk, cond_false, show M_L_szPolyProof ((s.2.2.2.1, s.2.2.2.2.1, s.2.2.2.2.2.1, s.2.2.2.2.2.2.1, s.2.2.2.2.2.2.2.1, s.2.2.2.2.2.2.2.2), k) = some k2 from f3, bindO_some']
      by_cases hk2 : k2 < 0
      · rw [decide_eq_true hk2]
        exact ⟨-1, rfl, by omega, by omega⟩
      · rw [decide_eq_false hk2]
        have := f5 (by omega)
        exact ⟨k2, rfl, by omega, fun _ => by omega⟩

theorem szStageS_eq {x : List Stg} {left : Int} (h0 : 0 ≤ left) (h1 : left ≤ 1048576) (hx : x.length < 2 ^ 63) (hr : ∀ r ∈ x, Stg.smalls r (2 ^ 63 - 1)) : ∃ k, M_L_szStageS (x, left) = some k ∧ k ≤ left ∧ (0 ≤ k → k = left - x.length - wsum wSt x) := by
  unfold M_L_szStageS
  simp only [i64_in (left - (x.length : Int)) (by omega), bindO_some']
  by_cases hk : left - (x.length : Int) < 0
  · rw [decide_eq_true hk]
    exact ⟨-1, rfl, by omega, fun h => by omega⟩
  · rw [decide_eq_false hk, cond_false]
    refine Exists.imp (fun k hk => ⟨hk.1, by have := hk.2.1; omega, hk.2.2⟩) (sz_loop wSt x (left := left - x.length) (by omega) (by omega) (by omega) (fun again i a l ha hi g0 g1 => ?_) (fun again l => ?_))
    · obtain ⟨k, e1, e2, e3⟩ := szStage_eq (s := a) (left := l) g0 g1 (hr a (List.mem_of_getElem? ha))
      refine ⟨k, e2, fun h => by have := e3 h; omega, ?_⟩
      simp only [lt_yes hi, cond_true, getI_nat, ha, bindO_some', show M_L_szStage ((a.1, a.2.1, (a.2.2.1.1, a.2.2.1.2.1, a.2.2.1.2.2.1, a.2.2.1.2.2.2.1, a.2.2.1.2.2.2.2), a.2.2.2.1, a.2.2.2.2.1, a.2.2.2.2.2.1, a.2.2.2.2.2.2.1, a.2.2.2.2.2.2.2.1, a.2.2.2.2.2.2.2.2), l) = some k from e1, i64_succ (show i < 2 ^ 62 by omega)]
      by_cases hk : k < 0 <;> simp [hk]
    · simp only [lt_no, cond_false]

theorem toStage_eq {s : Stg} (h : s.small) : M_L_toStage s = some s := by
  obtain ⟨h1, ⟨h2, h3, h4⟩, h5, h6, h7, h8⟩ := h
  unfold M_L_toStage M_L_toMatrixProof M_L_toPolyProof
  dsimp only
  rw [toCipherS_eq h1, bindO_some', toIntS_eq h2, bindO_some', toIntS_eq h3, bindO_some', show M_L_toProof (s.2.2.1.2.2.1, s.2.2.1.2.2.2.1, s.2.2.1.2.2.2.2) = _ from toProof_eq (a := s.2.2.1.2.2) h4, bindO_some', bindO_some', toIntS_eq h5, bindO_some', toIntS_eq h6, bindO_some', toIntS_eq h7, bindO_some', show M_L_toProof (s.2.2.2.2.2.2.1, s.2.2.2.2.2.2.2.1, s.2.2.2.2.2.2.2.2) = _ from toProof_eq (a := s.2.2.2.2.2.2) h8, bindO_some', bindO_some']

theorem toStageS_eq {x : List Stg} (h : x.length ≤ 1048576) (hr : ∀ r ∈ x, Stg.small r) : M_L_toStageS x = some x := by
  unfold M_L_toStageS
  have hx : (x.length : Int) ≤ ((lim : Nat) : Int) := by rw [lim_eq]; omega
  rw [guardO_of (by simpa using hx), bindO_some', Int.toNat_natCast]
  refine copy_loop x (0, [], ([], [], [], [], []), [], [], [], [], [], []) (fun again i a s ha hi hs => ?_) (fun again s hs => ?_) (by omega)
  · have hsi := List.getElem?_eq_getElem (l := s) (show i < s.length by omega)
    simp only [lt_yes hi, cond_true, getI_nat, ha, hsi, bindO_some', toStage_eq (hr a (List.mem_of_getElem? ha)), Int.toNat_natCast, i64_succ (show i < 2 ^ 62 by omega)]
  · simp

theorem eqStage_eq {s : Stg} (h : s.small) : M_L_eqStage (s, s) = some true := by
  obtain ⟨h1, ⟨h2, h3, h4⟩, h5, h6, h7, h8⟩ := h
  have p1 := eqProof_eq (a := s.2.2.1.2.2) (b := s.2.2.1.2.2) ⟨by have := h4.1; omega, by have := h4.2.1; omega, by have := h4.2.2; omega⟩
  have p2 := eqProof_eq (a := s.2.2.2.2.2.2) (b := s.2.2.2.2.2.2) ⟨by have := h8.1; omega, by have := h8.2.1; omega, by have := h8.2.2; omega⟩
  unfold M_L_eqStage M_L_eqMatrixProof M_L_eqPolyProof
  dsimp only
  rw [eqCipherS_eq (by omega), eqIntS_eq (by omega), eqIntS_eq (by omega), eqIntS_eq (by omega), eqIntS_eq (by omega), eqIntS_eq (by omega)]
  rw [show M_L_eqProof ((s.2.2.1.2.2.1, s.2.2.1.2.2.2.1, s.2.2.1.2.2.2.2), s.2.2.1.2.2.1, s.2.2.1.2.2.2.1, s.2.2.1.2.2.2.2) = _ from p1, show M_L_eqProof ((s.2.2.2.2.2.2.1, s.2.2.2.2.2.2.2.1, s.2.2.2.2.2.2.2.2), s.2.2.2.2.2.2.1, s.2.2.2.2.2.2.2.1, s.2.2.2.2.2.2.2.2) = _ from p2]
  simp

theorem eqStageS_eq {a : List Stg} (h : a.length < 2 ^ 62) (hr : ∀ r ∈ a, Stg.small r) : M_L_eqStageS (a, a) = some true := by
  unfold M_L_eqStageS
  have e1 : ((a.length : Int) != (a.length : Int)) = false := by simp
  dsimp only
  rw [e1, cond_false]
  refine (range_loop (n := a.length) (fun _ => true) h (fun again i hi => ?_) (fun again => ?_)).trans (by simp)
  · have hx := List.getElem?_eq_getElem hi
    rw [lt_yes hi, cond_true, getI_nat, hx, bindO_some', bindO_some']
    rw [show M_L_eqStage ((a[i].1, a[i].2.1, (a[i].2.2.1.1, a[i].2.2.1.2.1, a[i].2.2.1.2.2.1, a[i].2.2.1.2.2.2.1, a[i].2.2.1.2.2.2.2), a[i].2.2.2.1, a[i].2.2.2.2.1, a[i].2.2.2.2.2.1, a[i].2.2.2.2.2.2.1, a[i].2.2.2.2.2.2.2.1, a[i].2.2.2.2.2.2.2.2), a[i].1, a[i].2.1, (a[i].2.2.1.1, a[i].2.2.1.2.1, a[i].2.2.1.2.2.1, a[i].2.2.1.2.2.2.1, a[i].2.2.1.2.2.2.2), a[i].2.2.2.1, a[i].2.2.2.2.1, a[i].2.2.2.2.2.1, a[i].2.2.2.2.2.2.1, a[i].2.2.2.2.2.2.2.1, a[i].2.2.2.2.2.2.2.2) = some true from eqStage_eq (hr a[i] (List.getElem_mem hi)), bindO_some', Bool.not_true, cond_false, i64_succ (show i < 2 ^ 62 by omega), bindO_some', cond_true]
  · rw [lt_no, cond_false]

noncomputable def fbGo (p q g key : Int) : List Stg → Nat → List (Int × Int) → Nat
  | [], i, _ => i
  | s :: l, i, ins => bif stageB p q g key ins s then fbGo p q g key l (i + 1) s.2.1 else i

noncomputable def fbR (p q g key : Int) (ins : List (Int × Int)) (l : List Stg) : Int × Bool :=
  bif rdB p q g key ins && decide (l.length ≤ 6) then (((fbGo p q g key l 0 ins : Nat) : Int), true) else (0, false)

theorem gt6 (n : Nat) : decide (((n : Nat) : Int) > 6) = !decide (n ≤ 6) := by
  by_cases h : n ≤ 6
  · rw [decide_eq_true h, decide_eq_false (by omega)]
    rfl
  · rw [decide_eq_false h, decide_eq_true (by omega)]
    rfl

theorem S_FirstBad_eq {p q g key : Int} {ins : List (Int × Int)} {l : List Stg} (hr : ∀ r ∈ l, Stg.small r) : M_S_FirstBadStage ((p, q, g), key, ins, l) = some (fbR p q g key ins l) := by
  unfold M_S_FirstBadStage fbR
  dsimp only
  rw [xReady_eq, bindO_some', gt6]
  cases hrd : rdB p q g key ins with
  | false => rfl
  | true =>
  rw [Bool.not_true, cond_false, Bool.true_and]
  by_cases h6 : l.length ≤ 6
  · rw [decide_eq_true h6, Bool.not_true, cond_false, cond_true]
    refine (loopO_for (σ := List (Int × Int)) (fun i s => (s, (i : Int))) l.length (fun i s => some (((fbGo p q g key (l.drop i) i s : Nat) : Int), true)) (fun _ s => rdB p q g key s = true) (fun again s hs => ?_) (fun again i s hi hs ih => ?_) (by omega) (i := 0) (s := ins) (Nat.zero_le _) hrd).trans rfl
    · dsimp only
      rw [lt_no, cond_false, List.drop_length]
      rfl
    · have ha := List.getElem?_eq_getElem hi
      have hv := xVerify_eq (s := l[i]) hs (hr _ (List.getElem_mem hi))
      dsimp only
      rw [lt_yes hi, cond_true, getI_nat, ha, bindO_some', show M_S_xVerify ((p, q, g), key, s, l[i].1, l[i].2.1, (l[i].2.2.1.1, l[i].2.2.1.2.1, l[i].2.2.1.2.2.1, l[i].2.2.1.2.2.2.1, l[i].2.2.1.2.2.2.2), l[i].2.2.2.1, l[i].2.2.2.2.1, l[i].2.2.2.2.2.1, l[i].2.2.2.2.2.2.1, l[i].2.2.2.2.2.2.2.1, l[i].2.2.2.2.2.2.2.2) = _ from hv, bindO_some', List.drop_eq_getElem_cons hi]
      cases hb : stageB p q g key s l[i] with
      | false => simp only [fbGo, hb, Bool.not_false, cond_true, cond_false]
      | true =>
        rw [Bool.not_true, cond_false, i64_succ (show i < 2 ^ 62 by omega), bindO_some', ih _ (stageB_next hs hb)]
        simp only [fbGo, hb, cond_true]
  · rw [decide_eq_false h6]
    rfl

theorem I_FirstBad_eq {p q g key : Int} {ins : List (Int × Int)} {l : List Stg} (hi : ins.length ≤ 1048576) (hr : ∀ r ∈ l, Stg.small r) : M_I_FirstBadStage ((p, q, g), key, ins, l) = some (fbR p q g key ins l) := by
  unfold M_I_FirstBadStage fbR
  dsimp only
  rw [polyBases_eq hi, bindO_some', gt6]
  cases hrd : rdB p q g key ins with
  | false => rfl
  | true =>
  rw [cond_true, Bool.not_true, cond_false, Bool.true_and]
  by_cases h6 : l.length ≤ 6
  · rw [decide_eq_true h6, Bool.not_true, cond_false, cond_true]
    refine (loopO_for (σ := List (Int × Int)) (fun i s => (s, (i : Int))) l.length (fun i s => some (((fbGo p q g key (l.drop i) i s : Nat) : Int), true)) (fun _ s => rdB p q g key s = true) (fun again s hs => ?_) (fun again i s hi hs ih => ?_) (by omega) (i := 0) (s := ins) (Nat.zero_le _) hrd).trans rfl
    · dsimp only
      rw [lt_no, cond_false, List.drop_length]
      rfl
    · have ha := List.getElem?_eq_getElem hi
      have hv := VerifyStage_eq (s := l[i]) hs (hr _ (List.getElem_mem hi))
      dsimp only
      rw [lt_yes hi, cond_true, getI_nat, ha, bindO_some', show M_I_VerifyStage ((p, q, g), key, s, l[i].1, l[i].2.1, (l[i].2.2.1.1, l[i].2.2.1.2.1, l[i].2.2.1.2.2.1, l[i].2.2.1.2.2.2.1, l[i].2.2.1.2.2.2.2), l[i].2.2.2.1, l[i].2.2.2.2.1, l[i].2.2.2.2.2.1, l[i].2.2.2.2.2.2.1, l[i].2.2.2.2.2.2.2.1, l[i].2.2.2.2.2.2.2.2) = _ from hv, bindO_some', List.drop_eq_getElem_cons hi, Bool.not_true, cond_false]
      cases hb : stageB p q g key s l[i] with
      | false => simp only [fbGo, hb, Bool.not_false, cond_true, cond_false]
      | true =>
        rw [Bool.not_true, cond_false, i64_succ (show i < 2 ^ 62 by omega), bindO_some', ih _ (stageB_next hs hb)]
        simp only [fbGo, hb, cond_true]
  · rw [decide_eq_false h6]
    rfl

theorem wf_stages {l : List Stg} (h : WF (.sl (.cons (.int .i64) (.cons (.sl (.cons (.int .i64) (.one (.int .i64)))) (.cons (.cons (.sl (.int .i64)) (.cons (.sl (.int .i64)) (.one (.cons (.sl (.int .i64)) (.cons (.sl (.int .i64)) (.one (.sl (.int .i64)))))))) (.one (.cons (.sl (.int .i64)) (.cons (.sl (.int .i64)) (.cons (.sl (.int .i64)) (.one (.cons (.sl (.int .i64)) (.cons (.sl (.int .i64)) (.one (.sl (.int .i64)))))))))))))) l) : l.length < 2 ^ 63 ∧ ∀ r ∈ l, Stg.smalls r (2 ^ 63 - 1) := by
  have hm : maxLen < 2 ^ 63 := by decide
  refine ⟨Nat.lt_of_le_of_lt h.1 hm, fun r hr => ?_⟩
  have hw := h.2 r hr
  have h1 := hw.2.1.1
  have a1 := hw.2.2.1.1.1
  have a2 := hw.2.2.1.2.1.1
  have a3 := hw.2.2.1.2.2.1.1
  have a4 := hw.2.2.1.2.2.2.1.1
  have a5 := hw.2.2.1.2.2.2.2.1
  have b1 := hw.2.2.2.1.1
  have b2 := hw.2.2.2.2.1.1
  have b3 := hw.2.2.2.2.2.1.1
  have b4 := hw.2.2.2.2.2.2.1.1
  have b5 := hw.2.2.2.2.2.2.2.1.1
  have b6 := hw.2.2.2.2.2.2.2.2.1
  exact ⟨by omega, ⟨by omega, by omega, by omega, by omega, by omega⟩, by omega, by omega, by omega, by omega, by omega, by omega⟩

theorem stage_small {l : List Stg} (hs : wsum wSt l ≤ 1048576) : ∀ r ∈ l, Stg.small r := fun r hm => by
  have := wsum_mem (w := wSt) hm
  simp only [wSt, wMp, wPp, wPf] at this hs
  exact ⟨by omega, ⟨by omega, by omega, by omega, by omega, by omega⟩, by omega, by omega, by omega, by omega, by omega, by omega⟩

theorem law_FnExactFirstBadStage (x : (Int × Int × Int) × Int × List (Int × Int) × List Stg) (h : WFI [.data (.cons (.int .i64) (.cons (.int .i64) (.one (.int .i64)))), .data (.int .i64), .data (.sl (.cons (.int .i64) (.one (.int .i64)))), .data (.sl (.cons (.int .i64) (.cons (.sl (.cons (.int .i64) (.one (.int .i64)))) (.cons (.cons (.sl (.int .i64)) (.cons (.sl (.int .i64)) (.one (.cons (.sl (.int .i64)) (.cons (.sl (.int .i64)) (.one (.sl (.int .i64)))))))) (.one (.cons (.sl (.int .i64)) (.cons (.sl (.int .i64)) (.cons (.sl (.int .i64)) (.one (.cons (.sl (.int .i64)) (.cons (.sl (.int .i64)) (.one (.sl (.int .i64))))))))))))))] x) : M_L_FnExactFirstBadStage x = some true := by
  obtain ⟨⟨p, q, g⟩, key, ins, l⟩ := x
  obtain ⟨w1, w2⟩ := wf_stages (l := l) h.2.2.2
  have w3 : ins.length ≤ maxLen := h.2.2.1.1
  have hm : maxLen < 2 ^ 63 := by decide
  unfold M_L_FnExactFirstBadStage
  dsimp only
  rw [szCipherS_eq (by omega) (by omega) (by omega), bindO_some']
  by_cases hy : (1048576 : Int) < ins.length
  · rw [if_pos hy]
    rfl
  · rw [if_neg hy, decide_eq_false (by omega), cond_false]
    obtain ⟨k, e1, e2, e3⟩ := szStageS_eq (x := l) (left := 1048576 - ins.length) (by omega) (by omega) w1 w2
    rw [e1, bindO_some']
    by_cases hk : k < 0
    · have d : decide (k < 0) = true := by simpa using hk
      rw [d]
      rfl
    · have d : decide (k < 0) = false := by simpa using hk
      have hk' := e3 (by omega)
      have hlen : l.length ≤ 1048576 := by omega
      have hr := stage_small (l := l) (by omega)
      have hS := S_FirstBad_eq (p := p) (q := q) (g := g) (key := key) (ins := ins) hr
      have hI := I_FirstBad_eq (p := p) (q := q) (g := g) (key := key) (ins := ins) (by omega) hr
      have he := eqStageS_eq (a := l) (by omega) hr
      generalize fbR p q g key ins l = o at hS hI
      obtain ⟨o1, o2⟩ := o
      rw [d, cond_false]
      simp [toGroup_eq, toCipherS_eq (show ins.length ≤ 1048576 by omega), toStageS_eq hlen hr, hS, hI, he, eqCipherS_eq (show ins.length < 2 ^ 62 by omega)]

end Go.Proofs.YtjmpdejigkjaoaaGreat.Vd
