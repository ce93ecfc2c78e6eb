/- The law FnExactAcceptedStages as plain functions on data returns true for all arguments. No conditions. -/
import Derived.Test.YtjmpdejigkjaoaaGreatAcsLaw
set_option linter.unusedVariables false
set_option linter.unusedSimpArgs false
set_option linter.unusedSectionVars false
set_option linter.unnecessarySimpa false
namespace Go.Proofs.YtjmpdejigkjaoaaGreat.Vd
open Go.IntWalk

theorem VerifyStage_eq {p q g key : Int} {ins : List (Int × Int)} {s : Stg} (hr : rdB p q g key ins = true) (hs : s.small) : M_I_VerifyStage ((p, q, g), key, ins, s) = some (stageB p q g key ins s, true) := by
  obtain ⟨s1, s2, s3⟩ := hs
  have hr' := hr
  simp only [rdB, Bool.and_eq_true] at hr'
  obtain ⟨hm, hb⟩ := hr'
  obtain ⟨hok, hk, hn, hi⟩ := mixB_spec hm
  have h := okG_spec hok
  have hil : ins.length ≤ 1048576 := by omega
  unfold M_I_VerifyStage stageB
  dsimp only
  rw [polyBases_eq hil, hr, cond_true, bindO_some', Bool.not_true, cond_false, areMixed_eq h s1, bindO_some']
  cases ha : (decide (1 ≤ s.2.1.length ∧ s.2.1.length ≤ 12) && s.2.1.all (isCi p q)) with
  | false => rfl
  | true =>
  have ha' := ha
  simp only [Bool.and_eq_true, decide_eq_true_eq] at ha'
  have hM := mixOK_of (outs := s.2.1) hr (by omega) ha'.2
  rw [Bool.not_true, cond_false, Bool.true_and]
  by_cases h1 : s.1 = 1
  · rw [h1]
    simp only [beq_self_eq_true, cond_true]
    unfold M_I_VerifyMatrix
    dsimp only
    rw [mixBases_eq hil, hm, cond_true, bindO_some', hb, Bool.not_true, cond_false, areMixed_eq h s1, ha, bindO_some', Bool.not_true, cond_false]
    rw [show M_I_Group_verifyMatrix ((p, q, g), ((basesN p q g ins.length).1.1, (basesN p q g ins.length).1.2), key, ins, s.2.1, s.2.2.1.1, s.2.2.1.2.1, s.2.2.1.2.2.1, s.2.2.1.2.2.2.1, s.2.2.1.2.2.2.2) = _ from verifyMatrix_eq (pf := s.2.2.1.2.2) h hM s2.1 s2.2.1 s2.2.2, bindO_some', bindO_some']
    dsimp only
    rw [show M_I_PolyProof_isEmpty (s.2.2.2.1, s.2.2.2.2.1, s.2.2.2.2.2.1, s.2.2.2.2.2.2.1, s.2.2.2.2.2.2.2.1, s.2.2.2.2.2.2.2.2) = _ from P_isEmpty_eq (a := s.2.2.2), bindO_some', cond_true]
    cases mVer p q g key (basesN p q g ins.length).1.1 (basesN p q g ins.length).1.2 ins s.2.1 s.2.2.1.1 s.2.2.1.2.1 s.2.2.1.2.2 <;> rfl
  · rw [beq_eq_false_iff_ne.2 h1, cond_false, cond_false]
    by_cases h2 : s.1 = 2
    · rw [h2]
      simp only [beq_self_eq_true, cond_true]
      unfold M_I_VerifyPoly
      dsimp only
      rw [polyBases_eq hil, hr, cond_true, bindO_some', Bool.not_true, cond_false, areMixed_eq h s1, ha, bindO_some', Bool.not_true, cond_false]
      rw [show M_I_Group_verifyPoly ((p, q, g), ((basesN p q g ins.length).1.1, ([] : List Int)), key, ins, s.2.1, s.2.2.2.1, s.2.2.2.2.1, s.2.2.2.2.2.1, s.2.2.2.2.2.2.1, s.2.2.2.2.2.2.2.1, s.2.2.2.2.2.2.2.2) = _ from verifyPoly_eq (P := s.2.2.2) (hs := []) h hM s3, bindO_some', bindO_some']
      dsimp only
      rw [show M_I_MatrixProof_isEmpty (s.2.2.1.1, s.2.2.1.2.1, s.2.2.1.2.2.1, s.2.2.1.2.2.2.1, s.2.2.1.2.2.2.2) = _ from M_isEmpty_eq (a := s.2.2.1), bindO_some', cond_true]
      cases vVer p q g key (basesN p q g ins.length).1.1 ins s.2.1 s.2.2.2 <;> rfl
    · rw [beq_eq_false_iff_ne.2 h2, cond_false, cond_false]

def wMp (a : Mp) : Nat := a.1.length + a.2.1.length + wPf a.2.2

def wPp (a : Pp) : Nat := a.1.length + a.2.1.length + a.2.2.1.length + wPf a.2.2.2

def wSt (s : Stg) : Nat := s.2.1.length + wMp s.2.2.1 + wPp s.2.2.2

/-- All parts of a stage are shorter than n. -/
def Stg.smalls (s : Stg) (n : Nat) : Prop := s.2.1.length ≤ n ∧ Mp.small s.2.2.1 n ∧ Pp.small s.2.2.2 n

theorem szMatrixProof_eq {a : Mp} {left : Int} (h0 : 0 ≤ left) (h1 : left ≤ 1048576) (hl : Mp.small a (2 ^ 63 - 1)) : ∃ k, M_L_szMatrixProof (a, left) = some k ∧ k ≤ left ∧ (0 ≤ k → k = left - wMp a) := by
  obtain ⟨g1, g2, g3⟩ := hl
  unfold M_L_szMatrixProof wMp
  dsimp only
  rw [szIntS_eq h0 h1 (by omega), bindO_some']
  by_cases e1 : left < a.1.length
  · rw [if_pos e1]
    exact ⟨-1, rfl, by omega, by omega⟩
  · rw [if_neg e1, decide_eq_false (show ¬ (left - (a.1.length : Int) < 0) by omega), cond_false, szIntS_eq (by omega) (by omega) (by omega), bindO_some']
    by_cases e2 : left - a.1.length < a.2.1.length
    · rw [if_pos e2]
      exact ⟨-1, rfl, by omega, by omega⟩
    · obtain ⟨k, e3, e4, e5⟩ := szProof_eq (a := a.2.2) (left := left - a.1.length - a.2.1.length) (by omega) (by omega) g3
      rw [if_neg e2, decide_eq_false (show ¬ (left - (a.1.length : Int) - a.2.1.length < 0) by omega), cond_false, show M_L_szProof ((a.2.2.1, a.2.2.2.1, a.2.2.2.2), left - (a.1.length : Int) - a.2.1.length) = some k from e3, bindO_some']
      by_cases hk : k < 0
      · rw [decide_eq_true hk]
        exact ⟨-1, rfl, by omega, by omega⟩
      · rw [decide_eq_false hk]
        have := e5 (by omega)
        exact ⟨k, rfl, by omega, fun _ => by unfold wPf; omega⟩

theorem szPolyProof_eq {a : Pp} {left : Int} (h0 : 0 ≤ left) (h1 : left ≤ 1048576) (hl : Pp.small a (2 ^ 63 - 1)) : ∃ k, M_L_szPolyProof (a, left) = some k ∧ k ≤ left ∧ (0 ≤ k → k = left - wPp a) := by
  obtain ⟨g1, g2, g2', g3⟩ := hl
  unfold M_L_szPolyProof wPp
  dsimp only
  rw [szIntS_eq h0 h1 (by omega), bindO_some']
  by_cases e1 : left < a.1.length
  · rw [if_pos e1]
    exact ⟨-1, rfl, by omega, by omega⟩
  · rw [if_neg e1, decide_eq_false (show ¬ (left - (a.1.length : Int) < 0) by omega), cond_false, szIntS_eq (by omega) (by omega) (by omega), bindO_some']
    by_cases e2 : left - a.1.length < a.2.1.length
    · rw [if_pos e2]
      exact ⟨-1, rfl, by omega, by omega⟩
    · rw [if_neg e2, decide_eq_false (show ¬ (left - (a.1.length : Int) - a.2.1.length < 0) by omega), cond_false, szIntS_eq (by omega) (by omega) (by omega), bindO_some']
      by_cases e2' : left - a.1.length - a.2.1.length < a.2.2.1.length
      · rw [if_pos e2']
        exact ⟨-1, rfl, by omega, by omega⟩
      · obtain ⟨k, e3, e4, e5⟩ := szProof_eq (a := a.2.2.2) (left := left - a.1.length - a.2.1.length - a.2.2.1.length) (by omega) (by omega) g3
        rw [if_neg e2', decide_eq_false (show ¬ (left - (a.1.length : Int) - a.2.1.length - a.2.2.1.length < 0) by omega), cond_false, show M_L_szProof ((a.2.2.2.1, a.2.2.2.2.1, a.2.2.2.2.2), left - (a.1.length : Int) - a.2.1.length - a.2.2.1.length) = some k from e3, bindO_some']
        by_cases hk : k < 0
        · rw [decide_eq_true hk]
          exact ⟨-1, rfl, by omega, by omega⟩
        · rw [decide_eq_false hk]
          have := e5 (by omega)
          exact ⟨k, rfl, by omega, fun _ => by unfold wPf; omega⟩

theorem szStage_eq {s : Stg} {left : Int} (h0 : 0 ≤ left) (h1 : left ≤ 1048576) (hl : Stg.smalls s (2 ^ 63 - 1)) : ∃ k, M_L_szStage (s, left) = some k ∧ k ≤ left ∧ (0 ≤ k → k = left - wSt s) := by
  obtain ⟨g1, g2, g3⟩ := hl
  unfold M_L_szStage wSt
  dsimp only
  rw [szCipherS_eq h0 h1 (by omega), bindO_some']
  by_cases e1 : left < s.2.1.length
  · rw [if_pos e1]
    exact ⟨-1, rfl, by omega, by omega⟩
  · obtain ⟨k, e3, e4, e5⟩ := szMatrixProof_eq (a := s.2.2.1) (left := left - s.2.1.length) (by omega) (by omega) g2
    rw [if_neg e1, decide_eq_false (show ¬ (left - (s.2.1.length : Int) < 0) by omega), cond_false, show M_L_szMatrixProof ((s.2.2.1.1, s.2.2.1.2.1, s.2.2.1.2.2.1, s.2.2.1.2.2.2.1, s.2.2.1.2.2.2.2), left - (s.2.1.length : Int)) = some k from e3, bindO_some']
    by_cases hk : k < 0
    · rw [decide_eq_true hk]
      exact ⟨-1, rfl, by omega, by omega⟩
    · have h5 := e5 (by omega)
      obtain ⟨k2, f3, f4, f5⟩ := szPolyProof_eq (a := s.2.2.2) (left := k) (by omega) (by omega) g3
      rw [decide_eq_false hk, cond_false, show M_L_szPolyProof ((s.2.2.2.1, s.2.2.2.2.1, s.2.2.2.2.2.1, s.2.2.2.2.2.2.1, s.2.2.2.2.2.2.2.1, s.2.2.2.2.2.2.2.2), k) = some k2 from f3, bindO_some']
      by_cases hk2 : k2 < 0
      · rw [decide_eq_true hk2]
        exact ⟨-1, rfl, by omega, by omega⟩
      · rw [decide_eq_false hk2]
        have := f5 (by omega)
        exact ⟨k2, rfl, by omega, fun _ => by omega⟩

theorem szStageS_eq {x : List Stg} {left : Int} (h0 : 0 ≤ left) (h1 : left ≤ 1048576) (hx : x.length < 2 ^ 63) (hr : ∀ r ∈ x, Stg.smalls r (2 ^ 63 - 1)) : ∃ k, M_L_szStageS (x, left) = some k ∧ k ≤ left ∧ (0 ≤ k → k = left - x.length - wsum wSt x) := by
  unfold M_L_szStageS
  simp only [i64_in (left - (x.length : Int)) (by omega), bindO_some']
  by_cases hk : left - (x.length : Int) < 0
  · rw [decide_eq_true hk]
    exact ⟨-1, rfl, by omega, fun h => by omega⟩
  · rw [decide_eq_false hk, cond_false]
    refine Exists.imp (fun k hk => ⟨hk.1, by have := hk.2.1; omega, hk.2.2⟩) (sz_loop wSt x (left := left - x.length) (by omega) (by omega) (by omega) (fun again i a l ha hi g0 g1 => ?_) (fun again l => ?_))
    · obtain ⟨k, e1, e2, e3⟩ := szStage_eq (s := a) (left := l) g0 g1 (hr a (List.mem_of_getElem? ha))
      refine ⟨k, e2, fun h => by have := e3 h; omega, ?_⟩
      simp only [lt_yes hi, cond_true, getI_nat, ha, bindO_some', show M_L_szStage ((a.1, a.2.1, (a.2.2.1.1, a.2.2.1.2.1, a.2.2.1.2.2.1, a.2.2.1.2.2.2.1, a.2.2.1.2.2.2.2), a.2.2.2.1, a.2.2.2.2.1, a.2.2.2.2.2.1, a.2.2.2.2.2.2.1, a.2.2.2.2.2.2.2.1, a.2.2.2.2.2.2.2.2), l) = some k from e1, i64_succ (show i < 2 ^ 62 by omega)]
      by_cases hk : k < 0 <;> simp [hk]
    · simp only [lt_no, cond_false]

theorem toStage_eq {s : Stg} (h : s.small) : M_L_toStage s = some s := by
  obtain ⟨h1, ⟨h2, h3, h4⟩, h5, h6, h7, h8⟩ := h
  unfold M_L_toStage M_L_toMatrixProof M_L_toPolyProof
  dsimp only
  rw [toCipherS_eq h1, bindO_some', toIntS_eq h2, bindO_some', toIntS_eq h3, bindO_some', show M_L_toProof (s.2.2.1.2.2.1, s.2.2.1.2.2.2.1, s.2.2.1.2.2.2.2) = _ from toProof_eq (a := s.2.2.1.2.2) h4, bindO_some', bindO_some', toIntS_eq h5, bindO_some', toIntS_eq h6, bindO_some', toIntS_eq h7, bindO_some', show M_L_toProof (s.2.2.2.2.2.2.1, s.2.2.2.2.2.2.2.1, s.2.2.2.2.2.2.2.2) = _ from toProof_eq (a := s.2.2.2.2.2.2) h8, bindO_some', bindO_some']

theorem toStageS_eq {x : List Stg} (h : x.length ≤ 1048576) (hr : ∀ r ∈ x, Stg.small r) : M_L_toStageS x = some x := by
  unfold M_L_toStageS
  have hx : (x.length : Int) ≤ ((lim : Nat) : Int) := by rw [lim_eq]; omega
  rw [guardO_of (by simpa using hx), bindO_some', Int.toNat_natCast]
  refine copy_loop x (0, [], ([], [], [], [], []), [], [], [], [], [], []) (fun again i a s ha hi hs => ?_) (fun again s hs => ?_) (by omega)
  · have hsi := List.getElem?_eq_getElem (l := s) (show i < s.length by omega)
    simp only [lt_yes hi, cond_true, getI_nat, ha, hsi, bindO_some', toStage_eq (hr a (List.mem_of_getElem? ha)), Int.toNat_natCast, i64_succ (show i < 2 ^ 62 by omega)]
  · simp

theorem eqStage_eq {s : Stg} (h : s.small) : M_L_eqStage (s, s) = some true := by
  obtain ⟨h1, ⟨h2, h3, h4⟩, h5, h6, h7, h8⟩ := h
  have p1 := eqProof_eq (a := s.2.2.1.2.2) (b := s.2.2.1.2.2) ⟨by have := h4.1; omega, by have := h4.2.1; omega, by have := h4.2.2; omega⟩
  have p2 := eqProof_eq (a := s.2.2.2.2.2.2) (b := s.2.2.2.2.2.2) ⟨by have := h8.1; omega, by have := h8.2.1; omega, by have := h8.2.2; omega⟩
  unfold M_L_eqStage M_L_eqMatrixProof M_L_eqPolyProof
  dsimp only
  rw [eqCipherS_eq (by omega), eqIntS_eq (by omega), eqIntS_eq (by omega), eqIntS_eq (by omega), eqIntS_eq (by omega), eqIntS_eq (by omega)]
  rw [show M_L_eqProof ((s.2.2.1.2.2.1, s.2.2.1.2.2.2.1, s.2.2.1.2.2.2.2), s.2.2.1.2.2.1, s.2.2.1.2.2.2.1, s.2.2.1.2.2.2.2) = _ from p1, show M_L_eqProof ((s.2.2.2.2.2.2.1, s.2.2.2.2.2.2.2.1, s.2.2.2.2.2.2.2.2), s.2.2.2.2.2.2.1, s.2.2.2.2.2.2.2.1, s.2.2.2.2.2.2.2.2) = _ from p2]
  simp

theorem eqStageS_eq {a : List Stg} (h : a.length < 2 ^ 62) (hr : ∀ r ∈ a, Stg.small r) : M_L_eqStageS (a, a) = some true := by
  unfold M_L_eqStageS
  have e1 : ((a.length : Int) != (a.length : Int)) = false := by simp
  dsimp only
  rw [e1, cond_false]
  refine (range_loop (n := a.length) (fun _ => true) h (fun again i hi => ?_) (fun again => ?_)).trans (by simp)
  · have hx := List.getElem?_eq_getElem hi
    rw [lt_yes hi, cond_true, getI_nat, hx, bindO_some', bindO_some']
    rw [show M_L_eqStage ((a[i].1, a[i].2.1, (a[i].2.2.1.1, a[i].2.2.1.2.1, a[i].2.2.1.2.2.1, a[i].2.2.1.2.2.2.1, a[i].2.2.1.2.2.2.2), a[i].2.2.2.1, a[i].2.2.2.2.1, a[i].2.2.2.2.2.1, a[i].2.2.2.2.2.2.1, a[i].2.2.2.2.2.2.2.1, a[i].2.2.2.2.2.2.2.2), a[i].1, a[i].2.1, (a[i].2.2.1.1, a[i].2.2.1.2.1, a[i].2.2.1.2.2.1, a[i].2.2.1.2.2.2.1, a[i].2.2.1.2.2.2.2), a[i].2.2.2.1, a[i].2.2.2.2.1, a[i].2.2.2.2.2.1, a[i].2.2.2.2.2.2.1, a[i].2.2.2.2.2.2.2.1, a[i].2.2.2.2.2.2.2.2) = some true from eqStage_eq (hr a[i] (List.getElem_mem hi)), bindO_some', Bool.not_true, cond_false, i64_succ (show i < 2 ^ 62 by omega), bindO_some', cond_true]
  · rw [lt_no, cond_false]

theorem gt6 (n : Nat) : decide (((n : Nat) : Int) > 6) = !decide (n ≤ 6) := by
  by_cases h : n ≤ 6
  · rw [decide_eq_true h, decide_eq_false (by omega)]
    rfl
  · rw [decide_eq_false h, decide_eq_true (by omega)]
    rfl

theorem wf_stages {l : List Stg} (h : WF (.sl (.cons (.int .i64) (.cons (.sl (.cons (.int .i64) (.one (.int .i64)))) (.cons (.cons (.sl (.int .i64)) (.cons (.sl (.int .i64)) (.one (.cons (.sl (.int .i64)) (.cons (.sl (.int .i64)) (.one (.sl (.int .i64)))))))) (.one (.cons (.sl (.int .i64)) (.cons (.sl (.int .i64)) (.cons (.sl (.int .i64)) (.one (.cons (.sl (.int .i64)) (.cons (.sl (.int .i64)) (.one (.sl (.int .i64)))))))))))))) l) : l.length < 2 ^ 63 ∧ ∀ r ∈ l, Stg.smalls r (2 ^ 63 - 1) := by
  have hm : maxLen < 2 ^ 63 := by decide
  refine ⟨Nat.lt_of_le_of_lt h.1 hm, fun r hr => ?_⟩
  have hw := h.2 r hr
  have h1 := hw.2.1.1
  have a1 := hw.2.2.1.1.1
  have a2 := hw.2.2.1.2.1.1
  have a3 := hw.2.2.1.2.2.1.1
  have a4 := hw.2.2.1.2.2.2.1.1
  have a5 := hw.2.2.1.2.2.2.2.1
  have b1 := hw.2.2.2.1.1
  have b2 := hw.2.2.2.2.1.1
  have b3 := hw.2.2.2.2.2.1.1
  have b4 := hw.2.2.2.2.2.2.1.1
  have b5 := hw.2.2.2.2.2.2.2.1.1
  have b6 := hw.2.2.2.2.2.2.2.2.1
  exact ⟨by omega, ⟨by omega, by omega, by omega, by omega, by omega⟩, by omega, by omega, by omega, by omega, by omega, by omega⟩

theorem stage_small {l : List Stg} (hs : wsum wSt l ≤ 1048576) : ∀ r ∈ l, Stg.small r := fun r hm => by
  have := wsum_mem (w := wSt) hm
  simp only [wSt, wMp, wPp, wPf] at this hs
  exact ⟨by omega, ⟨by omega, by omega, by omega, by omega, by omega⟩, by omega, by omega, by omega, by omega, by omega, by omega⟩

set_option maxHeartbeats 2000000 in
theorem markStageS_eq {x : List Stg} {k0 : Int} (h0 : 0 ≤ k0 ∧ k0 ≤ 8388608) (hx : x.length ≤ 1048576) (hw : wsum wSt x ≤ 1048576) : ∃ k y, M_L_markStageS (x, k0) = some (k, y) ∧ 0 ≤ k := by
  unfold M_L_markStageS
  dsimp only
  refine loopO_ind (fun (_ : Int × Int × List Stg) (y : Option (Int × List Stg)) => ∃ k z, y = some (k, z) ∧ 0 ≤ k)
    (fun (s : Int × Int × List Stg) => ∃ i : Nat, s.2.1 = (i : Int) ∧ i ≤ x.length ∧ s.2.2.length = x.length ∧ (∀ j, i ≤ j → s.2.2[j]? = x[j]?) ∧ 0 ≤ s.1 ∧ s.1 + (x.length - i : Nat) + 2 * wsum wSt (x.drop i) ≤ 16777216)
    (fun s => x.length - s.2.1.toNat) (fun again s hs ih => ?_) (s := (k0, 0, x)) ⟨0, rfl, by omega, rfl, fun _ _ => rfl, h0.1, by simp only [List.drop_zero]; omega⟩ (by simp only; omega)
  obtain ⟨k, j, y⟩ := s
  obtain ⟨i, g1, g2, g3, g4, g5, g6⟩ := hs
  dsimp only at g1 g3 g4 g5 g6 ih ⊢
  subst g1
  rw [g3]
  rcases Nat.lt_or_ge i x.length with hi | hi
  · have ha := List.getElem?_eq_getElem hi
    have hy : y[i]? = some x[i] := by rw [g4 i (Nat.le_refl _), ha]
    have hiy : i < y.length := by omega
    have e := wsum_drop (w := wSt) ha
    generalize x[i] = a at ha hy e
    have hwa : wSt a = a.2.1.length + (a.2.2.1.1.length + a.2.2.1.2.1.length + (a.2.2.1.2.2.1.length + a.2.2.1.2.2.2.1.length + a.2.2.1.2.2.2.2.length)) + (a.2.2.2.1.length + a.2.2.2.2.1.length + a.2.2.2.2.2.1.length + (a.2.2.2.2.2.2.1.length + a.2.2.2.2.2.2.2.1.length + a.2.2.2.2.2.2.2.2.length)) := rfl
    obtain ⟨a0, a1, ⟨m1, m2, m3, m4, m5⟩, q1, q2, q3, q4, q5, q6⟩ := a
    dsimp only at hwa
    simp only [lt_yes hi, cond_true, getI_nat, hy, bindO_some', Int.toNat_natCast, List.getElem?_set_self (show i < y.length from hiy), i64_in (k + 1) (by omega),
      markCipherS_eq (a := a1) (k := k + 1) (by omega) (by omega) (by omega), List.getElem?_modify_eq, Option.map_eq_map, Option.map_some,
      markIntS_eq (a := m1) (k := k + 1 + 2 * a1.length) (by omega) (by omega) (by omega),
      markIntS_eq (a := m2) (k := k + 1 + 2 * a1.length + m1.length) (by omega) (by omega) (by omega),
      markIntS_eq (a := m3) (k := k + 1 + 2 * a1.length + m1.length + m2.length) (by omega) (by omega) (by omega),
      markIntS_eq (a := m4) (k := k + 1 + 2 * a1.length + m1.length + m2.length + m3.length) (by omega) (by omega) (by omega),
      markIntS_eq (a := m5) (k := k + 1 + 2 * a1.length + m1.length + m2.length + m3.length + m4.length) (by omega) (by omega) (by omega),
      markIntS_eq (a := q1) (k := k + 1 + 2 * a1.length + m1.length + m2.length + m3.length + m4.length + m5.length) (by omega) (by omega) (by omega),
      markIntS_eq (a := q2) (k := k + 1 + 2 * a1.length + m1.length + m2.length + m3.length + m4.length + m5.length + q1.length) (by omega) (by omega) (by omega),
      markIntS_eq (a := q3) (k := k + 1 + 2 * a1.length + m1.length + m2.length + m3.length + m4.length + m5.length + q1.length + q2.length) (by omega) (by omega) (by omega),
      markIntS_eq (a := q4) (k := k + 1 + 2 * a1.length + m1.length + m2.length + m3.length + m4.length + m5.length + q1.length + q2.length + q3.length) (by omega) (by omega) (by omega),
      markIntS_eq (a := q5) (k := k + 1 + 2 * a1.length + m1.length + m2.length + m3.length + m4.length + m5.length + q1.length + q2.length + q3.length + q4.length) (by omega) (by omega) (by omega),
      markIntS_eq (a := q6) (k := k + 1 + 2 * a1.length + m1.length + m2.length + m3.length + m4.length + m5.length + q1.length + q2.length + q3.length + q4.length + q5.length) (by omega) (by omega) (by omega), i64_succ (show i < 2 ^ 62 by omega)]
    refine ih _ ⟨i + 1, rfl, by omega, by simpa using g3, fun j hj => ?_, ?_, ?_⟩ ?_
    · rw [← g4 j (by omega)]
      have hne : i ≠ j := by omega
      simp [hne]
    · dsimp only; omega
    · dsimp only; omega
    · dsimp only; omega
  · obtain rfl : i = x.length := by omega
    simp only [lt_no, cond_false]
    exact ⟨k, y, rfl, g5⟩

noncomputable def acGo (p q g key : Int) : List Stg → Nat → List (Int × Int) → List Int → List Int × List (Int × Int)
  | [], _, ins, acc => (acc, ins)
  | s :: l, i, ins, acc => bif stageB p q g key ins s then acGo p q g key l (i + 1) s.2.1 (acc ++ [(i : Int)]) else acGo p q g key l (i + 1) ins acc

noncomputable def acR (p q g key : Int) (ins : List (Int × Int)) (l : List Stg) : List Int × List (Int × Int) × Bool :=
  bif rdB p q g key ins && decide (l.length ≤ 6) then ((acGo p q g key l 0 ins []).1, (acGo p q g key l 0 ins []).2, true) else ([], [], false)

theorem acGo_small {p q g key : Int} : ∀ (l : List Stg) (i : Nat) (ins : List (Int × Int)) (acc : List Int), rdB p q g key ins = true → (acGo p q g key l i ins acc).1.length ≤ acc.length + l.length ∧ (acGo p q g key l i ins acc).2.length ≤ 12
  | [], i, ins, acc, h => by
    simp only [rdB, Bool.and_eq_true] at h
    have := (mixB_spec h.1).2.2.1
    exact ⟨by simp [acGo], by simp only [acGo]; omega⟩
  | s :: l, i, ins, acc, h => by
    cases hb : stageB p q g key ins s with
    | false =>
      have := acGo_small l (i + 1) ins acc h
      simp only [acGo, hb, cond_false, List.length_cons]
      omega
    | true =>
      have := acGo_small l (i + 1) s.2.1 (acc ++ [(i : Int)]) (stageB_next h hb)
      simp only [acGo, hb, cond_true, List.length_cons, List.length_append, List.length_nil] at this ⊢
      omega

theorem acR_small (p q g key : Int) (ins : List (Int × Int)) (l : List Stg) : (acR p q g key ins l).1.length ≤ 6 ∧ (acR p q g key ins l).2.1.length ≤ 12 := by
  unfold acR
  cases hr : rdB p q g key ins with
  | false => simp
  | true =>
  by_cases h6 : l.length ≤ 6
  · rw [decide_eq_true h6]
    have := acGo_small l 0 ins [] hr
    simp only [Bool.and_self, cond_true, List.length_nil] at this ⊢
    omega
  · rw [decide_eq_false h6]
    simp

theorem S_Accepted_eq {p q g key : Int} {ins : List (Int × Int)} {l : List Stg} (hr : ∀ r ∈ l, Stg.small r) : M_S_AcceptedStages ((p, q, g), key, ins, l) = some (acR p q g key ins l) := by
  unfold M_S_AcceptedStages acR
  dsimp only
  rw [xReady_eq, bindO_some', gt6]
  cases hrd : rdB p q g key ins with
  | false => rfl
  | true =>
  rw [Bool.not_true, cond_false, Bool.true_and]
  by_cases h6 : l.length ≤ 6
  · rw [decide_eq_true h6, Bool.not_true, cond_false, cond_true]
    refine (loopO_for (σ := List (Int × Int) × List Int) (fun i s => (s.1, s.2, (i : Int))) l.length (fun i s => some ((acGo p q g key (l.drop i) i s.1 s.2).1, (acGo p q g key (l.drop i) i s.1 s.2).2, true)) (fun i s => rdB p q g key s.1 = true ∧ s.2.length ≤ i) (fun again s hs => ?_) (fun again i s hi hs ih => ?_) (by omega) (i := 0) (s := (ins, [])) (Nat.zero_le _) ⟨hrd, Nat.zero_le _⟩).trans rfl
    · have h1 := hs.1
      simp only [rdB, Bool.and_eq_true] at h1
      have h2 := (mixB_spec h1.1).2.2.1
      have e1 : ([] : List (Int × Int)).length + s.1.length ≤ 68719476736 := by simp only [List.length_nil]; omega
      dsimp only
      rw [lt_no, cond_false, List.drop_length, guardO_of (lenOk_of e1), bindO_some', bindO_some', List.nil_append]
      rfl
    · have ha := List.getElem?_eq_getElem hi
      have hv := xVerify_eq (s := l[i]) hs.1 (hr _ (List.getElem_mem hi))
      have e1 : s.2.length + [(i : Int)].length ≤ 68719476736 := by have := hs.2; simp only [List.length_cons, List.length_nil]; omega
      dsimp only
      rw [lt_yes hi, cond_true, getI_nat, ha, bindO_some', show M_S_xVerify ((p, q, g), key, s.1, l[i].1, l[i].2.1, (l[i].2.2.1.1, l[i].2.2.1.2.1, l[i].2.2.1.2.2.1, l[i].2.2.1.2.2.2.1, l[i].2.2.1.2.2.2.2), l[i].2.2.2.1, l[i].2.2.2.2.1, l[i].2.2.2.2.2.1, l[i].2.2.2.2.2.2.1, l[i].2.2.2.2.2.2.2.1, l[i].2.2.2.2.2.2.2.2) = _ from hv, bindO_some', List.drop_eq_getElem_cons hi]
      cases hb : stageB p q g key s.1 l[i] with
      | false =>
        rw [cond_false, i64_succ (show i < 2 ^ 62 by omega), bindO_some', ih (s.1, s.2) ⟨hs.1, by have := hs.2; dsimp only; omega⟩]
        simp only [acGo, hb, cond_false]
      | true =>
        rw [cond_true, guardO_of (lenOk_of e1), bindO_some', bindO_some', i64_succ (show i < 2 ^ 62 by omega), bindO_some', ih (l[i].2.1, s.2 ++ [(i : Int)]) ⟨stageB_next hs.1 hb, by have := hs.2; simp only [List.length_append, List.length_cons, List.length_nil]; omega⟩]
        simp only [acGo, hb, cond_true]
  · rw [decide_eq_false h6]
    rfl

theorem I_Accepted_eq {p q g key : Int} {ins : List (Int × Int)} {l : List Stg} (hi : ins.length ≤ 1048576) (hr : ∀ r ∈ l, Stg.small r) : M_I_AcceptedStages ((p, q, g), key, ins, l) = some (acR p q g key ins l) := by
  unfold M_I_AcceptedStages acR
  dsimp only
  rw [polyBases_eq hi, bindO_some', gt6]
  cases hrd : rdB p q g key ins with
  | false => rfl
  | true =>
  rw [cond_true, Bool.not_true, cond_false, Bool.true_and]
  by_cases h6 : l.length ≤ 6
  · rw [decide_eq_true h6, Bool.not_true, cond_false, cond_true]
    refine (loopO_for (σ := List (Int × Int) × List Int) (fun i s => (s.1, s.2, (i : Int))) l.length (fun i s => some ((acGo p q g key (l.drop i) i s.1 s.2).1, (acGo p q g key (l.drop i) i s.1 s.2).2, true)) (fun i s => rdB p q g key s.1 = true ∧ s.2.length ≤ i) (fun again s hs => ?_) (fun again i s hi hs ih => ?_) (by omega) (i := 0) (s := (ins, [])) (Nat.zero_le _) ⟨hrd, Nat.zero_le _⟩).trans rfl
    · have h1 := hs.1
      simp only [rdB, Bool.and_eq_true] at h1
      have h2 := (mixB_spec h1.1).2.2.1
      dsimp only
      rw [lt_no, cond_false, List.drop_length, cloneC_eq (by omega), bindO_some']
      rfl
    · have ha := List.getElem?_eq_getElem hi
      have hv := VerifyStage_eq (s := l[i]) hs.1 (hr _ (List.getElem_mem hi))
      have e1 : s.2.length + [(i : Int)].length ≤ 68719476736 := by have := hs.2; simp only [List.length_cons, List.length_nil]; omega
      dsimp only
      rw [lt_yes hi, cond_true, getI_nat, ha, bindO_some', show M_I_VerifyStage ((p, q, g), key, s.1, l[i].1, l[i].2.1, (l[i].2.2.1.1, l[i].2.2.1.2.1, l[i].2.2.1.2.2.1, l[i].2.2.1.2.2.2.1, l[i].2.2.1.2.2.2.2), l[i].2.2.2.1, l[i].2.2.2.2.1, l[i].2.2.2.2.2.1, l[i].2.2.2.2.2.2.1, l[i].2.2.2.2.2.2.2.1, l[i].2.2.2.2.2.2.2.2) = _ from hv, bindO_some', List.drop_eq_getElem_cons hi, Bool.not_true, cond_false]
      cases hb : stageB p q g key s.1 l[i] with
      | false =>
        rw [cond_false, i64_succ (show i < 2 ^ 62 by omega), bindO_some', ih (s.1, s.2) ⟨hs.1, by have := hs.2; dsimp only; omega⟩]
        simp only [acGo, hb, cond_false]
      | true =>
        rw [cond_true, guardO_of (lenOk_of e1), bindO_some', bindO_some', i64_succ (show i < 2 ^ 62 by omega), bindO_some', ih (l[i].2.1, s.2 ++ [(i : Int)]) ⟨stageB_next hs.1 hb, by have := hs.2; simp only [List.length_append, List.length_cons, List.length_nil]; omega⟩]
        simp only [acGo, hb, cond_true]
  · rw [decide_eq_false h6]
    rfl

theorem law_FnExactAcceptedStages (x : (Int × Int × Int) × Int × List (Int × Int) × List Stg) (h : WFI [.data (.cons (.int .i64) (.cons (.int .i64) (.one (.int .i64)))), .data (.int .i64), .data (.sl (.cons (.int .i64) (.one (.int .i64)))), .data (.sl (.cons (.int .i64) (.cons (.sl (.cons (.int .i64) (.one (.int .i64)))) (.cons (.cons (.sl (.int .i64)) (.cons (.sl (.int .i64)) (.one (.cons (.sl (.int .i64)) (.cons (.sl (.int .i64)) (.one (.sl (.int .i64)))))))) (.one (.cons (.sl (.int .i64)) (.cons (.sl (.int .i64)) (.cons (.sl (.int .i64)) (.one (.cons (.sl (.int .i64)) (.cons (.sl (.int .i64)) (.one (.sl (.int .i64))))))))))))))] x) : M_L_FnExactAcceptedStages x = some true := by
  obtain ⟨⟨p, q, g⟩, key, ins, l⟩ := x
  obtain ⟨w1, w2⟩ := wf_stages (l := l) h.2.2.2
  have w3 : ins.length ≤ maxLen := h.2.2.1.1
  have hm : maxLen < 2 ^ 63 := by decide
  unfold M_L_FnExactAcceptedStages
  dsimp only
  rw [szCipherS_eq (by omega) (by omega) (by omega), bindO_some']
  by_cases hy : (1048576 : Int) < ins.length
  · rw [if_pos hy]
    rfl
  · rw [if_neg hy, decide_eq_false (by omega), cond_false]
    obtain ⟨k, e1, e2, e3⟩ := szStageS_eq (x := l) (left := 1048576 - ins.length) (by omega) (by omega) w1 w2
    rw [e1, bindO_some']
    by_cases hk : k < 0
    · have d : decide (k < 0) = true := by simpa using hk
      rw [d]
      rfl
    · have d : decide (k < 0) = false := by simpa using hk
      have hk' := e3 (by omega)
      have hlen : l.length ≤ 1048576 := by omega
      have hr := stage_small (l := l) (by omega)
      have hS := S_Accepted_eq (p := p) (q := q) (g := g) (key := key) (ins := ins) hr
      have hI := I_Accepted_eq (p := p) (q := q) (g := g) (key := key) (ins := ins) (by omega) hr
      have he := eqStageS_eq (a := l) (by omega) hr
      have hsm := acR_small p q g key ins l
      generalize acR p q g key ins l = o at hS hI hsm
      obtain ⟨o1, o2, o3⟩ := o
      dsimp only at hsm
      have m1 := markCipherS_eq (a := ins) (k := 1) (by omega) (by omega) (by omega)
      obtain ⟨k2, y2, m2, hk2⟩ := markStageS_eq (x := l) (k0 := 1 + 2 * (ins.length : Int)) (by omega) hlen (by omega)
      have m3 := markCipherS_eq (a := o2) (k := 1 + (o1.length : Int)) (by omega) (by omega) (by omega)
      have h3 := heldCipherS_eq (n := o2.length) (k := 1 + (o1.length : Int)) (by omega) (by omega) (by omega)
      have hn := one_nn o1.length
      have hn2 : ¬ ((1 : Int) + (o1.length : Int) + 2 * (o2.length : Int) < 0) := by omega
      rw [d, cond_false]
      simp [toGroup_eq, toCipherS_eq (show ins.length ≤ 1048576 by omega), toStageS_eq hlen hr, hS, hI, he, eqCipherS_eq (show ins.length < 2 ^ 62 by omega), eqCipherS_eq (show o2.length < 2 ^ 62 by omega), m1, m2, hk2, eqIntS_eq (show o1.length < 2 ^ 62 by omega), markIntS_eq (show o1.length < 2 ^ 40 by omega), heldIntS_eq (show o1.length < 2 ^ 40 by omega), hn, m3, h3, hn2]

end Go.Proofs.YtjmpdejigkjaoaaGreat.Vd
