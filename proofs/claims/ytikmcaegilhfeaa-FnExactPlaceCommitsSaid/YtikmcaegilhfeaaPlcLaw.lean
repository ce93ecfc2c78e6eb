/- The law FnExactPlaceCommits as plain functions on data returns true for all arguments. No conditions. -/
import Derived.Test.YtikmcaegilhfeaaPlcMod
set_option linter.unusedVariables false
set_option linter.unusedSimpArgs false
set_option linter.unusedSectionVars false
set_option linter.unnecessarySimpa false
namespace Go.Proofs.Ytikmcaegilhfeaa.Vd
open Go.IntWalk

theorem i64_succ {i : Nat} (h : i < 2 ^ 62) : IntKind.wrap .i64 ((i : Int) + 1) = ((i + 1 : Nat) : Int) := by
  rw [i64_in _ (by omega)]
  rfl

theorem lt_yes {i n : Nat} (h : i < n) : decide ((i : Int) < (n : Int)) = true := by simp [h]

theorem lt_no (n : Nat) : decide ((n : Int) < (n : Int)) = false := by simp

/-- A walk over a list by its numbers, with no other state. -/
def walk {α β : Type} (step : Nat → α → Option β → Option β) (fin : Option β) : Nat → List α → Option β
  | _, [] => fin
  | i, a :: r => step i a (walk step fin (i + 1) r)

theorem loop_walk {α β : Type} {body : (Int → Option β) → Int → Option β} (l : List α) (step : Nat → α → Option β → Option β) (fin : Option β)
    (h : ∀ (again : Int → Option β) (i : Nat) a, l[i]? = some a → i < l.length → body again (i : Int) = step i a (again ((i + 1 : Nat) : Int)))
    (hend : ∀ again : Int → Option β, body again (l.length : Int) = fin) (hl : l.length < 2 ^ 64) : loopO body 0 = walk step fin 0 l := by
  refine (loopO_for (σ := Unit) (fun i _ => (i : Int)) l.length (fun i _ => walk step fin i (l.drop i)) (fun _ _ => True) (fun again _ _ => ?_) (fun again i _ hi _ ih => ?_) hl (i := 0) (s := ()) (Nat.zero_le _) trivial).trans rfl
  · simp [hend, walk]
  · rw [h again i l[i] (List.getElem?_eq_getElem hi) hi, ih () trivial, List.drop_eq_getElem_cons hi, walk]

/-- A walk over a list by its numbers, with a state (before the number). -/
def walkS {α β σ : Type} (step : Nat → α → σ → (σ → Option β) → Option β) (fin : σ → Option β) : Nat → List α → σ → Option β
  | _, [], s => fin s
  | i, a :: r, s => step i a s (walkS step fin (i + 1) r)

/-- The same, where the states keep something. -/
theorem loop_walkI {α β σ τ : Type} {body : (τ → Option β) → τ → Option β} (enc : Int → σ → τ) (l : List α) (step : Nat → α → σ → (σ → Option β) → Option β) (fin : σ → Option β) (Inv : Nat → σ → Prop)
    (hc : ∀ (i : Nat) a s (k k' : σ → Option β), l[i]? = some a → Inv i s → (∀ s', Inv (i + 1) s' → k s' = k' s') → step i a s k = step i a s k')
    (h : ∀ (again : τ → Option β) (i : Nat) a s, l[i]? = some a → i < l.length → Inv i s → body again (enc i s) = step i a s fun s' => again (enc ((i + 1 : Nat) : Int) s'))
    (hend : ∀ (again : τ → Option β) s, Inv l.length s → body again (enc l.length s) = fin s) (hl : l.length < 2 ^ 64) (s : σ) (h0 : Inv 0 s) : loopO body (enc 0 s) = walkS step fin 0 l s := by
  refine (loopO_for (σ := σ) (fun i s => enc (i : Int) s) l.length (fun i s => walkS step fin i (l.drop i) s) Inv (fun again s hs => ?_) (fun again i s hi hs ih => ?_) hl (i := 0) (s := s) (Nat.zero_le _) h0).trans rfl
  · simp [hend _ _ hs, walkS]
  · rw [h again i l[i] s (List.getElem?_eq_getElem hi) hi hs, List.drop_eq_getElem_cons hi, walkS]
    exact hc i l[i] s _ _ (List.getElem?_eq_getElem hi) hs fun s' hs' => ih s' hs'

theorem walk_any {α : Type} (p : α → Bool) : ∀ (l : List α) (i : Nat), walk (fun _ a k => if p a = true then some true else k) (some false) i l = some (l.any p)
  | [], _ => rfl
  | a :: l, i => by
    rw [walk, walk_any p l]
    cases h : p a <;> simp [h]

theorem walk_all {α : Type} (p : α → Bool) : ∀ (l : List α) (i : Nat), walk (fun _ a k => if p a = true then k else some false) (some true) i l = some (l.all p)
  | [], _ => rfl
  | a :: l, i => by
    rw [walk, walk_all p l]
    cases h : p a <;> simp [h]

theorem walk_index {α : Type} (p : α → Bool) : ∀ (l : List α) (i : Nat), ∃ j : Int, walk (fun i a k => if p a = true then some (i : Int) else k) (some (-1)) i l = some j ∧ decide (j ≥ 0) = l.any p
  | [], _ => ⟨-1, rfl, rfl⟩
  | a :: l, i => by
    obtain ⟨j, h1, h2⟩ := walk_index p l (i + 1)
    cases h : p a
    · exact ⟨j, by simp [walk, h, h1], by simp [h, h2]⟩
    · exact ⟨i, by simp [walk, h], by simp [h]⟩

theorem toIntS_eq {x : List Int} (h : x.length ≤ 1048576) : M_L_toIntS x = some x := by
  unfold M_L_toIntS
  have hx : (x.length : Int) ≤ ((lim : Nat) : Int) := by rw [lim_eq]; omega
  rw [guardO_of (by simpa using hx), bindO_some']
  refine (loopO_for (σ := List Int) (fun i s => ((i : Int), s)) x.length (fun i s => some (x.take i ++ x.drop i)) (fun i s => s = x.take i ++ List.replicate (x.length - i) 0) (fun again s hs => ?_) (fun again i s hi hs ih => ?_) (by omega) (i := 0) (s := List.replicate x.length 0) (Nat.zero_le _) (by simp)).trans (by simp)
  · subst hs; simp
  · subst hs
    have h1 : (x.take i ++ List.replicate (x.length - i) (0 : Int))[i]? = some 0 := by
      rw [List.getElem?_append_right (by simp; omega)]
      simp [List.getElem?_replicate]
      omega
    have h2 : (x.take i ++ List.replicate (x.length - i) (0 : Int)).set i x[i] = x.take (i + 1) ++ List.replicate (x.length - (i + 1)) 0 := by
      refine List.ext_getElem? fun j => ?_
      rw [List.getElem?_set]
      by_cases hij : i = j
      · subst hij
        rw [if_pos rfl, if_pos (by simp; omega), List.getElem?_append_left (by simp; omega), List.getElem?_take, if_pos (by omega), List.getElem?_eq_getElem hi]
      · rw [if_neg hij]
        by_cases hj : j < i
        · rw [List.getElem?_append_left (by simp; omega), List.getElem?_append_left (by simp; omega), List.getElem?_take, List.getElem?_take, if_pos hj, if_pos (by omega)]
        · rw [List.getElem?_append_right (by simp; omega), List.getElem?_append_right (by simp; omega)]
          simp only [List.length_take, List.getElem?_replicate]
          rw [Nat.min_eq_left (by omega), Nat.min_eq_left (by omega)]
          by_cases hjx : j < x.length
          · rw [if_pos (by omega), if_pos (by omega)]
          · rw [if_neg (by omega), if_neg (by omega)]
    simp only [getI_nat, List.getElem?_eq_getElem hi, h1, bindO_some', Int.toNat_natCast, h2, i64_succ (show i < 2 ^ 62 by omega)]
    rw [ih _ rfl]
    simp [hi]

theorem eqIntS_eq {a b : List Int} (h : a.length < 2 ^ 62) : M_L_eqIntS (a, b) = some (decide (a = b)) := by
  unfold M_L_eqIntS
  by_cases hl : a.length = b.length
  · have e1 : ((a.length : Int) != (b.length : Int)) = false := by simp [hl]
    dsimp only
    rw [e1]
    simp only [cond_false]
    refine (loopO_for (σ := Unit) (fun i _ => (i : Int)) a.length (fun i _ => some (decide (a.drop i = b.drop i))) (fun _ _ => True) (fun again _ _ => ?_) (fun again i _ hi _ ih => ?_) (by omega) (i := 0) (s := ()) (Nat.zero_le _) trivial).trans (by simp)
    · simp [hl]
    · have hi' : i < b.length := by omega
      simp only [getI_nat, List.getElem?_eq_getElem hi, List.getElem?_eq_getElem hi', bindO_some', i64_succ (show i < 2 ^ 62 by omega), ih () trivial]
      rw [List.drop_eq_getElem_cons hi, List.drop_eq_getElem_cons hi']
      by_cases he : a[i] = b[i] <;> simp [bne_dec, he, hi, -List.getElem_cons_drop]
  · have e1 : ((a.length : Int) != (b.length : Int)) = true := by simp; omega
    dsimp only
    rw [e1]
    simp only [cond_true, Option.some.injEq]
    symm
    simp only [decide_eq_false_iff_not]
    rintro rfl
    exact hl rfl

def marks (n : Nat) (k : Int) : List Int := (List.range n).map fun (i : Nat) => k + (i : Int)

theorem marks_length (n : Nat) (k : Int) : (marks n k).length = n := by simp [marks]

theorem marks_get {n i : Nat} {k : Int} (h : i < n) : (marks n k)[i]? = some (k + i) := by
  simp [marks, h]

theorem markIntS_eq {a : List Int} {k : Int} (h : a.length < 2 ^ 40) (h0 : 0 ≤ k) (h1 : k < 2 ^ 40) : M_L_markIntS (a, k) = some (k + a.length, marks a.length k) := by
  unfold M_L_markIntS
  refine (loopO_for (σ := Int × List Int) (fun i s => (s.1, ((i : Int), s.2))) a.length (fun i s => some (k + a.length, marks a.length k)) (fun i s => s.1 = k + i ∧ s.2 = marks i k ++ a.drop i) (fun again s hs => ?_) (fun again i s hi hs ih => ?_) (by omega) (i := 0) (s := (k, a)) (Nat.zero_le _) (by simp [marks])).trans rfl
  · obtain ⟨s1, s2⟩ := s
    obtain ⟨rfl, rfl⟩ := hs
    simp [marks_length]
  · obtain ⟨s1, s2⟩ := s
    obtain ⟨rfl, rfl⟩ := hs
    have h2 : (marks i k ++ a.drop i)[i]? = some a[i] := by
      rw [List.getElem?_append_right (by simp [marks_length])]
      simp [marks_length, hi]
    have h3 : (marks i k ++ a.drop i).set i (k + i) = marks (i + 1) k ++ a.drop (i + 1) := by
      rw [List.set_append_right _ _ (by simp [marks_length]), marks_length, Nat.sub_self, List.drop_eq_getElem_cons hi, List.set_cons_zero]
      simp [marks, List.range_succ]
    have hlen : (marks i k ++ a.drop i).length = a.length := by simp [marks_length]; omega
    simp only [getI_nat, h2, bindO_some', Int.toNat_natCast, h3, i64_succ (show i < 2 ^ 62 by omega), hlen]
    rw [i64_in _ (by omega)]
    simp only [lt_yes hi, cond_true]
    exact ih (k + i + 1, marks (i + 1) k ++ a.drop (i + 1)) ⟨by simp; omega, rfl⟩

theorem heldIntS_eq {n : Nat} {k : Int} (h : n < 2 ^ 40) (h0 : 0 ≤ k) (h1 : k < 2 ^ 40) : M_L_heldIntS (marks n k, k) = some (k + n) := by
  unfold M_L_heldIntS
  refine (loopO_for (σ := Int) (fun i s => (s, (i : Int))) n (fun i s => some (k + n)) (fun i s => s = k + i) (fun again s hs => ?_) (fun again i s hi hs ih => ?_) (by omega) (i := 0) (s := k) (Nat.zero_le _) (by simp)).trans rfl
  · subst hs; simp [marks_length]
  · subst hs
    simp only [getI_nat, marks_get hi, marks_length, bindO_some', i64_succ (show i < 2 ^ 62 by omega)]
    rw [i64_in _ (by omega)]
    simp only [lt_yes hi, cond_true, bne_self_eq_false, cond_false]
    exact ih (k + i + 1) (by simp; omega)

theorem has_eq {l : List Int} {n : Int} (hl : l.length < 2 ^ 62) : M_S_l1Has (l, n) = some (l.any (· == n)) := by
  unfold M_S_l1Has
  refine (loop_walk l (fun _ a k => if (a == n) = true then some true else k) (some false) (fun again i a ha hi => ?_) (fun again => ?_) (by omega)).trans (walk_any _ l 0)
  · simp only [getI_nat, ha, bindO_some', i64_succ (show i < 2 ^ 62 by omega)]
    cases h : a == n <;> simp [h, hi]
  · simp

theorem index_eq {l : List Int} {n : Int} (hl : l.length < 2 ^ 62) : ∃ j : Int, M_slices_Index_sint_int (l, n) = some j ∧ decide (j ≥ 0) = l.any (· == n) := by
  obtain ⟨j, h1, h2⟩ := walk_index (fun a : Int => a == n) l 0
  refine ⟨j, ?_, h2⟩
  unfold M_slices_Index_sint_int
  refine (loop_walk l (fun i a k => if (a == n) = true then some (i : Int) else k) (some (-1)) (fun again i a ha hi => ?_) (fun again => ?_) (by omega)).trans h1
  · simp only [getI_nat, ha, bindO_some', i64_succ (show i < 2 ^ 62 by omega), lt_yes hi, cond_true]
    rw [show (n == a) = (a == n) from BEq.comm]
    cases h : a == n <;> simp [h]
  · simp

theorem one_nn (n : Nat) : ((1 : Int) + (n : Int) < 0) = False := by
  simp only [eq_iff_iff, iff_false]
  omega

theorem lenOk_of {n : Nat} (h : n ≤ 68719476736) : lenOk n = true := by simp [lenOk, lim_eq, h]

theorem sliceNH_nat {h n : Nat} (hh : h ≤ n) : sliceNH (h : Int) n = some (0, h) := by
  unfold sliceNH
  rw [if_pos ⟨by omega, by omega⟩]
  simp

theorem contains_eq {l : List Int} {n : Int} (hl : l.length < 2 ^ 62) : M_slices_Contains_sint_int (l, n) = some (l.any (· == n)) := by
  obtain ⟨j, h1, h2⟩ := index_eq (n := n) hl
  unfold M_slices_Contains_sint_int
  dsimp only
  rw [h1, bindO_some', h2]

theorem in_eq (x a b : Int) : M_S_l1In (x, a, b) = some (decide (a ≤ x ∧ x ≤ b)) := by
  by_cases h : a ≤ x <;> by_cases h2 : x ≤ b <;> simp [M_S_l1In, h, h2]

theorem within_eq (x a b : Int) : M_I_within (x, a, b) = some (decide (a ≤ x ∧ x ≤ b)) := by
  by_cases h : a ≤ x <;> by_cases h2 : x ≤ b <;> simp [M_I_within, h, h2]

theorem isModulus_eq (x : Int) : M_I_isModulus x = some (decide (2 ≤ x ∧ x ≤ 2000000000)) := by
  unfold M_I_isModulus
  rw [within_eq]
  rfl

def IsP (n : Int) : Prop := 2 ≤ n ∧ ∀ d, 2 ≤ d → d * d ≤ n → n % d ≠ 0

noncomputable def isP (n : Int) : Bool := @decide (IsP n) (Classical.propDecidable _)

/-- No divisor from d on. -/
def NoDiv (n s : Int) : Prop := ∀ d, s ≤ d → d * d ≤ n → n % d ≠ 0

noncomputable def noDiv (n s : Int) : Bool := @decide (NoDiv n s) (Classical.propDecidable _)

theorem noDiv_end {n s : Int} (hs : 0 ≤ s) (h : n < s * s) : noDiv n s = true := by
  simp only [noDiv, decide_eq_true_eq]
  intro d hd hdd
  have := Int.mul_le_mul hd hd hs (by omega)
  omega

theorem noDiv_hit {n s : Int} (h : s * s ≤ n) (h2 : n % s = 0) : noDiv n s = false := by
  simp only [noDiv, decide_eq_false_iff_not]
  intro hn
  exact hn s (Int.le_refl _) h h2

theorem noDiv_step {n s : Int} (h2 : s * s ≤ n → n % s ≠ 0) : noDiv n s = noDiv n (s + 1) := by
  simp only [noDiv, decide_eq_decide]
  constructor
  · intro h d hd hdd
    exact h d (by omega) hdd
  · intro h d hd hdd
    by_cases he : d = s
    · subst he
      exact h2 hdd
    · exact h d (by omega) hdd

theorem sq_lt {s : Int} (h0 : 0 ≤ s) (h : s * s ≤ 2000000000) : s ≤ 44721 := by
  refine Int.not_lt.1 fun hlt => ?_
  have := Int.mul_le_mul (show (44722 : Int) ≤ s by omega) (show (44722 : Int) ≤ s by omega) (by omega) h0
  omega

theorem sq_le {s k : Int} (h0 : 0 ≤ s) (h : s ≤ k) : s * s ≤ k * k := Int.mul_le_mul h h h0 (by omega)

theorem nPrime_eq {n : Int} (hn : n ≤ 2000000000) : M_S_nPrime n = some (isP n) := by
  unfold M_S_nPrime
  by_cases h2 : n < 2
  · have : isP n = false := by simp only [isP, decide_eq_false_iff_not]; intro h; have := h.1; omega
    simp [h2, this]
  · have hb : decide (n < 2) = false := by simpa using h2
    rw [hb, cond_false]
    have h1 : isP n = noDiv n 2 := by
      simp only [isP, noDiv, decide_eq_decide]
      exact ⟨fun h => h.2, fun h => ⟨by omega, h⟩⟩
    rw [h1]
    refine loopO_spec (fun s => some (noDiv n s)) (fun s => 2 ≤ s ∧ s ≤ 50000) (fun s => (50000 - s).toNat) (fun again s hs ih => ?_) ⟨by omega, by omega⟩ (by omega)
    obtain ⟨hs1, hs2⟩ := hs
    have hq := sq_le (by omega) hs2
    have hq0 : 0 ≤ s * s := Int.mul_nonneg (by omega) (by omega)
    simp only [bindO_some', i64_in _ (show (-9223372036854775808 : Int) ≤ s * s ∧ s * s ≤ 9223372036854775807 by omega)]
    by_cases hle : s * s ≤ n
    · have := sq_lt (by omega) (show s * s ≤ 2000000000 by omega)
      have hgs : guardO (s != 0) = some () := guardO_of (by simp; omega)
      simp only [hle, decide_true, cond_true, hgs, bindO_some', tmod_nn (show 0 ≤ n by omega)]
      by_cases h0 : n % s = 0
      · simp [h0, noDiv_hit hle h0]
      · have hb : (n % s == 0) = false := by simpa using h0
        have hw := i64_in (s + 1) (by omega)
        have hi := ih (s + 1) ⟨by omega, by omega⟩ (by omega)
        have hn := noDiv_step (n := n) (s := s) (fun _ => h0)
        rw [hb, cond_false, hw, hi, hn]
    · simp [hle, noDiv_end (by omega) (show n < s * s by omega)]

theorem odd_loop {n : Int} (hn : n ≤ 2000000000) (h2 : 2 ≤ n) (hodd : n % 2 = 1 ∨ n = 2) : loopO (fun (again9 : (Int → (Option Bool))) => (fun (s10 : Int) => (bindO (some (IntKind.wrap .i64 (s10 * s10))) (fun (a11 : Int) => (cond (decide (a11 ≤ n)) (bindO (guardO (s10 != (0 : Int))) (fun (a12 : Unit) => (bindO (some (Int.tmod n s10)) (fun (a13 : Int) => (cond (a13 == (0 : Int)) (some false) (bindO (some (IntKind.wrap .i64 (s10 + (2 : Int)))) (fun (a14 : Int) => (again9 a14)))))))) (some true)))))) (3 : Int) = some (noDiv n 3) := by
  refine loopO_spec (fun s => some (noDiv n s)) (fun s => 3 ≤ s ∧ s ≤ 50000 ∧ s % 2 = 1) (fun s => (50000 - s).toNat) (fun again s hs ih => ?_) ⟨by omega, by omega, by omega⟩ (by omega)
  obtain ⟨hs1, hs2, hs3⟩ := hs
  have hq := sq_le (by omega) hs2
  have hq0 : 0 ≤ s * s := Int.mul_nonneg (by omega) (by omega)
  simp only [bindO_some', i64_in _ (show (-9223372036854775808 : Int) ≤ s * s ∧ s * s ≤ 9223372036854775807 by omega)]
  by_cases hle : s * s ≤ n
  · have := sq_lt (by omega) (show s * s ≤ 2000000000 by omega)
    have h9 := sq_le (show (0 : Int) ≤ 3 by omega) hs1
    have hgs : guardO (s != 0) = some () := guardO_of (by simp; omega)
    simp only [hle, decide_true, cond_true, hgs, bindO_some', tmod_nn (show 0 ≤ n by omega)]
    by_cases h0 : n % s = 0
    · simp [h0, noDiv_hit hle h0]
    · have hb : (n % s == 0) = false := by simpa using h0
      have hw := i64_in (s + 2) (by omega)
      have hi := ih (s + 2) ⟨by omega, by omega, by omega⟩ (by omega)
      have hn1 := noDiv_step (n := n) (s := s) (fun _ => h0)
      have hn2 := noDiv_step (n := n) (s := s + 1) (fun h8 h1 => by
        have := Int.emod_emod_of_dvd n (show (2 : Int) ∣ (s + 1) by omega)
        rw [h1] at this
        have h3 : n ≠ 2 := fun h => by subst h; omega
        omega)
      rw [hb, cond_false, hw, hi, hn1, hn2, show s + 1 + 1 = s + 2 by omega]
  · simp [hle, noDiv_end (by omega) (show n < s * s by omega)]

theorem isPrime_eq {n : Int} (hn : n ≤ 2000000000) : M_I_isPrime n = some (isP n) := by
  unfold M_I_isPrime
  rw [isModulus_eq]
  by_cases h2 : 2 ≤ n
  · have h1 : isP n = noDiv n 2 := by
      simp only [isP, noDiv, decide_eq_decide]
      exact ⟨fun h => h.2, fun h => ⟨h2, h⟩⟩
    have hg2 : guardO ((2 : Int) != 0) = some () := rfl
    by_cases ho : n % 2 = 1 ∨ n = 2
    · rw [odd_loop hn h2 ho, hg2]
      simp only [bindO_some', h2, hn, and_self, decide_true, Bool.not_true, cond_false, tmod_nn (show 0 ≤ n by omega), h1]
      rcases ho with ho | rfl
      · have hb : (n % 2 == 0) = false := by simp [ho]
        rw [hb, cond_false, noDiv_step (n := n) (s := 2) (fun _ => by omega)]
        rfl
      · rw [noDiv_end (n := 2) (s := 2) (by omega) (by omega), noDiv_end (n := 2) (s := 3) (by omega) (by omega)]
        rfl
    · have he : n % 2 = 0 := by omega
      have hn2 : n ≠ 2 := fun h => ho (.inr h)
      have hb : (n != 2) = true := by simpa using hn2
      simp only [bindO_some', hg2, h2, hn, and_self, decide_true, Bool.not_true, cond_false, tmod_nn (show 0 ≤ n by omega), he, beq_self_eq_true, cond_true, hb, h1]
      rw [noDiv_hit (by omega) he]
  · have : isP n = false := by simp only [isP, decide_eq_false_iff_not]; intro h; have := h.1; omega
    simp [h2, this]

theorem pow_mod (a m : Int) : ∀ k : Nat, (a % m) ^ k % m = a ^ k % m
  | 0 => by simp
  | k + 1 => by rw [Int.pow_succ, Int.pow_succ, Int.mul_emod, pow_mod a m k, ← Int.mul_emod, Int.mul_emod, Int.emod_emod_of_dvd _ (Int.dvd_refl m), ← Int.mul_emod]

theorem sq_pow (a : Int) (k : Nat) : (a * a) ^ k = a ^ (2 * k) := by
  rw [show a * a = a ^ 2 by rw [Int.pow_succ, Int.pow_succ, Int.pow_zero, Int.one_mul], ← Int.pow_mul]

/-- One round of the power loop. -/
theorem pow_round {out a m : Int} {e : Int} (he : 0 < e) : ((if e % 2 = 1 then out * a % m else out) * (a * a % m) ^ (e / 2).toNat) % m = (out * a ^ e.toNat) % m := by
  have hk : e.toNat = 2 * (e / 2).toNat + (e % 2).toNat := by omega
  rw [Int.mul_emod, pow_mod, ← Int.mul_emod, sq_pow]
  by_cases h : e % 2 = 1
  · rw [if_pos h, hk, h, Int.pow_add, show (1 : Int).toNat = 1 by rfl, Int.pow_succ, Int.pow_zero, Int.one_mul, Int.mul_emod, Int.emod_emod_of_dvd _ (Int.dvd_refl m), ← Int.mul_emod]
    congr 1
    rw [Int.mul_assoc, Int.mul_comm a]
  · rw [if_neg h, hk, show e % 2 = 0 by omega]
    rfl

theorem mul_in {a b : Int} (ha : 0 ≤ a) (ha2 : a ≤ 3000000000) (hb : 0 ≤ b) (hb2 : b ≤ 3000000000) : 0 ≤ a * b ∧ a * b ≤ 9000000000000000000 :=
  ⟨Int.mul_nonneg ha hb, by have := Int.mul_le_mul ha2 hb2 hb (by omega); omega⟩

theorem nPower_eq {a e m : Int} (ha : 0 ≤ a) (ha2 : a ≤ 3000000000) (he : 0 ≤ e) (he2 : e ≤ 9223372036854775807) (hm : 1 ≤ m) (hm2 : m ≤ 3000000000) : M_S_nPower (a, e, m) = some (a ^ e.toNat % m) := by
  unfold M_S_nPower
  dsimp only
  have hg : guardO (m != 0) = some () := guardO_of (by simp; omega)
  have hg2 : guardO ((2 : Int) != 0) = some () := rfl
  rw [hg, bindO_some', bindO_some', tmod_nn (by omega)]
  have hfin : a ^ e.toNat % m = (1 % m * a ^ e.toNat) % m := by rw [Int.mul_emod, Int.emod_emod_of_dvd _ (Int.dvd_refl m), ← Int.mul_emod, Int.one_mul]
  rw [hfin]
  refine loopO_spec (fun (s : Int × Int × Int) => some ((s.2.2 * s.1 ^ s.2.1.toNat) % m)) (fun s => 0 ≤ s.1 ∧ s.1 ≤ 3000000000 ∧ 0 ≤ s.2.1 ∧ s.2.1 ≤ 9223372036854775807 ∧ 0 ≤ s.2.2 ∧ s.2.2 < m) (fun s => s.2.1.toNat) (fun again s hs ih => ?_)
    (⟨ha, ha2, he, he2, Int.emod_nonneg _ (by omega), Int.emod_lt_of_pos _ (by omega)⟩) (show e.toNat < 2 ^ 64 by omega)
  obtain ⟨a, e, out⟩ := s
  obtain ⟨h1, h2, h3, h4, h5, h6⟩ := hs
  dsimp only at h1 h2 h3 h4 h5 h6 ih ⊢
  have hoa := mul_in h5 (show out ≤ 3000000000 by omega) h1 h2
  have haa := mul_in h1 h2 h1 h2
  by_cases hpos : e > 0
  · have hr := pow_round (out := out) (a := a) (m := m) hpos
    have haam := Int.emod_nonneg (a * a) (show m ≠ 0 by omega)
    have haam2 := Int.emod_lt_of_pos (a * a) (show 0 < m by omega)
    have hoam := Int.emod_nonneg (out * a) (show m ≠ 0 by omega)
    have hoam2 := Int.emod_lt_of_pos (out * a) (show 0 < m by omega)
    simp only [hpos, decide_true, cond_true, hg, hg2, bindO_some', tmod_nn h3, tdiv_nn h3, i64_in _ (show (-9223372036854775808 : Int) ≤ out * a ∧ out * a ≤ 9223372036854775807 by omega), i64_in _ (show (-9223372036854775808 : Int) ≤ a * a ∧ a * a ≤ 9223372036854775807 by omega),
      tmod_nn hoa.1, tmod_nn haa.1, i64_in _ (show (-9223372036854775808 : Int) ≤ e / 2 ∧ e / 2 ≤ 9223372036854775807 by omega)]
    by_cases ho : e % 2 = 1
    · rw [if_pos ho] at hr
      rw [show (e % 2 == 1) = true by simp [ho], cond_true, ih (a * a % m, e / 2, out * a % m) ⟨haam, by dsimp only; omega, by dsimp only; omega, by dsimp only; omega, hoam, hoam2⟩ (by dsimp only; omega)]
      exact congrArg some hr
    · rw [if_neg ho] at hr
      rw [show (e % 2 == 1) = false by simp [ho], cond_false, ih (a * a % m, e / 2, out) ⟨haam, by dsimp only; omega, by dsimp only; omega, by dsimp only; omega, h5, h6⟩ (by dsimp only; omega)]
      exact congrArg some hr
  · have : e = 0 := by omega
    subst this
    simp [Int.emod_eq_of_lt h5 h6]

theorem bits_one {x : Int} (h : 0 ≤ x) : Vd.bits .and .i64 x 1 = x % 2 := by
  obtain ⟨n, rfl⟩ := Int.eq_ofNat_of_zero_le h
  have h1 : (BitVec.ofInt 64 ((n : Nat) : Int) &&& BitVec.ofInt 64 1).toNat = n % 2 := by
    rw [BitVec.toNat_and]
    have e1 : (BitVec.ofInt 64 ((n : Nat) : Int)).toNat = n % 2 ^ 64 := by simp
    have e2 : (BitVec.ofInt 64 1).toNat = 1 := by decide
    rw [e1, e2, Nat.and_one_is_mod]
    omega
  show IntKind.wrap .i64 (((BitVec.ofInt 64 ((n : Nat) : Int) &&& BitVec.ofInt 64 1).toNat : Nat) : Int) = _
  rw [h1, i64_in _ (by omega)]
  omega

theorem shr_one {x : Int} : Vd.shr .i64 x 1 = x / 2 := by
  show x.fdiv (2 ^ (min (1 : Int).toNat 64)) = x / 2
  rw [show ((2 : Int) ^ (min (1 : Int).toNat 64)) = 2 by decide, fdiv_pos (by omega)]

theorem power_eq {a e m : Int} (he : e ≤ 9223372036854775807) : M_I_power (a, e, m) = M_S_nPower (a, e, m) := by
  unfold M_I_power M_S_nPower
  congr 1
  funext _
  congr 1
  funext out
  refine loopO_congr (fun s => s.2.1 ≤ 9223372036854775807) (fun a1 a2 s hs ih => ?_) he
  by_cases hpos : s.2.1 > 0
  · have hg2 : guardO ((2 : Int) != 0) = some () := rfl
    have hg3 : guardO (decide ((0 : Int) ≤ 1)) = some () := rfl
    have hw : ∀ (x : Int) y, a1 (x, s.2.1 / 2, y) = a2 (x, s.2.1 / 2, y) := fun x y => ih _ (by dsimp only; omega)
    simp only [hpos, decide_true, cond_true, hg2, hg3, bindO_some', bits_one (show 0 ≤ s.2.1 by omega), shr_one, tmod_nn (show 0 ≤ s.2.1 by omega), tdiv_nn (show 0 ≤ s.2.1 by omega),
      i64_in _ (show (-9223372036854775808 : Int) ≤ s.2.1 / 2 ∧ s.2.1 / 2 ≤ 9223372036854775807 by omega), hw]
  · simp [hpos]

theorem l1All_eq {l : List Int} {lo hi : Int} (hl : l.length < 2 ^ 62) : M_S_l1All (l, lo, hi) = some (l.all fun n => decide (lo ≤ n ∧ n ≤ hi)) := by
  unfold M_S_l1All
  refine (loop_walk l (fun _ a k => if (decide (lo ≤ a ∧ a ≤ hi)) = true then k else some false) (some true) (fun again i a ha hi' => ?_) (fun again => ?_) (by omega)).trans (walk_all (fun n => decide (lo ≤ n ∧ n ≤ hi)) l 0)
  · simp only [getI_nat, ha, bindO_some', i64_succ (show i < 2 ^ 62 by omega), lt_yes hi', cond_true, in_eq]
    cases decide (lo ≤ a ∧ a ≤ hi) <;> rfl
  · simp

theorem walk_index_mem {α : Type} (p : α → Bool) (f : α → Option Bool) : ∀ (l : List α) (i : Nat), (∀ a ∈ l, f a = some (p a)) →
    ∃ j : Int, walk (fun i a k => bindO (f a) fun b => cond b (some (i : Int)) k) (some (-1)) i l = some j ∧ decide (j ≥ 0) = l.any p
  | [], _, _ => ⟨-1, rfl, rfl⟩
  | a :: l, i, hf => by
    obtain ⟨j, h1, h2⟩ := walk_index_mem p f l (i + 1) fun b hb => hf b (List.mem_cons_of_mem _ hb)
    have ha := hf a (List.mem_cons_self ..)
    cases h : p a
    · exact ⟨j, by simp [walk, ha, h, h1], by simp [h, h2]⟩
    · exact ⟨i, by simp [walk, ha, h], by simp [h]⟩

theorem containsFunc_eq {l : List Int} {f : Int → Option Bool} {p : Int → Bool} (hl : l.length < 2 ^ 62) (hf : ∀ a ∈ l, f a = some (p a)) : M_slices_ContainsFunc_sint_int (l, f) = some (l.any p) := by
  obtain ⟨j, h1, h2⟩ := walk_index_mem p f l 0 hf
  unfold M_slices_ContainsFunc_sint_int
  have : M_slices_IndexFunc_sint_int (l, f) = some j := by
    unfold M_slices_IndexFunc_sint_int
    refine (loop_walk l _ _ (fun again i a ha hi => ?_) (fun again => ?_) (by omega)).trans h1
    · simp only [getI_nat, ha, bindO_some', i64_succ (show i < 2 ^ 62 by omega), lt_yes hi, cond_true]
    · simp
  dsimp only
  rw [this, bindO_some', h2]

theorem areAll_eq {l : List Int} {f : Int → Option Bool} {p : Int → Bool} (hl : l.length < 2 ^ 62) (hf : ∀ a ∈ l, f a = some (p a)) : M_I_areAll (l, f) = some (l.all p) := by
  unfold M_I_areAll
  dsimp only
  rw [containsFunc_eq (p := fun a => !p a) hl fun a ha => by simp [M_I_areAll_1, hf a ha], bindO_some']
  congr 1
  rw [List.any_eq_not_all_not]
  simp

noncomputable def okG (p q g : Int) : Bool := decide (3 ≤ p ∧ p ≤ 2000000000) && (decide (2 ≤ q ∧ q ≤ p - 1) && ((p - 1) % q == 0 && (decide (2 ≤ g ∧ g ≤ p - 1) && (g ^ q.toNat % p == 1 && (isP q && isP p)))))

theorem l2Good_eq (p q g : Int) : M_S_l2Good (p, q, g) = some (okG p q g) := by
  unfold M_S_l2Good okG
  simp only [in_eq, bindO_some']
  by_cases h1 : 3 ≤ p ∧ p ≤ 2000000000
  · rw [i64_in (p - 1) (by omega)]
    simp only [h1, and_self, decide_true, cond_true, Bool.true_and]
    by_cases h2 : 2 ≤ q ∧ q ≤ p - 1
    · have hq : guardO (q != 0) = some () := guardO_of (by simp; omega)
      simp only [h2, and_self, decide_true, cond_true, Bool.true_and, hq, bindO_some', tmod_nn (show 0 ≤ p - 1 by omega)]
      by_cases h3 : (p - 1) % q = 0
      · simp only [h3, beq_self_eq_true, cond_true, Bool.true_and]
        by_cases h4 : 2 ≤ g ∧ g ≤ p - 1
        · simp only [h4, and_self, decide_true, cond_true, Bool.true_and, nPower_eq (show 0 ≤ g by omega) (show g ≤ 3000000000 by omega) (show 0 ≤ q by omega) (show q ≤ 9223372036854775807 by omega) (show 1 ≤ p by omega) (show p ≤ 3000000000 by omega), bindO_some',
            nPrime_eq (show q ≤ 2000000000 by omega), nPrime_eq (show p ≤ 2000000000 by omega)]
          cases (g ^ q.toNat % p == 1) <;> cases isP q <;> cases isP p <;> rfl
        · simp [h4]
      · have hb : ((p - 1) % q == 0) = false := by simpa using h3
        simp [hb]
    · simp [h2]
  · simp [h1]

theorem IsValidGroup_eq (p q g : Int) : M_I_IsValidGroup (p, q, g) = some (okG p q g) := by
  unfold M_I_IsValidGroup okG
  simp only [within_eq, bindO_some']
  by_cases h1 : 3 ≤ p ∧ p ≤ 2000000000
  · rw [i64_in (p - 1) (by omega)]
    simp only [h1, and_self, decide_true, cond_true, Bool.true_and]
    by_cases h2 : 2 ≤ q ∧ q ≤ p - 1
    · have hq : guardO (q != 0) = some () := guardO_of (by simp; omega)
      simp only [h2, and_self, decide_true, cond_true, Bool.true_and, hq, bindO_some', tmod_nn (show 0 ≤ p - 1 by omega)]
      by_cases h3 : (p - 1) % q = 0
      · simp only [h3, beq_self_eq_true, cond_true, Bool.true_and]
        by_cases h4 : 2 ≤ g ∧ g ≤ p - 1
        · simp only [h4, and_self, decide_true, cond_true, Bool.true_and, power_eq (show q ≤ 9223372036854775807 by omega), nPower_eq (show 0 ≤ g by omega) (show g ≤ 3000000000 by omega) (show 0 ≤ q by omega) (show q ≤ 9223372036854775807 by omega) (show 1 ≤ p by omega) (show p ≤ 3000000000 by omega), bindO_some',
            isPrime_eq (show q ≤ 2000000000 by omega), isPrime_eq (show p ≤ 2000000000 by omega)]
          cases (g ^ q.toNat % p == 1) <;> cases isP q <;> cases isP p <;> rfl
        · simp [h4]
      · have hb : ((p - 1) % q == 0) = false := by simpa using h3
        simp [hb]
    · simp [h2]
  · simp [h1]

/-- What a valid group fulfils. -/
structure Gr (p q g : Int) : Prop where
  p3 : 3 ≤ p
  pm : p ≤ 2000000000
  q2 : 2 ≤ q
  qp : q ≤ p - 1
  dv : (p - 1) % q = 0
  g2 : 2 ≤ g
  gp : g ≤ p - 1
  gq : g ^ q.toNat % p = 1
  pq : isP q = true
  pp : isP p = true

theorem okG_spec {p q g : Int} (h : okG p q g = true) : Gr p q g := by
  simp only [okG, Bool.and_eq_true, decide_eq_true_eq, beq_iff_eq] at h
  obtain ⟨⟨h1, h2⟩, ⟨h3, h4⟩, h5, ⟨h6, h7⟩, h8, h9, h10⟩ := h
  exact ⟨h1, h2, h3, h4, h5, h6, h7, h8, h9, h10⟩

theorem nMod_eq {a m : Int} (hm : 1 ≤ m) (hm2 : m ≤ 4611686018427387903) : M_S_nMod (a, m) = some (a % m) := by
  unfold M_S_nMod
  have hg : guardO (m != 0) = some () := guardO_of (by simp; omega)
  have h1 := Int.tmod_lt_of_pos a (show 0 < m by omega)
  have h2 : -m < a.tmod m := Int.lt_tmod_of_pos a (by omega)
  simp only [hg, bindO_some', i64_in (a.tmod m + m) (by omega), tmod_nn (show 0 ≤ a.tmod m + m by omega)]
  congr 1
  rw [Int.add_emod_right]
  have h3 := Int.mul_tdiv_add_tmod a m
  have : a % m = (m * a.tdiv m + a.tmod m) % m := by rw [h3]
  rw [this, Int.mul_add_emod_self_left]

theorem mod_eq {x : Int × Int} : M_I_mod x = M_S_nMod x := rfl

theorem gExp_eq {p q g x e : Int} (h : Gr p q g) (hx : 0 ≤ x) (hx2 : x ≤ p) : M_S_gExp ((p, q, g), x, e) = some (x ^ (e % q).toNat % p) := by
  unfold M_S_gExp
  have := h.p3; have := h.pm; have := h.q2; have := h.qp
  have h1 := Int.emod_nonneg e (show q ≠ 0 by omega)
  have h2 := Int.emod_lt_of_pos e (show 0 < q by omega)
  dsimp only
  rw [nMod_eq (by omega) (by omega), bindO_some', nPower_eq hx (by omega) h1 (by omega) (by omega) (by omega), bindO_some']

theorem Group_pow_eq {p q g x e : Int} (h : Gr p q g) (hx : 0 ≤ x) (hx2 : x ≤ p) : M_I_Group_pow ((p, q, g), x, e) = some (x ^ (e % q).toNat % p) := by
  unfold M_I_Group_pow
  have := h.p3; have := h.pm; have := h.q2; have := h.qp
  have h1 := Int.emod_nonneg e (show q ≠ 0 by omega)
  have h2 := Int.emod_lt_of_pos e (show 0 < q by omega)
  dsimp only
  rw [mod_eq, nMod_eq (by omega) (by omega), bindO_some', power_eq (by omega), nPower_eq hx (by omega) h1 (by omega) (by omega) (by omega), bindO_some']

theorem isExp_eq {p q g e : Int} (h : Gr p q g) : M_I_Group_isExp ((p, q, g), e) = some (decide (0 ≤ e ∧ e ≤ q - 1)) := by
  unfold M_I_Group_isExp
  have := h.pm; have := h.q2; have := h.qp
  simp only [bindO_some', i64_in (q - 1) (by omega), within_eq]

theorem gExps_eq {p q g : Int} {l : List Int} (h : Gr p q g) (hl : l.length < 2 ^ 62) : M_S_gExps ((p, q, g), l) = some (l.all fun e => decide (0 ≤ e ∧ e ≤ q - 1)) := by
  unfold M_S_gExps
  have := h.pm; have := h.q2; have := h.qp
  simp only [bindO_some', i64_in (q - 1) (by omega), l1All_eq hl]

/-- A product of residues. -/
def prodM (p : Int) : Int → List Int → Int
  | out, [] => out
  | out, x :: l => prodM p (out * x % p) l

theorem gMul_loop {p : Int} (hp : 1 ≤ p) (hp2 : p ≤ 3000000000) (l : List Int) (hx : ∀ x ∈ l, 0 ≤ x ∧ x ≤ 3000000000) (hl : l.length < 2 ^ 62) {body : (Int × Int → Option Int) → Int × Int → Option Int} 
    (h : ∀ (again : Int × Int → Option Int) (s : Int × Int), body again s = (cond (decide (s.2 < ((l.length : Nat) : Int))) (bindO (getI l s.2) fun a => bindO (some (IntKind.wrap .i64 (s.1 * a))) fun b => bindO (guardO (p != 0)) fun _ => bindO (some (b.tmod p)) fun c => bindO (some (IntKind.wrap .i64 (s.2 + 1))) fun d => again (c, d)) (some s.1))) :
    loopO body (1, 0) = some (prodM p 1 l) := by
  have hg : guardO (p != 0) = some () := guardO_of (by simp; omega)
  refine (loopO_for (σ := Int) (fun i s => (s, (i : Int))) l.length (fun i s => some (prodM p s (l.drop i))) (fun _ s => 0 ≤ s ∧ s ≤ 3000000000) (fun again s hs => ?_) (fun again i s hi hs ih => ?_) (by omega) (i := 0) (s := 1) (Nat.zero_le _) ⟨by omega, by omega⟩).trans (by simp)
  · rw [h]; simp [prodM]
  · have hm := hx l[i] (List.getElem_mem hi)
    have hb := mul_in hs.1 hs.2 hm.1 hm.2
    have h1 := Int.emod_nonneg (s * l[i]) (show p ≠ 0 by omega)
    have h2 := Int.emod_lt_of_pos (s * l[i]) (show 0 < p by omega)
    rw [h]
    simp only [lt_yes hi, cond_true, getI_nat, List.getElem?_eq_getElem hi, bindO_some', hg, i64_succ (show i < 2 ^ 62 by omega), i64_in (s * l[i]) (by omega), tmod_nn hb.1]
    rw [ih _ ⟨h1, by omega⟩, List.drop_eq_getElem_cons hi, prodM]

theorem gMul_eq {p q g : Int} {l : List Int} (h : Gr p q g) (hx : ∀ x ∈ l, 0 ≤ x ∧ x ≤ 3000000000) (hl : l.length < 2 ^ 62) : M_S_gMul ((p, q, g), l) = some (prodM p 1 l) := by
  unfold M_S_gMul
  have := h.p3; have := h.pm
  exact gMul_loop (by omega) (by omega) l hx hl fun _ _ => rfl

theorem Group_mul_eq {p q g : Int} {l : List Int} (h : Gr p q g) (hx : ∀ x ∈ l, 0 ≤ x ∧ x ≤ 3000000000) (hl : l.length < 2 ^ 62) : M_I_Group_mul ((p, q, g), l) = some (prodM p 1 l) := by
  unfold M_I_Group_mul
  have := h.p3; have := h.pm
  exact gMul_loop (by omega) (by omega) l hx hl fun _ _ => rfl

def hstep (c s k : Int) : Int := (c * s + k + 1) % 2147483647

def absorb (s : Int × Int) (x : Int) : Int × Int :=
  (hstep 48271 (hstep 48271 s.1 (x % 2147483648)) (x / 2147483648), hstep 69621 (hstep 69621 s.2 (x % 2147483648)) (x / 2147483648))

def digest (l : List Int) : Int := ((l.foldl absorb (absorb (1, 2) (l.length : Int))).1) * 2147483648 + (l.foldl absorb (absorb (1, 2) (l.length : Int))).2

def HOk (s : Int × Int) : Prop := 0 ≤ s.1 ∧ s.1 < 2147483648 ∧ 0 ≤ s.2 ∧ s.2 < 2147483648

theorem hstep_range (c s k : Int) : 0 ≤ hstep c s k ∧ hstep c s k < 2147483647 :=
  ⟨Int.emod_nonneg _ (by omega), Int.emod_lt_of_pos _ (by omega)⟩

theorem absorb_ok (s : Int × Int) (x : Int) : HOk (absorb s x) := by
  have h1 := hstep_range 48271 (hstep 48271 s.1 (x % 2147483648)) (x / 2147483648)
  have h2 := hstep_range 69621 (hstep 69621 s.2 (x % 2147483648)) (x / 2147483648)
  exact ⟨h1.1, by show hstep _ _ _ < _; omega, h2.1, by show hstep _ _ _ < _; omega⟩

theorem foldl_ok : ∀ (l : List Int) (s : Int × Int), HOk s → HOk (l.foldl absorb s)
  | [], _, h => h
  | x :: l, s, _ => foldl_ok l _ (absorb_ok s x)

theorem digest_range (l : List Int) : 0 ≤ digest l ∧ digest l ≤ 4611686018427387903 := by
  have h := foldl_ok l _ (absorb_ok (1, 2) (l.length : Int))
  obtain ⟨h1, h2, h3, h4⟩ := h
  unfold digest
  omega

theorem hstep_walk {c s k : Int} (hc : c = 48271 ∨ c = 69621) (hs : 0 ≤ s ∧ s < 2147483648) (hk : 0 ≤ k ∧ k < 2147483648) :
    (IntKind.wrap .i64 (IntKind.wrap .i64 (IntKind.wrap .i64 (c * s) + k) + 1)).tmod 2147483647 = hstep c s k := by
  have h1 : 0 ≤ c * s ∧ c * s ≤ 69621 * 2147483648 := ⟨Int.mul_nonneg (by omega) hs.1, Int.mul_le_mul (by omega) (by omega) hs.1 (by omega)⟩
  rw [i64_in (c * s) (by omega), i64_in (c * s + k) (by omega), i64_in (c * s + k + 1) (by omega), tmod_nn (by omega)]
  rfl

theorem absorb_eq {s : Int × Int} {x : Int} (hs : HOk s) (h0 : 0 ≤ x) (h1 : x ≤ 4611686018427387903) : M_S_l3State_absorb (s, x) = some (absorb s x) := by
  unfold M_S_l3State_absorb
  obtain ⟨h2, h3, h4, h5⟩ := hs
  have hg : guardO ((2147483648 : Int) != 0) = some () := rfl
  have hg2 : guardO ((2147483647 : Int) != 0) = some () := rfl
  dsimp only
  rw [hg]
  simp only [bindO_some', tmod_nn h0, tdiv_nn h0]
  rw [i64_in (x / 2147483648) (by omega)]
  have hb : 0 ≤ x % 2147483648 ∧ x % 2147483648 < 2147483648 := by omega
  have ha : 0 ≤ x / 2147483648 ∧ x / 2147483648 < 2147483648 := by omega
  have hm : ∀ k ∈ [x % 2147483648, x / 2147483648], 0 ≤ k ∧ k < 2147483648 := fun k hk => by
    simp only [List.mem_cons, List.not_mem_nil, or_false] at hk
    rcases hk with rfl | rfl
    · exact hb
    · exact ha
  have hg3 : ∀ (c s k : Int), 0 ≤ hstep c s k ∧ hstep c s k < 2147483648 := fun c s k => by have := hstep_range c s k; omega
  refine (loop_walkI (fun i (s : Int × Int) => (i, (s.1, s.2))) [x % 2147483648, x / 2147483648] (fun _ k s c => c (hstep 48271 s.1 k, hstep 69621 s.2 k)) (fun s => some (s.1, s.2)) (fun _ s => HOk s)
    (fun i a s k k' ha hs hk => hk _ ⟨(hg3 _ _ _).1, (hg3 _ _ _).2, (hg3 _ _ _).1, (hg3 _ _ _).2⟩) (fun again i a t ha hi ht => ?_) (fun again s hs => ?_) (by show (2 : Nat) < 2 ^ 64; omega) (s.1, s.2) ⟨h2, h3, h4, h5⟩).trans rfl
  · have hk := hm a (List.mem_of_getElem? ha)
    have hi2 : i < 2 := hi
    simp only [lt_yes hi, cond_true, getI_nat, ha, hg2, bindO_some', hstep_walk (.inl rfl) ⟨ht.1, ht.2.1⟩ hk, hstep_walk (.inr rfl) ⟨ht.2.2.1, ht.2.2.2⟩ hk, i64_succ (show i < 2 ^ 62 by omega)]
  · simp only [lt_no, cond_false]

theorem hInts_eq {l : List Int} (hl : l.length < 2 ^ 40) (hx : ∀ x ∈ l, 0 ≤ x ∧ x ≤ 4611686018427387903) : M_S_hInts l = some (digest l) := by
  unfold M_S_hInts
  rw [absorb_eq (⟨by omega, by omega, by omega, by omega⟩ : HOk (1, 2)) (by omega) (by omega), bindO_some']
  refine (loopO_for (σ := Int × Int) (fun i s => ((i : Int), (s.1, s.2))) l.length (fun i s => some (((l.drop i).foldl absorb s).1 * 2147483648 + ((l.drop i).foldl absorb s).2)) (fun _ s => HOk s) (fun again s hs => ?_) (fun again i s hi hs ih => ?_) (by omega) (i := 0) (s := absorb (1, 2) (l.length : Int)) (Nat.zero_le _) (absorb_ok _ _)).trans rfl
  · obtain ⟨h1, h2, h3, h4⟩ := hs
    simp only [lt_no, cond_false, List.drop_length, List.foldl_nil, bindO_some']
    rw [i64_in (s.1 * 2147483648) (by omega), i64_in (s.1 * 2147483648 + s.2) (by omega)]
  · have hm := hx l[i] (List.getElem_mem hi)
    simp only [lt_yes hi, cond_true, getI_nat, List.getElem?_eq_getElem hi, bindO_some', absorb_eq (s := (s.1, s.2)) hs hm.1 hm.2, i64_succ (show i < 2 ^ 62 by omega)]
    rw [ih _ (absorb_ok _ _), List.drop_eq_getElem_cons hi, List.foldl_cons]

theorem bits_mask {x : Int} (h : 0 ≤ x) (h2 : x ≤ 9223372036854775807) : Vd.bits .and .i64 x 2147483647 = x % 2147483648 := by
  obtain ⟨n, rfl⟩ := Int.eq_ofNat_of_zero_le h
  have h1 : (BitVec.ofInt 64 ((n : Nat) : Int) &&& BitVec.ofInt 64 2147483647).toNat = n % 2147483648 := by
    rw [BitVec.toNat_and]
    have e1 : (BitVec.ofInt 64 ((n : Nat) : Int)).toNat = n % 2 ^ 64 := by simp
    have e2 : (BitVec.ofInt 64 2147483647).toNat = 2 ^ 31 - 1 := by decide
    rw [e1, e2, Nat.and_two_pow_sub_one_eq_mod]
    omega
  show IntKind.wrap .i64 (((BitVec.ofInt 64 ((n : Nat) : Int) &&& BitVec.ofInt 64 2147483647).toNat : Nat) : Int) = _
  rw [h1, i64_in _ (by omega)]
  omega

theorem shr_31 {x : Int} : Vd.shr .i64 x 31 = x / 2147483648 := by
  show x.fdiv (2 ^ (min (31 : Int).toNat 64)) = _
  rw [show ((2 : Int) ^ (min (31 : Int).toNat 64)) = 2147483648 by decide, fdiv_pos (by omega)]

theorem shl_31 {x : Int} : Vd.shl .i64 x 31 = IntKind.wrap .i64 (x * 2147483648) := by
  show IntKind.wrap .i64 (x * (2 ^ (min (31 : Int).toNat 64))) = _
  rw [show ((2 : Int) ^ (min (31 : Int).toNat 64)) = 2147483648 by decide]

theorem hash_eq {l : List Int} (hl : l.length < 2 ^ 30) (hx : ∀ x ∈ l, 0 ≤ x ∧ x ≤ 4611686018427387903) : M_I_hash l = some (digest l) := by
  unfold M_I_hash
  have hg31 : guardO (decide ((0 : Int) ≤ 31)) = some () := rfl
  have hg2 : guardO ((2147483647 : Int) != 0) = some () := rfl
  rw [guardO_of (lenOk_of (by simp; omega)), bindO_some', bindO_some']
  have hL : ∀ x ∈ ((l.length : Int) :: l), 0 ≤ x ∧ x ≤ 4611686018427387903 := fun x h => by
    rcases List.mem_cons.1 h with rfl | h
    · omega
    · exact hx x h
  have e : [((l.length : Nat) : Int)] ++ l = ((l.length : Int) :: l) := rfl
  rw [e]
  have hlen : ((l.length : Int) :: l).length = l.length + 1 := rfl
  generalize hLL : ((l.length : Int) :: l) = L at hL hlen
  refine (loopO_for (σ := Int × Int) (fun i s => (s.1, (s.2, (i : Int)))) L.length (fun i s => some (((L.drop i).foldl absorb s).1 * 2147483648 + ((L.drop i).foldl absorb s).2)) (fun _ s => HOk s) (fun again s hs => ?_) (fun again i s hi hs ih => ?_) (by omega) (i := 0) (s := (1, 2)) (Nat.zero_le _) ⟨by decide, by decide, by decide, by decide⟩).trans (by rw [← hLL]; rfl)
  · obtain ⟨h1, h2, h3, h4⟩ := hs
    simp only [lt_no, cond_false, List.drop_length, List.foldl_nil, bindO_some', hg31, shl_31]
    rw [i64_in (s.1 * 2147483648) (by omega), i64_in (s.1 * 2147483648 + s.2) (by omega)]
  · have hm := hL L[i] (List.getElem_mem hi)
    obtain ⟨h1, h2, h3, h4⟩ := hs
    have hb : 0 ≤ L[i] % 2147483648 ∧ L[i] % 2147483648 < 2147483648 := by omega
    have ha : 0 ≤ L[i] / 2147483648 ∧ L[i] / 2147483648 < 2147483648 := by omega
    have r1 := hstep_range 48271 s.1 (L[i] % 2147483648)
    have r2 := hstep_range 69621 s.2 (L[i] % 2147483648)
    simp only [lt_yes hi, cond_true, getI_nat, List.getElem?_eq_getElem hi, bindO_some', hg31, hg2, shr_31, bits_mask hm.1 (by omega), hstep_walk (.inl rfl) ⟨h1, h2⟩ hb, hstep_walk (.inr rfl) ⟨h3, h4⟩ hb,
      hstep_walk (.inl rfl) (⟨r1.1, by omega⟩ : 0 ≤ hstep 48271 s.1 (L[i] % 2147483648) ∧ _) ha, hstep_walk (.inr rfl) (⟨r2.1, by omega⟩ : 0 ≤ hstep 69621 s.2 (L[i] % 2147483648) ∧ _) ha, i64_succ (show i < 2 ^ 62 by omega)]
    rw [List.drop_eq_getElem_cons hi, List.foldl_cons, ← ih (absorb s L[i]) (absorb_ok _ _)]
    rfl

def lab (s : ByteArray) (l : List Int) : List Int := (s.size : Int) :: (ofStr s ++ l)

theorem ofStr_length (s : ByteArray) : (ofStr s).length = s.size := by
  unfold ofStr
  rw [List.length_map, Array.length_toList]
  rfl

theorem ofStr_get {s : ByteArray} {i : Nat} (h : i < s.size) : ∃ b : UInt8, s[i]? = some b ∧ (ofStr s)[i]? = some ((b.toNat : Nat) : Int) := by
  refine ⟨s[i], by simp [h], ?_⟩
  have h' : i < s.data.size := h
  simp only [ofStr, List.getElem?_map]
  rw [List.getElem?_eq_getElem (by simpa using h')]
  rfl

theorem ofStr_range {s : ByteArray} {x : Int} (h : x ∈ ofStr s) : 0 ≤ x ∧ x ≤ 255 := by
  simp only [ofStr, List.mem_map] at h
  obtain ⟨b, _, rfl⟩ := h
  have := b.toNat_lt
  omega

theorem label_loop {s : ByteArray} {l : List Int} (hs : s.size < 2 ^ 30) (hl : l.length < 2 ^ 30) : M_S_l3With (s, l) = some (lab s l) := by
  unfold M_S_l3With
  refine (loopO_for (σ := List Int) (fun i a => (a, (i : Int))) s.size (fun i a => some (lab s l)) (fun i a => a = (s.size : Int) :: (ofStr s).take i) (fun again a ha => ?_) (fun again i a hi ha ih => ?_) (by omega) (i := 0) (s := [(s.size : Int)]) (Nat.zero_le _) (by simp)).trans rfl
  · subst ha
    have ht : (ofStr s).take s.size = ofStr s := by rw [← ofStr_length, List.take_length]
    have hlen := ofStr_length s
    simp only [lt_no, cond_false, ht]
    rw [guardO_of (lenOk_of (by simp [hlen]; omega))]
    rfl
  · subst ha
    obtain ⟨b, h1, h2⟩ := ofStr_get hi
    have hb := b.toNat_lt
    have hlen := ofStr_length s
    simp only [lt_yes hi, cond_true, Int.toNat_natCast, h1]
    rw [if_pos (by omega)]
    simp only [bindO_some', i64_in ((b.toNat : Nat) : Int) (by omega), i64_succ (show i < 2 ^ 62 by omega)]
    rw [guardO_of (lenOk_of (by simp; omega)), bindO_some']
    refine ih _ ?_
    rw [List.take_add_one, h2]
    simp

theorem labelled_eq (x : ByteArray × List Int) : M_I_labelled x = M_S_l3With x := rfl

/-- What can be hashed. -/
def okD (l : List Int) : Bool := l.all fun n => decide (0 ≤ n ∧ n ≤ 4611686018427387903)

theorem okD_spec {l : List Int} (h : okD l = true) : ∀ x ∈ l, 0 ≤ x ∧ x ≤ 4611686018427387903 := fun x hx => by
  simpa using List.all_eq_true.1 h x hx

theorem lab_range {s : ByteArray} {l : List Int} (hs : s.size < 2 ^ 30) (h : okD l = true) : ∀ x ∈ lab s l, 0 ≤ x ∧ x ≤ 4611686018427387903 := fun x hx => by
  rcases List.mem_cons.1 hx with rfl | hx
  · omega
  · rcases List.mem_append.1 hx with hx | hx
    · have := ofStr_range hx
      omega
    · exact okD_spec h x hx

theorem lab_okD {s : ByteArray} {l : List Int} (hs : s.size < 2 ^ 30) : okD (lab s l) = okD l := by
  have h1 : ∀ x ∈ ofStr s, decide (0 ≤ x ∧ x ≤ 4611686018427387903) = true := fun x hx => by
    have := ofStr_range hx
    simp only [decide_eq_true_eq]
    omega
  unfold okD lab
  rw [List.all_cons, List.all_append, List.all_eq_true.2 h1]
  have : decide (0 ≤ ((s.size : Nat) : Int) ∧ ((s.size : Nat) : Int) ≤ 4611686018427387903) = true := by
    simp only [decide_eq_true_eq]
    omega
  rw [this]
  rfl

/-- What HashLabelled answers. -/
def hashL (s : ByteArray) (l : List Int) : Int × Bool := if s.size ≤ 40 ∧ okD l = true ∧ 1 + s.size + l.length ≤ 400 then (digest (lab s l), true) else (0, false)

theorem hLabelled_eq {s : ByteArray} {l : List Int} (hs : s.size < 2 ^ 30) (hl : l.length < 2 ^ 30) (h : okD l = true) : M_S_hLabelled (s, l) = some (digest (lab s l)) := by
  unfold M_S_hLabelled
  have hlen : (lab s l).length < 2 ^ 40 := by simp [lab, ofStr_length]; omega
  simp only [label_loop hs hl, bindO_some', hInts_eq hlen (lab_range hs h)]

theorem areDigests_eq {l : List Int} : M_I_areDigests l = some (decide (l.length ≤ 400) && okD l) := by
  unfold M_I_areDigests
  by_cases h : l.length ≤ 400
  · have e1 : decide (((l.length : Nat) : Int) ≤ 400) = true := by simp; omega
    rw [e1, cond_true, areAll_eq (p := fun n => decide (0 ≤ n ∧ n ≤ 4611686018427387903)) (by omega) fun a _ => by simp [M_I_isDigest, within_eq], bindO_some']
    simp [h, okD]
  · have e1 : decide (((l.length : Nat) : Int) ≤ 400) = false := by simp; omega
    simp [e1, h]

theorem I_HashInts_eq {l : List Int} : M_I_HashInts l = some (if l.length ≤ 400 ∧ okD l = true then (digest l, true) else (0, false)) := by
  unfold M_I_HashInts
  rw [areDigests_eq, bindO_some']
  by_cases h : l.length ≤ 400 ∧ okD l = true
  · rw [if_pos h, hash_eq (by omega) (okD_spec h.2)]
    simp [h.1, h.2]
  · rw [if_neg h]
    have : (decide (l.length ≤ 400) && okD l) = false := by
      rw [Bool.and_eq_false_iff, decide_eq_false_iff_not]
      by_cases h1 : l.length ≤ 400
      · right
        cases h2 : okD l
        · rfl
        · exact absurd ⟨h1, h2⟩ h
      · exact .inl h1
    rw [this]
    rfl

theorem I_HashLabelled_eq {s : ByteArray} {l : List Int} : M_I_HashLabelled (s, l) = some (hashL s l) := by
  unfold M_I_HashLabelled hashL
  by_cases h1 : s.size ≤ 40
  · by_cases h2 : l.length ≤ 400
    · have e1 : decide (((s.size : Nat) : Int) > 40) = false := by simp; omega
      have e2 : decide (((l.length : Nat) : Int) > 400) = false := by simp; omega
      simp only [e1, e2, cond_false]
      rw [labelled_eq, label_loop (by omega) (by omega), bindO_some', I_HashInts_eq, bindO_some', lab_okD (by omega)]
      have e3 : ((lab s l).length ≤ 400 ∧ okD l = true) ↔ (s.size ≤ 40 ∧ okD l = true ∧ 1 + s.size + l.length ≤ 400) := by
        simp only [lab, List.length_cons, List.length_append, ofStr_length]
        constructor
        · rintro ⟨a, b⟩; exact ⟨h1, b, by omega⟩
        · rintro ⟨a, b, c⟩; exact ⟨by omega, b⟩
      simp only [e3]
    · have e1 : decide (((s.size : Nat) : Int) > 40) = false := by simp; omega
      have e2 : decide (((l.length : Nat) : Int) > 400) = true := by simp; omega
      rw [if_neg (fun h => by omega)]
      simp only [e1, e2, cond_false, cond_true]
  · have e1 : decide (((s.size : Nat) : Int) > 40) = true := by simp; omega
    rw [if_neg (fun h => h1 h.1)]
    simp only [e1, cond_true]

theorem pow_range {p x : Int} {k : Nat} (hp : 1 ≤ p) : 0 ≤ x ^ k % p ∧ x ^ k % p < p :=
  ⟨Int.emod_nonneg _ (by omega), Int.emod_lt_of_pos _ (by omega)⟩

/-- a over b. -/
def over (p q a b : Int) : Int := prodM p 1 [a, b ^ (q - 1).toNat % p]

theorem mul2 {p q g a b : Int} (h : Gr p q g) (ha : 0 ≤ a ∧ a ≤ p) (hb : 0 ≤ b ∧ b ≤ p) : M_S_gMul ((p, q, g), [a, b]) = some (prodM p 1 [a, b]) := by
  have := h.p3; have := h.pm
  refine gMul_eq h (fun x hx => ?_) (by show (2 : Nat) < _; omega)
  simp only [List.mem_cons, List.not_mem_nil, or_false] at hx
  rcases hx with rfl | rfl <;> omega

theorem mul2' {p q g a b : Int} (h : Gr p q g) (ha : 0 ≤ a ∧ a ≤ p) (hb : 0 ≤ b ∧ b ≤ p) : M_I_Group_mul ((p, q, g), [a, b]) = some (prodM p 1 [a, b]) := by
  have := h.p3; have := h.pm
  refine Group_mul_eq h (fun x hx => ?_) (by show (2 : Nat) < _; omega)
  simp only [List.mem_cons, List.not_mem_nil, or_false] at hx
  rcases hx with rfl | rfl <;> omega

theorem toGroup_eq (x : Int × Int × Int) : M_L_toGroup x = some x := rfl

/-- A proposition as a Boolean. -/
noncomputable def pdec (p : Prop) : Bool := @decide p (Classical.propDecidable p)

theorem pdec_iff {p : Prop} : pdec p = true ↔ p := by simp [pdec]

theorem pdec_yes {p : Prop} (h : p) : pdec p = true := pdec_iff.2 h

theorem pdec_no {p : Prop} (h : ¬ p) : pdec p = false := by simp [pdec, h]

/-- A walk that checks: `G i` holds of the first i elements. -/
theorem loop_check {α β : Type} {body : (Int → Option β) → Int → Option β} (l : List α) (G : Nat → Prop) (yes no : Option β)
    (hstep : ∀ (again : Int → Option β) (i : Nat) a, l[i]? = some a → i < l.length → G i → (body again (i : Int) = again ((i + 1 : Nat) : Int) ∧ G (i + 1)) ∨ (body again (i : Int) = no ∧ ¬ G l.length))
    (hend : ∀ again : Int → Option β, body again (l.length : Int) = yes) (h0 : G 0) (hl : l.length < 2 ^ 64) : (G l.length → loopO body 0 = yes) ∧ (¬ G l.length → loopO body 0 = no) := by
  constructor
  · intro hG
    refine (loopO_for (σ := Unit) (fun i _ => (i : Int)) l.length (fun _ _ => yes) (fun i _ => G i) (fun again _ hg => hend again) (fun again i _ hi hg ih => ?_) hl (i := 0) (s := ()) (Nat.zero_le _) h0).trans rfl
    rcases hstep again i l[i] (List.getElem?_eq_getElem hi) hi hg with ⟨h1, h2⟩ | ⟨h1, h2⟩
    · rw [h1]
      exact ih () h2
    · exact absurd hG h2
  · intro hG
    refine (loopO_for (σ := Unit) (fun i _ => (i : Int)) l.length (fun _ _ => no) (fun i _ => G i) (fun again _ hg => absurd hg hG) (fun again i _ hi hg ih => ?_) hl (i := 0) (s := ()) (Nat.zero_le _) h0).trans rfl
    rcases hstep again i l[i] (List.getElem?_eq_getElem hi) hi hg with ⟨h1, h2⟩ | ⟨h1, h2⟩
    · rw [h1]
      exact ih () h2
    · exact h1

theorem check_dec {β : Type} {m : Option β} {G : Prop} {f : Bool → Option β} (h : (G → m = f true) ∧ (¬ G → m = f false)) : m = f (pdec G) := by
  by_cases hg : G
  · rw [h.1 hg, pdec_yes hg]
  · rw [h.2 hg, pdec_no hg]

theorem mem_take_succ {α : Type} {l : List α} {i : Nat} {a : α} (h : l[i]? = some a) : l.take (i + 1) = l.take i ++ [a] := by
  rw [List.take_add_one, h]
  rfl

theorem pairwise_snoc {α : Type} {R : α → α → Prop} {l : List α} {a : α} : (l ++ [a]).Pairwise R ↔ l.Pairwise R ∧ ∀ b ∈ l, R b a := by
  rw [List.pairwise_append]
  constructor
  · rintro ⟨h1, _, h2⟩
    exact ⟨h1, fun b hb => h2 b hb a (by simp)⟩
  · rintro ⟨h1, h2⟩
    exact ⟨h1, by simp, fun b hb c hc => by simp at hc; subst hc; exact h2 b hb⟩

noncomputable def nodupB (l : List Int) : Bool := pdec l.Nodup

theorem areDifferent_eq {l : List Int} (hl : l.length < 2 ^ 62) : M_I_areDifferent l = some (nodupB l) := by
  unfold M_I_areDifferent
  have h := loop_check (β := Bool) l (fun i => (l.take i).Nodup) (some true) (some false) (body := (fun (again0 : (Int → (Option Bool))) => (fun (s1 : Int) => (cond (decide (s1 < (((List.length l) : Nat) : Int))) (bindO (getI l s1) (fun (a2 : Int) => (bindO (sliceNH s1 (List.length l)) (fun (a3 : (Nat × Nat)) => (bindO (M_slices_Contains_sint_int ((List.drop a3.1 (List.take a3.2 l)), a2)) (fun (a4 : Bool) => (cond a4 (some false) (bindO (some (IntKind.wrap .i64 (s1 + (1 : Int)))) (fun (a5 : Int) => (again0 a5)))))))))) (some true)))))
    (fun again i a ha hi' hg => ?_) (fun again => ?_) (by simp) (by omega)
  · rw [List.take_length] at h
    exact check_dec (f := some) h
  · have hlen : (l.take i).length < 2 ^ 62 := by simp; omega
    simp only [lt_yes hi', cond_true, getI_nat, ha, bindO_some', sliceNH_nat (show i ≤ l.length by omega), List.drop_zero, contains_eq hlen, i64_succ (show i < 2 ^ 62 by omega), mem_take_succ ha, List.take_length]
    by_cases hm : a ∈ l.take i
    · right
      have : (l.take i).any (· == a) = true := by simpa using hm
      refine ⟨by rw [this]; rfl, fun hn => ?_⟩
      have h2 : (l.take (i + 1)).Nodup := hn.sublist (List.take_sublist _ _)
      rw [mem_take_succ ha] at h2
      have := (pairwise_snoc.1 h2).2 a hm
      exact this rfl
    · left
      have : (l.take i).any (· == a) = false := by
        cases hc : (l.take i).any (· == a)
        · rfl
        · exact absurd (by simpa using hc) hm
      refine ⟨by rw [this]; rfl, pairwise_snoc.2 ⟨hg, fun b hb hba => hm (by subst hba; exact hb)⟩⟩
  · simp

theorem has_contains {l : List Int} (hl : l.length < 2 ^ 62) (p : Nat × Nat) (a : Int) : M_S_l1Has (List.drop p.1 (List.take p.2 l), a) = M_slices_Contains_sint_int (List.drop p.1 (List.take p.2 l), a) := by
  have : (List.drop p.1 (List.take p.2 l)).length < 2 ^ 62 := by simp; omega
  rw [contains_eq this, has_eq this]

theorem vDifferent_eq {l : List Int} (hl : l.length < 2 ^ 62) : M_S_vDifferent l = some (nodupB l) := by
  rw [← areDifferent_eq hl]
  unfold M_S_vDifferent M_I_areDifferent
  simp only [has_contains hl]

/-- A list is put together, element by element. -/
theorem append_loop {α β : Type} (y : List α) (fin : List α → Option β) {body : (List α × Int → Option β) → List α × Int → Option β}
    (h : ∀ (again : List α × Int → Option β) (i : Nat) a (s : List α), y[i]? = some a → i < y.length → s.length = i → body again (s, (i : Int)) = again (s ++ [a], ((i + 1 : Nat) : Int)))
    (hend : ∀ (again : List α × Int → Option β) (s : List α), s.length = y.length → body again (s, (y.length : Int)) = fin s) (hl : y.length < 2 ^ 62) : loopO body ([], 0) = fin y := by
  refine (loopO_for (σ := List α) (fun i s => (s, (i : Int))) y.length (fun i s => fin y) (fun i s => s = y.take i) (fun again s hs => ?_) (fun again i s hi hs ih => ?_) (by omega) (i := 0) (s := []) (Nat.zero_le _) (by simp)).trans rfl
  · subst hs
    rw [List.take_length]
    exact hend again y rfl
  · subst hs
    have ha := List.getElem?_eq_getElem hi
    rw [h again i y[i] _ ha hi (by simp; omega)]
    refine ih _ ?_
    rw [List.take_add_one, ha]
    rfl

def pw (p q x e : Int) : Int := x ^ (e % q).toNat % p

theorem pw_range {p q x e : Int} (hp : 1 ≤ p) : 0 ≤ pw p q x e ∧ pw p q x e < p := pow_range hp

theorem gExp_pw {p q g x e : Int} (h : Gr p q g) (hx : 0 ≤ x) (hx2 : x ≤ p) : M_S_gExp ((p, q, g), x, e) = some (pw p q x e) := gExp_eq h hx hx2

theorem pow_pw {p q g x e : Int} (h : Gr p q g) (hx : 0 ≤ x) (hx2 : x ≤ p) : M_I_Group_pow ((p, q, g), x, e) = some (pw p q x e) := Group_pow_eq h hx hx2

theorem areExps_eq {p q g : Int} {l : List Int} (h : Gr p q g) (hl : l.length < 2 ^ 62) : M_I_Group_areExps ((p, q, g), l) = some (l.all fun e => decide (0 ≤ e ∧ e ≤ q - 1)) := by
  unfold M_I_Group_areExps
  dsimp only
  rw [areAll_eq (p := fun e => decide (0 ≤ e ∧ e ≤ q - 1)) hl fun a _ => by rw [isExp_eq h]; rfl]
  rfl

theorem isP_spec {n : Int} (h : isP n = true) : IsP n := by
  unfold isP at h
  exact @of_decide_eq_true _ (Classical.propDecidable _) h

/-- A prime does not divide a power of what is below it. -/
theorem pow_ne {p x : Int} (hp : IsP p) (h0 : 1 ≤ x) (h1 : x < p) (k : Nat) : x ^ k % p ≠ 0 := by
  obtain ⟨h2, hd⟩ := hp
  obtain ⟨P, rfl⟩ := Int.eq_ofNat_of_zero_le (show 0 ≤ p by omega)
  obtain ⟨X, rfl⟩ := Int.eq_ofNat_of_zero_le (show 0 ≤ x by omega)
  have hc : Nat.Coprime P X := by
    have g1 := Nat.gcd_dvd_left P X
    have g2 := Nat.gcd_dvd_right P X
    have g3 : P.gcd X ≤ X := Nat.le_of_dvd (by omega) g2
    have g4 : 0 < P.gcd X := Nat.gcd_pos_of_pos_left _ (by omega)
    by_cases hg : P.gcd X = 1
    · exact hg
    · exfalso
      obtain ⟨c, hc⟩ := g1
      generalize hG : P.gcd X = d at *
      have hc2 : 2 ≤ c := by
        rcases Nat.lt_or_ge c 2 with h | h
        · have : c = 0 ∨ c = 1 := by omega
          rcases this with rfl | rfl
          · rw [Nat.mul_zero] at hc; omega
          · rw [Nat.mul_one] at hc; omega
        · exact h
      rcases Nat.le_total d c with h | h
      · refine hd (d : Int) (by omega) ?_ ?_
        · have := Nat.mul_le_mul_left d h
          exact_mod_cast (by omega : d * d ≤ P)
        · exact_mod_cast (by rw [hc]; exact Nat.mul_mod_right d c : P % d = 0)
      · refine hd (c : Int) (by omega) ?_ ?_
        · have := Nat.mul_le_mul_right c h
          exact_mod_cast (by omega : c * c ≤ P)
        · exact_mod_cast (by rw [hc]; exact Nat.mul_mod_left d c : P % c = 0)
  intro he
  have he' : X ^ k % P = 0 := by exact_mod_cast he
  have := Nat.Coprime.eq_one_of_dvd (Nat.Coprime.pow_right k hc) (Nat.dvd_of_mod_eq_zero he')
  omega

def derX (p q g : Int) (s : ByteArray) (k c : Int) : Int := (1 + digest (lab s [p, q, g, k, c]) % (p - 1)) ^ ((p - 1) / q).toNat % p

def derL (p q g : Int) (s : ByteArray) (k : Int) : List Int := (List.range 1000).map fun c : Nat => derX p q g s k (c : Int)

def derv (p q g : Int) (s : ByteArray) (k : Int) : Option Int := (derL p q g s k).find? (· != 1)

theorem derL_len (p q g : Int) (s : ByteArray) (k : Int) : (derL p q g s k).length = 1000 := by simp [derL]

theorem derL_get {p q g : Int} {s : ByteArray} {k a : Int} {i : Nat} (h : (derL p q g s k)[i]? = some a) : a = derX p q g s k (i : Int) ∧ i < 1000 := by
  simp only [derL, List.getElem?_map, Option.map_eq_some_iff] at h
  obtain ⟨c, h1, h2⟩ := h
  have := (List.getElem?_eq_some_iff.1 h1)
  obtain ⟨h3, h4⟩ := this
  simp only [List.getElem_range] at h4
  simp only [List.length_range] at h3
  subst h4
  exact ⟨h2.symm, h3⟩

theorem walk_first {α : Type} (f : Int → Option α) (fin : Option α) : ∀ (l : List Int) (i : Nat), walk (fun _ a k => bif a != 1 then f a else k) fin i l = match l.find? (· != 1) with | some a => f a | none => fin
  | [], _ => rfl
  | a :: l, i => by
    rw [walk, List.find?_cons]
    cases a != 1
    · exact walk_first f fin l (i + 1)
    · rfl

theorem der_step {p q g : Int} (h : Gr p q g) (d : Int) (hd : 0 ≤ d) :
    (p - 1 ≠ 0) ∧ IntKind.wrap .i64 (p - 1) = p - 1 ∧ d.tmod (p - 1) = d % (p - 1) ∧ 0 ≤ d % (p - 1) ∧ d % (p - 1) ≤ p - 2 ∧ (p - 1).tdiv q = (p - 1) / q ∧ 0 ≤ (p - 1) / q ∧ (p - 1) / q ≤ p - 1 := by
  have := h.p3; have := h.pm; have := h.q2
  have e1 := Int.emod_nonneg d (show p - 1 ≠ 0 by omega)
  have e2 := Int.emod_lt_of_pos d (show 0 < p - 1 by omega)
  exact ⟨by omega, i64_in _ (by omega), tmod_nn hd, e1, by omega, tdiv_nn (by omega), Int.ediv_nonneg (by omega) (by omega), Int.ediv_le_self _ (by omega)⟩

theorem okD5 {p q g k c : Int} (h : Gr p q g) (hk : 0 ≤ k ∧ k ≤ 4611686018427387903) (hc : 0 ≤ c ∧ c ≤ 1000) : okD [p, q, g, k, c] = true := by
  have := h.p3; have := h.pm; have := h.q2; have := h.qp; have := h.g2; have := h.gp
  simp [okD]
  omega

theorem hDerived_eq {p q g : Int} {s : ByteArray} {k : Int} (h : Gr p q g) (hs : s.size ≤ 40) (hk : 0 ≤ k ∧ k ≤ 4611686018427387903) : M_S_hDerived ((p, q, g), s, k) = some ((derv p q g s k).getD 0) := by
  unfold M_S_hDerived
  dsimp only
  have h3 := h.p3; have hpm := h.pm; have hq2 := h.q2
  have hl := derL_len p q g s k
  refine (loop_walk (derL p q g s k) (fun _ a k => bif a != 1 then some a else k) (some 0) (fun again i a ha hi => ?_) (fun again => ?_) (by omega)).trans ?_
  · obtain ⟨rfl, hi2⟩ := derL_get ha
    have hr := digest_range (lab s [p, q, g, k, (i : Int)])
    obtain ⟨d1, d2, d3, d4, d5, d6, d7, d8⟩ := der_step h _ hr.1
    have e0 : decide ((i : Int) < 1000) = true := by simp; omega
    have hL := hLabelled_eq (s := s) (l := [p, q, g, k, (i : Int)]) (by omega) (by show (5 : Nat) < _; omega) (okD5 h hk (by omega))
    have hg1 : guardO (p - 1 != 0) = some () := guardO_of (by simp; omega)
    have hg2 : guardO (q != 0) = some () := guardO_of (by simp; omega)
    have hP := nPower_eq (a := 1 + digest (lab s [p, q, g, k, (i : Int)]) % (p - 1)) (e := (p - 1) / q) (m := p) (by omega) (by omega) (by omega) (by omega) (by omega) (by omega)
    simp only [e0, cond_true, hL, bindO_some', d2, hg1, d3, i64_in (1 + digest (lab s [p, q, g, k, (i : Int)]) % (p - 1)) (by omega), hg2, d6, i64_in ((p - 1) / q) (by omega), hP, i64_succ (show i < 2 ^ 62 by omega)]
    rfl
  · rw [hl]
    rfl
  · rw [walk_first]
    unfold derv
    cases (derL p q g s k).find? (· != 1) <;> rfl

theorem derive_eq {p q g : Int} {s : ByteArray} {k : Int} (h : Gr p q g) (hs : s.size ≤ 40) (hk : 0 ≤ k ∧ k ≤ 4611686018427387903) : M_I_Group_derive ((p, q, g), s, k) = some ((derv p q g s k).getD 0, (derv p q g s k).isSome) := by
  unfold M_I_Group_derive
  dsimp only
  have h3 := h.p3; have hpm := h.pm; have hq2 := h.q2
  have hl := derL_len p q g s k
  refine (loop_walk (derL p q g s k) (fun _ a k => bif a != 1 then some (a, true) else k) (some (0, false)) (fun again i a ha hi => ?_) (fun again => ?_) (by omega)).trans ?_
  · obtain ⟨rfl, hi2⟩ := derL_get ha
    have hr := digest_range (lab s [p, q, g, k, (i : Int)])
    obtain ⟨d1, d2, d3, d4, d5, d6, d7, d8⟩ := der_step h _ hr.1
    have e0 : decide ((i : Int) < 1000) = true := by simp; omega
    have hL : M_I_HashLabelled (s, [p, q, g, k, (i : Int)]) = some (digest (lab s [p, q, g, k, (i : Int)]), true) := by
      rw [I_HashLabelled_eq, hashL, if_pos ⟨hs, okD5 h hk (by omega), by show 1 + s.size + 5 ≤ _; omega⟩]
    have hg1 : guardO (p - 1 != 0) = some () := guardO_of (by simp; omega)
    have hg2 : guardO (q != 0) = some () := guardO_of (by simp; omega)
    have hP := nPower_eq (a := 1 + digest (lab s [p, q, g, k, (i : Int)]) % (p - 1)) (e := (p - 1) / q) (m := p) (by omega) (by omega) (by omega) (by omega) (by omega) (by omega)
    simp only [e0, cond_true, hL, bindO_some', Bool.not_true, cond_false, d2, hg1, d3, i64_in (1 + digest (lab s [p, q, g, k, (i : Int)]) % (p - 1)) (by omega), hg2, d6, i64_in ((p - 1) / q) (by omega), power_eq (show (p - 1) / q ≤ 9223372036854775807 by omega), hP, i64_succ (show i < 2 ^ 62 by omega)]
    rfl
  · rw [hl]
    rfl
  · rw [walk_first (fun a => some (a, true))]
    unfold derv
    cases (derL p q g s k).find? (· != 1) <;> rfl

theorem derv_range {p q g : Int} {s : ByteArray} {k a : Int} (h : Gr p q g) (hd : derv p q g s k = some a) : 1 ≤ a ∧ a < p := by
  have h3 := h.p3
  have hm := List.mem_of_find?_eq_some hd
  obtain ⟨i, hi⟩ := List.mem_iff_getElem?.1 hm
  obtain ⟨rfl, _⟩ := derL_get hi
  have hr := digest_range (lab s [p, q, g, k, (i : Int)])
  obtain ⟨d1, d2, d3, d4, d5, d6, d7, d8⟩ := der_step h _ hr.1
  unfold derX
  have e1 := Int.emod_nonneg ((1 + digest (lab s [p, q, g, k, (i : Int)]) % (p - 1)) ^ ((p - 1) / q).toNat) (show p ≠ 0 by omega)
  have e2 := Int.emod_lt_of_pos ((1 + digest (lab s [p, q, g, k, (i : Int)]) % (p - 1)) ^ ((p - 1) / q).toNat) (show 0 < p by omega)
  have e3 := pow_ne (isP_spec h.pp) (show 1 ≤ 1 + digest (lab s [p, q, g, k, (i : Int)]) % (p - 1) by omega) (by omega) ((p - 1) / q).toNat
  omega

def sH : ByteArray := bytesOf [104]

theorem vBase_eq {p q g : Int} (h : Gr p q g) (hok : okG p q g = true) : M_S_vBase (p, q, g) = some ((derv p q g sH 0).getD 0, (derv p q g sH 0).isSome) := by
  unfold M_S_vBase M_S_BasesOf M_S_DeriveElement M_S_DeriveElements M_S_l3Digest
  dsimp only
  rw [l2Good_eq, hok]
  have hd := hDerived_eq (s := bytesOf [104]) (k := 0) h (by show (1 : Nat) ≤ _; omega) (by omega)
  have hz1 : decide (((bytesOf [104]).size : Int) > 40) = false := rfl
  have hz2 : decide (((bytesOf [104, 115]).size : Int) > 40) = false := rfl
  have hL : ∀ body : (List Int × Int → Option (List Int × Bool)) → List Int × Int → Option (List Int × Bool), (∀ again, body again ([], 0) = some ([], true)) → loopO body ([], 0) = some ([], true) := fun body hb => append_loop (y := ([] : List Int)) (fun t => some (t, true)) (fun again i a s ha => by simp at ha) (fun again s hs => by
    have : s = [] := List.length_eq_zero_iff.1 hs
    subst this
    exact hb again) (by show (0 : Nat) < _; omega)
  simp only [bindO_some', Bool.not_true, cond_false, in_eq, hz1, hz2, hd]
  rw [hL _ fun again => rfl]
  have t1 : decide ((0 : Int) ≤ 0 ∧ (0 : Int) ≤ 24) = true := rfl
  have t2 : decide ((0 : Int) ≤ 0 ∧ (0 : Int) ≤ 4611686018427387903) = true := rfl
  have t3 : decide ((0 : Int) ≤ 0 ∧ (0 : Int) ≤ 100) = true := rfl
  simp only [t1, t2, t3, bindO_some', Bool.not_true, cond_false]
  show _ = some ((derv p q g (bytesOf [104]) 0).getD 0, (derv p q g (bytesOf [104]) 0).isSome)
  cases hd : derv p q g (bytesOf [104]) 0 with
  | none => rfl
  | some a =>
    have ha := derv_range h hd
    have : decide (a > 0) = true := by simp; omega
    simp only [Option.getD_some, this]
    rfl

theorem basesOf0_eq {p q g : Int} (h : Gr p q g) : M_I_Group_basesOf ((p, q, g), 0) = some (((derv p q g sH 0).getD 0, []), (derv p q g sH 0).isSome) := by
  unfold M_I_Group_basesOf
  dsimp only
  have hd := derive_eq (s := bytesOf [104]) (k := 0) h (by show (1 : Nat) ≤ _; omega) (by omega)
  rw [hd, bindO_some', loopO_eq]
  show iter _ (18446744073709551615 + 1) _ = _
  rw [iter]
  show _ = some (((derv p q g (bytesOf [104]) 0).getD 0, []), (derv p q g (bytesOf [104]) 0).isSome)
  cases derv p q g (bytesOf [104]) 0 <;> rfl

theorem yPoints_eq {l : List Int} (hl : l.length < 2 ^ 62) : M_S_yPoints l = some (nodupB l) := vDifferent_eq hl

def cm (p q g b m r : Int) : Int := prodM p 1 [pw p q g m, pw p q b r]

theorem vC_eq {p q g b m r : Int} (h : Gr p q g) (hb : 0 ≤ b ∧ b ≤ p) : M_S_vC ((p, q, g), b, m, r) = some (cm p q g b m r) := by
  unfold M_S_vC cm
  have := h.p3; have := h.g2; have := h.gp
  have r1 := pw_range (q := q) (x := g) (e := m) (show 1 ≤ p by omega)
  have r2 := pw_range (q := q) (x := b) (e := r) (show 1 ≤ p by omega)
  simp only [gExp_pw h (show 0 ≤ g by omega) (show g ≤ p by omega), gExp_pw h hb.1 hb.2, bindO_some', mul2 h (show 0 ≤ pw p q g m ∧ pw p q g m ≤ p by omega) (show 0 ≤ pw p q b r ∧ pw p q b r ≤ p by omega)]

theorem commit_eq {p q g b m r : Int} {hs : List Int} (h : Gr p q g) (hb : 0 ≤ b ∧ b ≤ p) : M_I_Group_commit ((p, q, g), (b, hs), m, r) = some (cm p q g b m r) := by
  unfold M_I_Group_commit cm
  have := h.p3; have := h.g2; have := h.gp
  have r1 := pw_range (q := q) (x := g) (e := m) (show 1 ≤ p by omega)
  have r2 := pw_range (q := q) (x := b) (e := r) (show 1 ≤ p by omega)
  simp only [pow_pw h (show 0 ≤ g by omega) (show g ≤ p by omega), pow_pw h hb.1 hb.2, bindO_some', mul2' h (show 0 ≤ pw p q g m ∧ pw p q g m ≤ p by omega) (show 0 ≤ pw p q b r ∧ pw p q b r ≤ p by omega)]

theorem mPerm_eq {pm : List Int} (hp : pm.length < 2 ^ 62) : M_S_mPerm (pm, ((pm.length : Nat) : Int)) = some ((pm.all fun n => decide (0 ≤ n ∧ n ≤ (pm.length : Int) - 1)) && nodupB pm) := by
  have e1 : (((pm.length : Nat) : Int) == ((pm.length : Nat) : Int)) = true := by simp
  unfold M_S_mPerm
  dsimp only
  rw [e1, cond_true, i64_in _ (by omega), bindO_some', l1All_eq hp, bindO_some', yPoints_eq hp]
  cases (pm.all fun n => decide (0 ≤ n ∧ n ≤ (pm.length : Int) - 1)) <;> rfl

theorem isPermN_eq {pm : List Int} (hp : pm.length ≤ 24) : M_I_IsPermutation pm = some ((pm.all fun n => decide (0 ≤ n ∧ n ≤ (pm.length : Int) - 1)) && nodupB pm) := by
  unfold M_I_IsPermutation
  have e2 : decide (((pm.length : Nat) : Int) ≤ 24) = true := by simp; omega
  rw [e2, cond_true, areAll_eq (p := fun n => decide (0 ≤ n ∧ n ≤ (pm.length : Int) - 1)) (by omega) fun a _ => ?_, bindO_some', areDifferent_eq (by omega)]
  · cases (pm.all fun n => decide (0 ≤ n ∧ n ≤ (pm.length : Int) - 1)) <;> rfl
  · unfold M_I_IsPermutation_1
    dsimp only
    rw [i64_in _ (by omega), bindO_some', within_eq]
    rfl

def places (p q g b : Int) (pm rs : List Int) : List Int := (pm.zip rs).map fun c => cm p q g b (c.1 + 1) c.2

theorem places_len {p q g b : Int} {pm rs : List Int} (hlen : rs.length = pm.length) : (places p q g b pm rs).length = pm.length := by simp [places, hlen]

theorem places_get {p q g b : Int} {pm rs : List Int} (hpa : ∀ c ∈ pm, 0 ≤ c ∧ c ≤ (pm.length : Int)) {i : Nat} {a : Int} (ha : (places p q g b pm rs)[i]? = some a) : ∃ c e, pm[i]? = some c ∧ rs[i]? = some e ∧ (0 ≤ c ∧ c ≤ (pm.length : Int)) ∧ a = cm p q g b (c + 1) e := by
  simp only [places, List.getElem?_map, Option.map_eq_some_iff] at ha
  obtain ⟨⟨c, e⟩, h1, h2⟩ := ha
  rw [List.getElem?_zip_eq_some] at h1
  exact ⟨c, e, h1.1, h1.2, hpa c (List.mem_of_getElem? h1.1), h2.symm⟩

theorem vPlaces_eq {p q g b : Int} {pm rs : List Int} (h : Gr p q g) (hb : 0 ≤ b ∧ b ≤ p) (hn : pm.length ≤ 24) (hlen : rs.length = pm.length) (hpa : ∀ c ∈ pm, 0 ≤ c ∧ c ≤ (pm.length : Int)) : M_S_vPlaces ((p, q, g), b, pm, rs) = some (places p q g b pm rs) := by
  unfold M_S_vPlaces
  dsimp only
  have hzl := places_len (p := p) (q := q) (g := g) (b := b) hlen
  rw [← hzl]
  refine append_loop (places p q g b pm rs) (fun t => some t) (fun again i a t ha hi ht => ?_) (fun again t ht => ?_) (by omega)
  case refine_2 => simp only [lt_no, cond_false]
  obtain ⟨c, e, h1, h2, h3, rfl⟩ := places_get hpa ha
  simp only [lt_yes hi, cond_true, getI_nat, h1, h2, bindO_some', i64_in (c + 1) (by omega), vC_eq h hb]
  rw [hzl] at hi
  rw [guardO_of (lenOk_of (by simp; omega)), bindO_some', i64_succ (by omega)]

theorem placeCommits_eq {p q g b : Int} {pm rs : List Int} (h : Gr p q g) (hb : 0 ≤ b ∧ b ≤ p) (hn : pm.length ≤ 24) (hlen : rs.length = pm.length) (hpa : ∀ c ∈ pm, 0 ≤ c ∧ c ≤ (pm.length : Int)) : M_I_Group_placeCommits ((p, q, g), (b, []), pm, rs) = some (places p q g b pm rs) := by
  unfold M_I_Group_placeCommits
  dsimp only
  have hzl := places_len (p := p) (q := q) (g := g) (b := b) hlen
  rw [← hzl]
  refine append_loop (places p q g b pm rs) (fun t => some t) (fun again i a t ha hi ht => ?_) (fun again t ht => ?_) (by omega)
  case refine_2 => simp only [lt_no, cond_false]
  obtain ⟨c, e, h1, h2, h3, rfl⟩ := places_get hpa ha
  simp only [lt_yes hi, cond_true, getI_nat, h1, h2, bindO_some', i64_in (c + 1) (by omega), commit_eq h hb]
  rw [hzl] at hi
  rw [guardO_of (lenOk_of (by simp; omega)), bindO_some', i64_succ (by omega)]

theorem PlaceCommits_eq (p q g : Int) (pm rs : List Int) (hp : pm.length < 2 ^ 62) (hr : rs.length < 2 ^ 62) : ∃ r b, M_S_PlaceCommits ((p, q, g), pm, rs) = some (r, b) ∧ M_I_PlaceCommits ((p, q, g), pm, rs) = some (r, b) ∧ r.length ≤ 24 := by
  unfold M_S_PlaceCommits M_I_PlaceCommits
  dsimp only
  rw [IsValidGroup_eq, bindO_some']
  cases hok : okG p q g with
  | false =>
    refine ⟨[], false, ?_, rfl, by simp⟩
    have : M_S_vBase (p, q, g) = some (0, false) := by
      unfold M_S_vBase M_S_BasesOf
      dsimp only
      rw [l2Good_eq, hok]
      rfl
    rw [this]
    rfl
  | true =>
    have h := okG_spec hok
    rw [vBase_eq h hok, basesOf0_eq h, bindO_some', bindO_some', in_eq, within_eq, bindO_some', bindO_some']
    have hdr : ∀ b, derv p q g sH 0 = some b → 0 ≤ b ∧ b ≤ p := fun b hd => by
      have := derv_range h hd
      omega
    generalize derv p q g sH 0 = D at hdr ⊢
    cases hn : decide (1 ≤ ((pm.length : Nat) : Int) ∧ ((pm.length : Nat) : Int) ≤ 12) with
    | false => cases D <;> exact ⟨[], false, rfl, rfl, by simp⟩
    | true =>
      rw [decide_eq_true_eq] at hn
      have e1 : (((pm.length : Nat) : Int) == ((pm.length : Nat) : Int)) = true := by simp
      unfold M_I_Group_isMixing
      dsimp only
      rw [mPerm_eq hp, isPermN_eq (by omega), e1, gExps_eq h hr, areExps_eq h hr, bindO_some', bindO_some', bindO_some', bindO_some']
      cases hall : ((pm.all fun n => decide (0 ≤ n ∧ n ≤ (pm.length : Int) - 1)) && nodupB pm) with
      | false => cases D <;> exact ⟨[], false, rfl, rfl, by simp⟩
      | true =>
        by_cases hlen : rs.length = pm.length
        · have e3 : (((rs.length : Nat) : Int) != ((pm.length : Nat) : Int)) = false := by simp [hlen]
          have e4 : (((rs.length : Nat) : Int) == ((pm.length : Nat) : Int)) = true := by simp [hlen]
          rw [e3, e4]
          cases he : (rs.all fun e => decide (0 ≤ e ∧ e ≤ q - 1)) with
          | false => cases D <;> exact ⟨[], false, rfl, rfl, by simp⟩
          | true =>
            cases D with
            | none => exact ⟨[], false, rfl, rfl, by simp⟩
            | some b =>
              have hb := hdr b rfl
              rw [Bool.and_eq_true] at hall
              have hpa : ∀ c ∈ pm, 0 ≤ c ∧ c ≤ (pm.length : Int) := fun c hc => by
                have := List.all_eq_true.1 hall.1 c hc
                rw [decide_eq_true_eq] at this
                omega
              refine ⟨places p q g b pm rs, true, ?_, ?_, by rw [places_len hlen]; omega⟩
              · simp only [Option.getD_some, Option.isSome_some, Bool.not_true, cond_false]
                rw [vPlaces_eq h hb (by omega) hlen hpa]
                rfl
              · simp only [Option.getD_some, Option.isSome_some, Bool.not_true, cond_false, cond_true, bindO_some']
                rw [placeCommits_eq h hb (by omega) hlen hpa]
                rfl
        · have e3 : (((rs.length : Nat) : Int) != ((pm.length : Nat) : Int)) = true := by rw [bne_dec, decide_eq_true_eq]; omega
          have e4 : (((rs.length : Nat) : Int) == ((pm.length : Nat) : Int)) = false := by rw [beq_eq_false_iff_ne]; omega
          rw [e3, e4]
          cases D <;> exact ⟨[], false, rfl, rfl, by simp⟩

theorem law_FnExactPlaceCommits (x : (Int × Int × Int) × List Int × List Int) : M_L_FnExactPlaceCommits x = some true := by
  obtain ⟨⟨p, q, g⟩, cs, rs⟩ := x
  unfold M_L_FnExactPlaceCommits
  dsimp only
  by_cases h0 : cs.length ≤ 1048576
  · have e0 : decide (((cs.length : Nat) : Int) > 1048576) = false := by simp; omega
    by_cases h1 : rs.length ≤ 1048576
    · have e1 : decide (((rs.length : Nat) : Int) > 1048576) = false := by simp; omega
      obtain ⟨r, b, hs, hi, hr⟩ := PlaceCommits_eq p q g cs rs (by omega) (by omega)
      have hr2 : r.length < 2 ^ 40 := by omega
      have hm1 : M_L_markIntS (rs, 1 + (cs.length : Int)) = some (1 + (cs.length : Int) + rs.length, marks rs.length (1 + (cs.length : Int))) := markIntS_eq (by omega) (by omega) (by omega)
      have hn : (1 + (cs.length : Int) + rs.length < 0) = False := by simp only [eq_iff_iff, iff_false]; omega
      rw [e0, e1]
      simp [toGroup_eq, toIntS_eq h0, toIntS_eq h1, hs, hi, eqIntS_eq (show r.length < 2 ^ 62 by omega), eqIntS_eq (show cs.length < 2 ^ 62 by omega), eqIntS_eq (show rs.length < 2 ^ 62 by omega), markIntS_eq (show cs.length < 2 ^ 40 by omega), hm1, hn, markIntS_eq hr2, heldIntS_eq hr2, one_nn]
    · have e1 : decide (((rs.length : Nat) : Int) > 1048576) = true := by simp; omega
      rw [e0, e1]
      rfl
  · have e0 : decide (((cs.length : Nat) : Int) > 1048576) = true := by simp; omega
    rw [e0, cond_true]

end Go.Proofs.Ytikmcaegilhfeaa.Vd
