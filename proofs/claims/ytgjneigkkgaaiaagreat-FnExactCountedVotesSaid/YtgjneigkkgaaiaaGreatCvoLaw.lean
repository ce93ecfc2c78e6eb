/- The law FnExactCountedVotes as plain functions on data returns true for all arguments. No conditions. -/
import Derived.Test.YtgjneigkkgaaiaaGreatCvoMod
set_option linter.unusedVariables false
set_option linter.unusedSimpArgs false
set_option linter.unusedSectionVars false
set_option linter.unnecessarySimpa false
namespace Go.Proofs.YtgjneigkkgaaiaaGreat.Vd
open Go.IntWalk

theorem i64_succ {i : Nat} (h : i < 2 ^ 62) : IntKind.wrap .i64 ((i : Int) + 1) = ((i + 1 : Nat) : Int) := by
  rw [i64_in _ (by omega)]
  rfl

theorem lt_yes {i n : Nat} (h : i < n) : decide ((i : Int) < (n : Int)) = true := by simp [h]

theorem lt_no (n : Nat) : decide ((n : Int) < (n : Int)) = false := by simp

/-- A walk over a list by its numbers, with no other state. -/
def walk {α β : Type} (step : Nat → α → Option β → Option β) (fin : Option β) : Nat → List α → Option β
  | _, [] => fin
  | i, a :: r => step i a (walk step fin (i + 1) r)

theorem loop_walk {α β : Type} {body : (Int → Option β) → Int → Option β} (l : List α) (step : Nat → α → Option β → Option β) (fin : Option β)
    (h : ∀ (again : Int → Option β) (i : Nat) a, l[i]? = some a → i < l.length → body again (i : Int) = step i a (again ((i + 1 : Nat) : Int)))
    (hend : ∀ again : Int → Option β, body again (l.length : Int) = fin) (hl : l.length < 2 ^ 64) : loopO body 0 = walk step fin 0 l := by
  refine (loopO_for (σ := Unit) (fun i _ => (i : Int)) l.length (fun i _ => walk step fin i (l.drop i)) (fun _ _ => True) (fun again _ _ => ?_) (fun again i _ hi _ ih => ?_) hl (i := 0) (s := ()) (Nat.zero_le _) trivial).trans rfl
  · simp [hend, walk]
  · rw [h again i l[i] (List.getElem?_eq_getElem hi) hi, ih () trivial, List.drop_eq_getElem_cons hi, walk]

/-- A walk over a list by its numbers, with a state (before the number). -/
def walkS {α β σ : Type} (step : Nat → α → σ → (σ → Option β) → Option β) (fin : σ → Option β) : Nat → List α → σ → Option β
  | _, [], s => fin s
  | i, a :: r, s => step i a s (walkS step fin (i + 1) r)

/-- The same, where the states keep something. -/
theorem loop_walkI {α β σ τ : Type} {body : (τ → Option β) → τ → Option β} (enc : Int → σ → τ) (l : List α) (step : Nat → α → σ → (σ → Option β) → Option β) (fin : σ → Option β) (Inv : Nat → σ → Prop)
    (hc : ∀ (i : Nat) a s (k k' : σ → Option β), l[i]? = some a → Inv i s → (∀ s', Inv (i + 1) s' → k s' = k' s') → step i a s k = step i a s k')
    (h : ∀ (again : τ → Option β) (i : Nat) a s, l[i]? = some a → i < l.length → Inv i s → body again (enc i s) = step i a s fun s' => again (enc ((i + 1 : Nat) : Int) s'))
    (hend : ∀ (again : τ → Option β) s, Inv l.length s → body again (enc l.length s) = fin s) (hl : l.length < 2 ^ 64) (s : σ) (h0 : Inv 0 s) : loopO body (enc 0 s) = walkS step fin 0 l s := by
  refine (loopO_for (σ := σ) (fun i s => enc (i : Int) s) l.length (fun i s => walkS step fin i (l.drop i) s) Inv (fun again s hs => ?_) (fun again i s hi hs ih => ?_) hl (i := 0) (s := s) (Nat.zero_le _) h0).trans rfl
  · simp [hend _ _ hs, walkS]
  · rw [h again i l[i] s (List.getElem?_eq_getElem hi) hi hs, List.drop_eq_getElem_cons hi, walkS]
    exact hc i l[i] s _ _ (List.getElem?_eq_getElem hi) hs fun s' hs' => ih s' hs'

theorem walk_any {α : Type} (p : α → Bool) : ∀ (l : List α) (i : Nat), walk (fun _ a k => if p a = true then some true else k) (some false) i l = some (l.any p)
  | [], _ => rfl
  | a :: l, i => by
    rw [walk, walk_any p l]
    cases h : p a <;> simp [h]

theorem walk_all {α : Type} (p : α → Bool) : ∀ (l : List α) (i : Nat), walk (fun _ a k => if p a = true then k else some false) (some true) i l = some (l.all p)
  | [], _ => rfl
  | a :: l, i => by
    rw [walk, walk_all p l]
    cases h : p a <;> simp [h]

theorem walk_index {α : Type} (p : α → Bool) : ∀ (l : List α) (i : Nat), ∃ j : Int, walk (fun i a k => if p a = true then some (i : Int) else k) (some (-1)) i l = some j ∧ decide (j ≥ 0) = l.any p
  | [], _ => ⟨-1, rfl, rfl⟩
  | a :: l, i => by
    obtain ⟨j, h1, h2⟩ := walk_index p l (i + 1)
    cases h : p a
    · exact ⟨j, by simp [walk, h, h1], by simp [h, h2]⟩
    · exact ⟨i, by simp [walk, h], by simp [h]⟩

theorem toIntS_eq {x : List Int} (h : x.length ≤ 1048576) : M_L_toIntS x = some x := by
  unfold M_L_toIntS
  have hx : (x.length : Int) ≤ ((lim : Nat) : Int) := by rw [lim_eq]; omega
  rw [guardO_of (by simpa using hx), bindO_some']
  refine (loopO_for (σ := List Int) (fun i s => ((i : Int), s)) x.length (fun i s => some (x.take i ++ x.drop i)) (fun i s => s = x.take i ++ List.replicate (x.length - i) 0) (fun again s hs => ?_) (fun again i s hi hs ih => ?_) (by omega) (i := 0) (s := List.replicate x.length 0) (Nat.zero_le _) (by simp)).trans (by simp)
  · subst hs; simp
  · subst hs
    have h1 : (x.take i ++ List.replicate (x.length - i) (0 : Int))[i]? = some 0 := by
      rw [List.getElem?_append_right (by simp; omega)]
      simp [List.getElem?_replicate]
      omega
    have h2 : (x.take i ++ List.replicate (x.length - i) (0 : Int)).set i x[i] = x.take (i + 1) ++ List.replicate (x.length - (i + 1)) 0 := by
      refine List.ext_getElem? fun j => ?_
      rw [List.getElem?_set]
      by_cases hij : i = j
      · subst hij
        rw [if_pos rfl, if_pos (by simp; omega), List.getElem?_append_left (by simp; omega), List.getElem?_take, if_pos (by omega), List.getElem?_eq_getElem hi]
      · rw [if_neg hij]
        by_cases hj : j < i
        · rw [List.getElem?_append_left (by simp; omega), List.getElem?_append_left (by simp; omega), List.getElem?_take, List.getElem?_take, if_pos hj, if_pos (by omega)]
        · rw [List.getElem?_append_right (by simp; omega), List.getElem?_append_right (by simp; omega)]
          simp only [List.length_take, List.getElem?_replicate]
          rw [Nat.min_eq_left (by omega), Nat.min_eq_left (by omega)]
          by_cases hjx : j < x.length
          · rw [if_pos (by omega), if_pos (by omega)]
          · rw [if_neg (by omega), if_neg (by omega)]
    simp only [getI_nat, List.getElem?_eq_getElem hi, h1, bindO_some', Int.toNat_natCast, h2, i64_succ (show i < 2 ^ 62 by omega)]
    rw [ih _ rfl]
    simp [hi]

theorem eqIntS_eq {a b : List Int} (h : a.length < 2 ^ 62) : M_L_eqIntS (a, b) = some (decide (a = b)) := by
  unfold M_L_eqIntS
  by_cases hl : a.length = b.length
  · have e1 : ((a.length : Int) != (b.length : Int)) = false := by simp [hl]
    dsimp only
    rw [e1]
    simp only [cond_false]
    refine (loopO_for (σ := Unit) (fun i _ => (i : Int)) a.length (fun i _ => some (decide (a.drop i = b.drop i))) (fun _ _ => True) (fun again _ _ => ?_) (fun again i _ hi _ ih => ?_) (by omega) (i := 0) (s := ()) (Nat.zero_le _) trivial).trans (by simp)
    · simp [hl]
    · have hi' : i < b.length := by omega
      simp only [getI_nat, List.getElem?_eq_getElem hi, List.getElem?_eq_getElem hi', bindO_some', i64_succ (show i < 2 ^ 62 by omega), ih () trivial]
      rw [List.drop_eq_getElem_cons hi, List.drop_eq_getElem_cons hi']
      by_cases he : a[i] = b[i] <;> simp [bne_dec, he, hi, -List.getElem_cons_drop]
  · have e1 : ((a.length : Int) != (b.length : Int)) = true := by simp; omega
    dsimp only
    rw [e1]
    simp only [cond_true, Option.some.injEq]
    symm
    simp only [decide_eq_false_iff_not]
    rintro rfl
    exact hl rfl

def marks (n : Nat) (k : Int) : List Int := (List.range n).map fun (i : Nat) => k + (i : Int)

theorem marks_length (n : Nat) (k : Int) : (marks n k).length = n := by simp [marks]

theorem marks_get {n i : Nat} {k : Int} (h : i < n) : (marks n k)[i]? = some (k + i) := by
  simp [marks, h]

theorem markIntS_eq {a : List Int} {k : Int} (h : a.length < 2 ^ 40) (h0 : 0 ≤ k) (h1 : k < 2 ^ 40) : M_L_markIntS (a, k) = some (k + a.length, marks a.length k) := by
  unfold M_L_markIntS
  refine (loopO_for (σ := Int × List Int) (fun i s => (s.1, ((i : Int), s.2))) a.length (fun i s => some (k + a.length, marks a.length k)) (fun i s => s.1 = k + i ∧ s.2 = marks i k ++ a.drop i) (fun again s hs => ?_) (fun again i s hi hs ih => ?_) (by omega) (i := 0) (s := (k, a)) (Nat.zero_le _) (by simp [marks])).trans rfl
  · obtain ⟨s1, s2⟩ := s
    obtain ⟨rfl, rfl⟩ := hs
    simp [marks_length]
  · obtain ⟨s1, s2⟩ := s
    obtain ⟨rfl, rfl⟩ := hs
    have h2 : (marks i k ++ a.drop i)[i]? = some a[i] := by
      rw [List.getElem?_append_right (by simp [marks_length])]
      simp [marks_length, hi]
    have h3 : (marks i k ++ a.drop i).set i (k + i) = marks (i + 1) k ++ a.drop (i + 1) := by
      rw [List.set_append_right _ _ (by simp [marks_length]), marks_length, Nat.sub_self, List.drop_eq_getElem_cons hi, List.set_cons_zero]
      simp [marks, List.range_succ]
    have hlen : (marks i k ++ a.drop i).length = a.length := by simp [marks_length]; omega
    simp only [getI_nat, h2, bindO_some', Int.toNat_natCast, h3, i64_succ (show i < 2 ^ 62 by omega), hlen]
    rw [i64_in _ (by omega)]
    simp only [lt_yes hi, cond_true]
    exact ih (k + i + 1, marks (i + 1) k ++ a.drop (i + 1)) ⟨by simp; omega, rfl⟩

theorem heldIntS_eq {n : Nat} {k : Int} (h : n < 2 ^ 40) (h0 : 0 ≤ k) (h1 : k < 2 ^ 40) : M_L_heldIntS (marks n k, k) = some (k + n) := by
  unfold M_L_heldIntS
  refine (loopO_for (σ := Int) (fun i s => (s, (i : Int))) n (fun i s => some (k + n)) (fun i s => s = k + i) (fun again s hs => ?_) (fun again i s hi hs ih => ?_) (by omega) (i := 0) (s := k) (Nat.zero_le _) (by simp)).trans rfl
  · subst hs; simp [marks_length]
  · subst hs
    simp only [getI_nat, marks_get hi, marks_length, bindO_some', i64_succ (show i < 2 ^ 62 by omega)]
    rw [i64_in _ (by omega)]
    simp only [lt_yes hi, cond_true, bne_self_eq_false, cond_false]
    exact ih (k + i + 1) (by simp; omega)

theorem has_eq {l : List Int} {n : Int} (hl : l.length < 2 ^ 62) : M_S_l1Has (l, n) = some (l.any (· == n)) := by
  unfold M_S_l1Has
  refine (loop_walk l (fun _ a k => if (a == n) = true then some true else k) (some false) (fun again i a ha hi => ?_) (fun again => ?_) (by omega)).trans (walk_any _ l 0)
  · simp only [getI_nat, ha, bindO_some', i64_succ (show i < 2 ^ 62 by omega)]
    cases h : a == n <;> simp [h, hi]
  · simp

theorem index_eq {l : List Int} {n : Int} (hl : l.length < 2 ^ 62) : ∃ j : Int, M_slices_Index_sint_int (l, n) = some j ∧ decide (j ≥ 0) = l.any (· == n) := by
  obtain ⟨j, h1, h2⟩ := walk_index (fun a : Int => a == n) l 0
  refine ⟨j, ?_, h2⟩
  unfold M_slices_Index_sint_int
  refine (loop_walk l (fun i a k => if (a == n) = true then some (i : Int) else k) (some (-1)) (fun again i a ha hi => ?_) (fun again => ?_) (by omega)).trans h1
  · simp only [getI_nat, ha, bindO_some', i64_succ (show i < 2 ^ 62 by omega), lt_yes hi, cond_true]
    rw [show (n == a) = (a == n) from BEq.comm]
    cases h : a == n <;> simp [h]
  · simp

theorem one_nn (n : Nat) : ((1 : Int) + (n : Int) < 0) = False := by
  simp only [eq_iff_iff, iff_false]
  omega

theorem lenOk_of {n : Nat} (h : n ≤ 68719476736) : lenOk n = true := by simp [lenOk, lim_eq, h]

theorem contains_eq {l : List Int} {n : Int} (hl : l.length < 2 ^ 62) : M_slices_Contains_sint_int (l, n) = some (l.any (· == n)) := by
  obtain ⟨j, h1, h2⟩ := index_eq (n := n) hl
  unfold M_slices_Contains_sint_int
  dsimp only
  rw [h1, bindO_some', h2]

/-- A loop whose states go down: a property of its answer. -/
theorem loopO_ind {σ β : Type} {body : (σ → Option β) → σ → Option β} (Q : σ → Option β → Prop) (Inv : σ → Prop) (μ : σ → Nat)
    (step : ∀ (again : σ → Option β) s, Inv s → (∀ s', Inv s' → μ s' < μ s → Q s' (again s')) → Q s (body again s)) {s : σ} (h0 : Inv s) (hm : μ s < 2 ^ 64) : Q s (loopO body s) := by
  rw [loopO_eq]
  have H : ∀ (n : Nat) (s : σ), Inv s → μ s < n → Q s (iter body n s) := by
    intro n
    induction n with
    | zero => intro s _ h; exact absurd h (Nat.not_lt_zero _)
    | succ n ih => intro s hs h; exact step _ s hs fun s' hs' h' => ih s' hs' (by omega)
  exact H many s h0 hm

theorem in_eq (x a b : Int) : M_S_l1In (x, a, b) = some (decide (a ≤ x ∧ x ≤ b)) := by
  by_cases h : a ≤ x <;> by_cases h2 : x ≤ b <;> simp [M_S_l1In, h, h2]

theorem within_eq (x a b : Int) : M_I_within (x, a, b) = some (decide (a ≤ x ∧ x ≤ b)) := by
  by_cases h : a ≤ x <;> by_cases h2 : x ≤ b <;> simp [M_I_within, h, h2]

theorem isModulus_eq (x : Int) : M_I_isModulus x = some (decide (2 ≤ x ∧ x ≤ 2000000000)) := by
  unfold M_I_isModulus
  rw [within_eq]
  rfl

def IsP (n : Int) : Prop := 2 ≤ n ∧ ∀ d, 2 ≤ d → d * d ≤ n → n % d ≠ 0

noncomputable def isP (n : Int) : Bool := @decide (IsP n) (Classical.propDecidable _)

/-- No divisor from d on. -/
def NoDiv (n s : Int) : Prop := ∀ d, s ≤ d → d * d ≤ n → n % d ≠ 0

noncomputable def noDiv (n s : Int) : Bool := @decide (NoDiv n s) (Classical.propDecidable _)

theorem noDiv_end {n s : Int} (hs : 0 ≤ s) (h : n < s * s) : noDiv n s = true := by
  simp only [noDiv, decide_eq_true_eq]
  intro d hd hdd
  have := Int.mul_le_mul hd hd hs (by omega)
  omega

theorem noDiv_hit {n s : Int} (h : s * s ≤ n) (h2 : n % s = 0) : noDiv n s = false := by
  simp only [noDiv, decide_eq_false_iff_not]
  intro hn
  exact hn s (Int.le_refl _) h h2

theorem noDiv_step {n s : Int} (h2 : s * s ≤ n → n % s ≠ 0) : noDiv n s = noDiv n (s + 1) := by
  simp only [noDiv, decide_eq_decide]
  constructor
  · intro h d hd hdd
    exact h d (by omega) hdd
  · intro h d hd hdd
    by_cases he : d = s
    · subst he
      exact h2 hdd
    · exact h d (by omega) hdd

theorem sq_lt {s : Int} (h0 : 0 ≤ s) (h : s * s ≤ 2000000000) : s ≤ 44721 := by
  refine Int.not_lt.1 fun hlt => ?_
  have := Int.mul_le_mul (show (44722 : Int) ≤ s by omega) (show (44722 : Int) ≤ s by omega) (by omega) h0
  omega

theorem sq_le {s k : Int} (h0 : 0 ≤ s) (h : s ≤ k) : s * s ≤ k * k := Int.mul_le_mul h h h0 (by omega)

theorem nPrime_eq {n : Int} (hn : n ≤ 2000000000) : M_S_nPrime n = some (isP n) := by
  unfold M_S_nPrime
  by_cases h2 : n < 2
  · have : isP n = false := by simp only [isP, decide_eq_false_iff_not]; intro h; have := h.1; omega
    simp [h2, this]
  · have hb : decide (n < 2) = false := by simpa using h2
    rw [hb, cond_false]
    have h1 : isP n = noDiv n 2 := by
      simp only [isP, noDiv, decide_eq_decide]
      exact ⟨fun h => h.2, fun h => ⟨by omega, h⟩⟩
    rw [h1]
    refine loopO_spec (fun s => some (noDiv n s)) (fun s => 2 ≤ s ∧ s ≤ 50000) (fun s => (50000 - s).toNat) (fun again s hs ih => ?_) ⟨by omega, by omega⟩ (by omega)
    obtain ⟨hs1, hs2⟩ := hs
    have hq := sq_le (by omega) hs2
    have hq0 : 0 ≤ s * s := Int.mul_nonneg (by omega) (by omega)
    simp only [bindO_some', i64_in _ (show (-9223372036854775808 : Int) ≤ s * s ∧ s * s ≤ 9223372036854775807 by omega)]
    by_cases hle : s * s ≤ n
    · have := sq_lt (by omega) (show s * s ≤ 2000000000 by omega)
      have hgs : guardO (s != 0) = some () := guardO_of (by simp; omega)
      simp only [hle, decide_true, cond_true, hgs, bindO_some', tmod_nn (show 0 ≤ n by omega)]
      by_cases h0 : n % s = 0
      · simp [h0, noDiv_hit hle h0]
      · have hb : (n % s == 0) = false := by simpa using h0
        have hw := i64_in (s + 1) (by omega)
        have hi := ih (s + 1) ⟨by omega, by omega⟩ (by omega)
        have hn := noDiv_step (n := n) (s := s) (fun _ => h0)
        rw [hb, cond_false, hw, hi, hn]
    · simp [hle, noDiv_end (by omega) (show n < s * s by omega)]

theorem odd_loop {n : Int} (hn : n ≤ 2000000000) (h2 : 2 ≤ n) (hodd : n % 2 = 1 ∨ n = 2) : loopO (fun (again9 : (Int → (Option Bool))) => (fun (s10 : Int) => (bindO (some (IntKind.wrap .i64 (s10 * s10))) (fun (a11 : Int) => (cond (decide (a11 ≤ n)) (bindO (guardO (s10 != (0 : Int))) (fun (a12 : Unit) => (bindO (some (Int.tmod n s10)) (fun (a13 : Int) => (cond (a13 == (0 : Int)) (some false) (bindO (some (IntKind.wrap .i64 (s10 + (2 : Int)))) (fun (a14 : Int) => (again9 a14)))))))) (some true)))))) (3 : Int) = some (noDiv n 3) := by
  refine loopO_spec (fun s => some (noDiv n s)) (fun s => 3 ≤ s ∧ s ≤ 50000 ∧ s % 2 = 1) (fun s => (50000 - s).toNat) (fun again s hs ih => ?_) ⟨by omega, by omega, by omega⟩ (by omega)
  obtain ⟨hs1, hs2, hs3⟩ := hs
  have hq := sq_le (by omega) hs2
  have hq0 : 0 ≤ s * s := Int.mul_nonneg (by omega) (by omega)
  simp only [bindO_some', i64_in _ (show (-9223372036854775808 : Int) ≤ s * s ∧ s * s ≤ 9223372036854775807 by omega)]
  by_cases hle : s * s ≤ n
  · have := sq_lt (by omega) (show s * s ≤ 2000000000 by omega)
    have h9 := sq_le (show (0 : Int) ≤ 3 by omega) hs1
    have hgs : guardO (s != 0) = some () := guardO_of (by simp; omega)
    simp only [hle, decide_true, cond_true, hgs, bindO_some', tmod_nn (show 0 ≤ n by omega)]
    by_cases h0 : n % s = 0
    · simp [h0, noDiv_hit hle h0]
    · have hb : (n % s == 0) = false := by simpa using h0
      have hw := i64_in (s + 2) (by omega)
      have hi := ih (s + 2) ⟨by omega, by omega, by omega⟩ (by omega)
      have hn1 := noDiv_step (n := n) (s := s) (fun _ => h0)
      have hn2 := noDiv_step (n := n) (s := s + 1) (fun h8 h1 => by
        have := Int.emod_emod_of_dvd n (show (2 : Int) ∣ (s + 1) by omega)
        rw [h1] at this
        have h3 : n ≠ 2 := fun h => by subst h; omega
        omega)
      rw [hb, cond_false, hw, hi, hn1, hn2, show s + 1 + 1 = s + 2 by omega]
  · simp [hle, noDiv_end (by omega) (show n < s * s by omega)]

theorem isPrime_eq {n : Int} (hn : n ≤ 2000000000) : M_I_isPrime n = some (isP n) := by
  unfold M_I_isPrime
  rw [isModulus_eq]
  by_cases h2 : 2 ≤ n
  · have h1 : isP n = noDiv n 2 := by
      simp only [isP, noDiv, decide_eq_decide]
      exact ⟨fun h => h.2, fun h => ⟨h2, h⟩⟩
    have hg2 : guardO ((2 : Int) != 0) = some () := rfl
    by_cases ho : n % 2 = 1 ∨ n = 2
    · rw [odd_loop hn h2 ho, hg2]
      simp only [bindO_some', h2, hn, and_self, decide_true, Bool.not_true, cond_false, tmod_nn (show 0 ≤ n by omega), h1]
      rcases ho with ho | rfl
      · have hb : (n % 2 == 0) = false := by simp [ho]
        rw [hb, cond_false, noDiv_step (n := n) (s := 2) (fun _ => by omega)]
        rfl
      · rw [noDiv_end (n := 2) (s := 2) (by omega) (by omega), noDiv_end (n := 2) (s := 3) (by omega) (by omega)]
        rfl
    · have he : n % 2 = 0 := by omega
      have hn2 : n ≠ 2 := fun h => ho (.inr h)
      have hb : (n != 2) = true := by simpa using hn2
      simp only [bindO_some', hg2, h2, hn, and_self, decide_true, Bool.not_true, cond_false, tmod_nn (show 0 ≤ n by omega), he, beq_self_eq_true, cond_true, hb, h1]
      rw [noDiv_hit (by omega) he]
  · have : isP n = false := by simp only [isP, decide_eq_false_iff_not]; intro h; have := h.1; omega
    simp [h2, this]

theorem pow_mod (a m : Int) : ∀ k : Nat, (a % m) ^ k % m = a ^ k % m
  | 0 => by simp
  | k + 1 => by rw [Int.pow_succ, Int.pow_succ, Int.mul_emod, pow_mod a m k, ← Int.mul_emod, Int.mul_emod, Int.emod_emod_of_dvd _ (Int.dvd_refl m), ← Int.mul_emod]

theorem sq_pow (a : Int) (k : Nat) : (a * a) ^ k = a ^ (2 * k) := by
  rw [show a * a = a ^ 2 by rw [Int.pow_succ, Int.pow_succ, Int.pow_zero, Int.one_mul], ← Int.pow_mul]

/-- One round of the power loop. -/
theorem pow_round {out a m : Int} {e : Int} (he : 0 < e) : ((if e % 2 = 1 then out * a % m else out) * (a * a % m) ^ (e / 2).toNat) % m = (out * a ^ e.toNat) % m := by
  have hk : e.toNat = 2 * (e / 2).toNat + (e % 2).toNat := by omega
  rw [Int.mul_emod, pow_mod, ← Int.mul_emod, sq_pow]
  by_cases h : e % 2 = 1
  · rw [if_pos h, hk, h, Int.pow_add, show (1 : Int).toNat = 1 by rfl, Int.pow_succ, Int.pow_zero, Int.one_mul, Int.mul_emod, Int.emod_emod_of_dvd _ (Int.dvd_refl m), ← Int.mul_emod]
    congr 1
    rw [Int.mul_assoc, Int.mul_comm a]
  · rw [if_neg h, hk, show e % 2 = 0 by omega]
    rfl

theorem mul_in {a b : Int} (ha : 0 ≤ a) (ha2 : a ≤ 3000000000) (hb : 0 ≤ b) (hb2 : b ≤ 3000000000) : 0 ≤ a * b ∧ a * b ≤ 9000000000000000000 :=
  ⟨Int.mul_nonneg ha hb, by have := Int.mul_le_mul ha2 hb2 hb (by omega); omega⟩

theorem nPower_eq {a e m : Int} (ha : 0 ≤ a) (ha2 : a ≤ 3000000000) (he : 0 ≤ e) (he2 : e ≤ 9223372036854775807) (hm : 1 ≤ m) (hm2 : m ≤ 3000000000) : M_S_nPower (a, e, m) = some (a ^ e.toNat % m) := by
  unfold M_S_nPower
  dsimp only
  have hg : guardO (m != 0) = some () := guardO_of (by simp; omega)
  have hg2 : guardO ((2 : Int) != 0) = some () := rfl
  rw [hg, bindO_some', bindO_some', tmod_nn (by omega)]
  have hfin : a ^ e.toNat % m = (1 % m * a ^ e.toNat) % m := by rw [Int.mul_emod, Int.emod_emod_of_dvd _ (Int.dvd_refl m), ← Int.mul_emod, Int.one_mul]
  rw [hfin]
  refine loopO_spec (fun (s : Int × Int × Int) => some ((s.2.2 * s.1 ^ s.2.1.toNat) % m)) (fun s => 0 ≤ s.1 ∧ s.1 ≤ 3000000000 ∧ 0 ≤ s.2.1 ∧ s.2.1 ≤ 9223372036854775807 ∧ 0 ≤ s.2.2 ∧ s.2.2 < m) (fun s => s.2.1.toNat) (fun again s hs ih => ?_)
    (⟨ha, ha2, he, he2, Int.emod_nonneg _ (by omega), Int.emod_lt_of_pos _ (by omega)⟩) (show e.toNat < 2 ^ 64 by omega)
  obtain ⟨a, e, out⟩ := s
  obtain ⟨h1, h2, h3, h4, h5, h6⟩ := hs
  dsimp only at h1 h2 h3 h4 h5 h6 ih ⊢
  have hoa := mul_in h5 (show out ≤ 3000000000 by omega) h1 h2
  have haa := mul_in h1 h2 h1 h2
  by_cases hpos : e > 0
  · have hr := pow_round (out := out) (a := a) (m := m) hpos
    have haam := Int.emod_nonneg (a * a) (show m ≠ 0 by omega)
    have haam2 := Int.emod_lt_of_pos (a * a) (show 0 < m by omega)
    have hoam := Int.emod_nonneg (out * a) (show m ≠ 0 by omega)
    have hoam2 := Int.emod_lt_of_pos (out * a) (show 0 < m by omega)
    simp only [hpos, decide_true, cond_true, hg, hg2, bindO_some', tmod_nn h3, tdiv_nn h3, i64_in _ (show (-9223372036854775808 : Int) ≤ out * a ∧ out * a ≤ 9223372036854775807 by omega), i64_in _ (show (-9223372036854775808 : Int) ≤ a * a ∧ a * a ≤ 9223372036854775807 by omega),
      tmod_nn hoa.1, tmod_nn haa.1, i64_in _ (show (-9223372036854775808 : Int) ≤ e / 2 ∧ e / 2 ≤ 9223372036854775807 by omega)]
    by_cases ho : e % 2 = 1
    · rw [if_pos ho] at hr
      rw [show (e % 2 == 1) = true by simp [ho], cond_true, ih (a * a % m, e / 2, out * a % m) ⟨haam, by dsimp only; omega, by dsimp only; omega, by dsimp only; omega, hoam, hoam2⟩ (by dsimp only; omega)]
      exact congrArg some hr
    · rw [if_neg ho] at hr
      rw [show (e % 2 == 1) = false by simp [ho], cond_false, ih (a * a % m, e / 2, out) ⟨haam, by dsimp only; omega, by dsimp only; omega, by dsimp only; omega, h5, h6⟩ (by dsimp only; omega)]
      exact congrArg some hr
  · have : e = 0 := by omega
    subst this
    simp [Int.emod_eq_of_lt h5 h6]

theorem bits_one {x : Int} (h : 0 ≤ x) : Vd.bits .and .i64 x 1 = x % 2 := by
  obtain ⟨n, rfl⟩ := Int.eq_ofNat_of_zero_le h
  have h1 : (BitVec.ofInt 64 ((n : Nat) : Int) &&& BitVec.ofInt 64 1).toNat = n % 2 := by
    rw [BitVec.toNat_and]
    have e1 : (BitVec.ofInt 64 ((n : Nat) : Int)).toNat = n % 2 ^ 64 := by simp
    have e2 : (BitVec.ofInt 64 1).toNat = 1 := by decide
    rw [e1, e2, Nat.and_one_is_mod]
    omega
  show IntKind.wrap .i64 (((BitVec.ofInt 64 ((n : Nat) : Int) &&& BitVec.ofInt 64 1).toNat : Nat) : Int) = _
  rw [h1, i64_in _ (by omega)]
  omega

theorem shr_one {x : Int} : Vd.shr .i64 x 1 = x / 2 := by
  show x.fdiv (2 ^ (min (1 : Int).toNat 64)) = x / 2
  rw [show ((2 : Int) ^ (min (1 : Int).toNat 64)) = 2 by decide, fdiv_pos (by omega)]

theorem power_eq {a e m : Int} (he : e ≤ 9223372036854775807) : M_I_power (a, e, m) = M_S_nPower (a, e, m) := by
  unfold M_I_power M_S_nPower
  congr 1
  funext _
  congr 1
  funext out
  refine loopO_congr (fun s => s.2.1 ≤ 9223372036854775807) (fun a1 a2 s hs ih => ?_) he
  by_cases hpos : s.2.1 > 0
  · have hg2 : guardO ((2 : Int) != 0) = some () := rfl
    have hg3 : guardO (decide ((0 : Int) ≤ 1)) = some () := rfl
    have hw : ∀ (x : Int) y, a1 (x, s.2.1 / 2, y) = a2 (x, s.2.1 / 2, y) := fun x y => ih _ (by dsimp only; omega)
    simp only [hpos, decide_true, cond_true, hg2, hg3, bindO_some', bits_one (show 0 ≤ s.2.1 by omega), shr_one, tmod_nn (show 0 ≤ s.2.1 by omega), tdiv_nn (show 0 ≤ s.2.1 by omega),
      i64_in _ (show (-9223372036854775808 : Int) ≤ s.2.1 / 2 ∧ s.2.1 / 2 ≤ 9223372036854775807 by omega), hw]
  · simp [hpos]

theorem l1All_eq {l : List Int} {lo hi : Int} (hl : l.length < 2 ^ 62) : M_S_l1All (l, lo, hi) = some (l.all fun n => decide (lo ≤ n ∧ n ≤ hi)) := by
  unfold M_S_l1All
  refine (loop_walk l (fun _ a k => if (decide (lo ≤ a ∧ a ≤ hi)) = true then k else some false) (some true) (fun again i a ha hi' => ?_) (fun again => ?_) (by omega)).trans (walk_all (fun n => decide (lo ≤ n ∧ n ≤ hi)) l 0)
  · simp only [getI_nat, ha, bindO_some', i64_succ (show i < 2 ^ 62 by omega), lt_yes hi', cond_true, in_eq]
    cases decide (lo ≤ a ∧ a ≤ hi) <;> rfl
  · simp

theorem walk_index_mem {α : Type} (p : α → Bool) (f : α → Option Bool) : ∀ (l : List α) (i : Nat), (∀ a ∈ l, f a = some (p a)) →
    ∃ j : Int, walk (fun i a k => bindO (f a) fun b => cond b (some (i : Int)) k) (some (-1)) i l = some j ∧ decide (j ≥ 0) = l.any p
  | [], _, _ => ⟨-1, rfl, rfl⟩
  | a :: l, i, hf => by
    obtain ⟨j, h1, h2⟩ := walk_index_mem p f l (i + 1) fun b hb => hf b (List.mem_cons_of_mem _ hb)
    have ha := hf a (List.mem_cons_self ..)
    cases h : p a
    · exact ⟨j, by simp [walk, ha, h, h1], by simp [h, h2]⟩
    · exact ⟨i, by simp [walk, ha, h], by simp [h]⟩

theorem containsFunc_eq {l : List Int} {f : Int → Option Bool} {p : Int → Bool} (hl : l.length < 2 ^ 62) (hf : ∀ a ∈ l, f a = some (p a)) : M_slices_ContainsFunc_sint_int (l, f) = some (l.any p) := by
  obtain ⟨j, h1, h2⟩ := walk_index_mem p f l 0 hf
  unfold M_slices_ContainsFunc_sint_int
  have : M_slices_IndexFunc_sint_int (l, f) = some j := by
    unfold M_slices_IndexFunc_sint_int
    refine (loop_walk l _ _ (fun again i a ha hi => ?_) (fun again => ?_) (by omega)).trans h1
    · simp only [getI_nat, ha, bindO_some', i64_succ (show i < 2 ^ 62 by omega), lt_yes hi, cond_true]
    · simp
  dsimp only
  rw [this, bindO_some', h2]

theorem areAll_eq {l : List Int} {f : Int → Option Bool} {p : Int → Bool} (hl : l.length < 2 ^ 62) (hf : ∀ a ∈ l, f a = some (p a)) : M_I_areAll (l, f) = some (l.all p) := by
  unfold M_I_areAll
  dsimp only
  rw [containsFunc_eq (p := fun a => !p a) hl fun a ha => by simp [M_I_areAll_1, hf a ha], bindO_some']
  congr 1
  rw [List.any_eq_not_all_not]
  simp

noncomputable def okG (p q g : Int) : Bool := decide (3 ≤ p ∧ p ≤ 2000000000) && (decide (2 ≤ q ∧ q ≤ p - 1) && ((p - 1) % q == 0 && (decide (2 ≤ g ∧ g ≤ p - 1) && (g ^ q.toNat % p == 1 && (isP q && isP p)))))

theorem l2Good_eq (p q g : Int) : M_S_l2Good (p, q, g) = some (okG p q g) := by
  unfold M_S_l2Good okG
  simp only [in_eq, bindO_some']
  by_cases h1 : 3 ≤ p ∧ p ≤ 2000000000
  · rw [i64_in (p - 1) (by omega)]
    simp only [h1, and_self, decide_true, cond_true, Bool.true_and]
    by_cases h2 : 2 ≤ q ∧ q ≤ p - 1
    · have hq : guardO (q != 0) = some () := guardO_of (by simp; omega)
      simp only [h2, and_self, decide_true, cond_true, Bool.true_and, hq, bindO_some', tmod_nn (show 0 ≤ p - 1 by omega)]
      by_cases h3 : (p - 1) % q = 0
      · simp only [h3, beq_self_eq_true, cond_true, Bool.true_and]
        by_cases h4 : 2 ≤ g ∧ g ≤ p - 1
        · simp only [h4, and_self, decide_true, cond_true, Bool.true_and, nPower_eq (show 0 ≤ g by omega) (show g ≤ 3000000000 by omega) (show 0 ≤ q by omega) (show q ≤ 9223372036854775807 by omega) (show 1 ≤ p by omega) (show p ≤ 3000000000 by omega), bindO_some',
            nPrime_eq (show q ≤ 2000000000 by omega), nPrime_eq (show p ≤ 2000000000 by omega)]
          cases (g ^ q.toNat % p == 1) <;> cases isP q <;> cases isP p <;> rfl
        · simp [h4]
      · have hb : ((p - 1) % q == 0) = false := by simpa using h3
        simp [hb]
    · simp [h2]
  · simp [h1]

theorem IsValidGroup_eq (p q g : Int) : M_I_IsValidGroup (p, q, g) = some (okG p q g) := by
  unfold M_I_IsValidGroup okG
  simp only [within_eq, bindO_some']
  by_cases h1 : 3 ≤ p ∧ p ≤ 2000000000
  · rw [i64_in (p - 1) (by omega)]
    simp only [h1, and_self, decide_true, cond_true, Bool.true_and]
    by_cases h2 : 2 ≤ q ∧ q ≤ p - 1
    · have hq : guardO (q != 0) = some () := guardO_of (by simp; omega)
      simp only [h2, and_self, decide_true, cond_true, Bool.true_and, hq, bindO_some', tmod_nn (show 0 ≤ p - 1 by omega)]
      by_cases h3 : (p - 1) % q = 0
      · simp only [h3, beq_self_eq_true, cond_true, Bool.true_and]
        by_cases h4 : 2 ≤ g ∧ g ≤ p - 1
        · simp only [h4, and_self, decide_true, cond_true, Bool.true_and, power_eq (show q ≤ 9223372036854775807 by omega), nPower_eq (show 0 ≤ g by omega) (show g ≤ 3000000000 by omega) (show 0 ≤ q by omega) (show q ≤ 9223372036854775807 by omega) (show 1 ≤ p by omega) (show p ≤ 3000000000 by omega), bindO_some',
            isPrime_eq (show q ≤ 2000000000 by omega), isPrime_eq (show p ≤ 2000000000 by omega)]
          cases (g ^ q.toNat % p == 1) <;> cases isP q <;> cases isP p <;> rfl
        · simp [h4]
      · have hb : ((p - 1) % q == 0) = false := by simpa using h3
        simp [hb]
    · simp [h2]
  · simp [h1]

/-- What a valid group fulfils. -/
structure Gr (p q g : Int) : Prop where
  p3 : 3 ≤ p
  pm : p ≤ 2000000000
  q2 : 2 ≤ q
  qp : q ≤ p - 1
  dv : (p - 1) % q = 0
  g2 : 2 ≤ g
  gp : g ≤ p - 1
  gq : g ^ q.toNat % p = 1
  pq : isP q = true
  pp : isP p = true

theorem okG_spec {p q g : Int} (h : okG p q g = true) : Gr p q g := by
  simp only [okG, Bool.and_eq_true, decide_eq_true_eq, beq_iff_eq] at h
  obtain ⟨⟨h1, h2⟩, ⟨h3, h4⟩, h5, ⟨h6, h7⟩, h8, h9, h10⟩ := h
  exact ⟨h1, h2, h3, h4, h5, h6, h7, h8, h9, h10⟩

theorem nMod_eq {a m : Int} (hm : 1 ≤ m) (hm2 : m ≤ 4611686018427387903) : M_S_nMod (a, m) = some (a % m) := by
  unfold M_S_nMod
  have hg : guardO (m != 0) = some () := guardO_of (by simp; omega)
  have h1 := Int.tmod_lt_of_pos a (show 0 < m by omega)
  have h2 : -m < a.tmod m := Int.lt_tmod_of_pos a (by omega)
  simp only [hg, bindO_some', i64_in (a.tmod m + m) (by omega), tmod_nn (show 0 ≤ a.tmod m + m by omega)]
  congr 1
  rw [Int.add_emod_right]
  have h3 := Int.mul_tdiv_add_tmod a m
  have : a % m = (m * a.tdiv m + a.tmod m) % m := by rw [h3]
  rw [this, Int.mul_add_emod_self_left]

theorem mod_eq {x : Int × Int} : M_I_mod x = M_S_nMod x := rfl

theorem gExp_eq {p q g x e : Int} (h : Gr p q g) (hx : 0 ≤ x) (hx2 : x ≤ p) : M_S_gExp ((p, q, g), x, e) = some (x ^ (e % q).toNat % p) := by
  unfold M_S_gExp
  have := h.p3; have := h.pm; have := h.q2; have := h.qp
  have h1 := Int.emod_nonneg e (show q ≠ 0 by omega)
  have h2 := Int.emod_lt_of_pos e (show 0 < q by omega)
  dsimp only
  rw [nMod_eq (by omega) (by omega), bindO_some', nPower_eq hx (by omega) h1 (by omega) (by omega) (by omega), bindO_some']

theorem Group_pow_eq {p q g x e : Int} (h : Gr p q g) (hx : 0 ≤ x) (hx2 : x ≤ p) : M_I_Group_pow ((p, q, g), x, e) = some (x ^ (e % q).toNat % p) := by
  unfold M_I_Group_pow
  have := h.p3; have := h.pm; have := h.q2; have := h.qp
  have h1 := Int.emod_nonneg e (show q ≠ 0 by omega)
  have h2 := Int.emod_lt_of_pos e (show 0 < q by omega)
  dsimp only
  rw [mod_eq, nMod_eq (by omega) (by omega), bindO_some', power_eq (by omega), nPower_eq hx (by omega) h1 (by omega) (by omega) (by omega), bindO_some']

theorem isExp_eq {p q g e : Int} (h : Gr p q g) : M_I_Group_isExp ((p, q, g), e) = some (decide (0 ≤ e ∧ e ≤ q - 1)) := by
  unfold M_I_Group_isExp
  have := h.pm; have := h.q2; have := h.qp
  simp only [bindO_some', i64_in (q - 1) (by omega), within_eq]

theorem gExps_eq {p q g : Int} {l : List Int} (h : Gr p q g) (hl : l.length < 2 ^ 62) : M_S_gExps ((p, q, g), l) = some (l.all fun e => decide (0 ≤ e ∧ e ≤ q - 1)) := by
  unfold M_S_gExps
  have := h.pm; have := h.q2; have := h.qp
  simp only [bindO_some', i64_in (q - 1) (by omega), l1All_eq hl]

/-- Is a number an element? -/
def isEl (p q x : Int) : Bool := decide (1 ≤ x ∧ x ≤ p - 1) && x ^ q.toNat % p == 1

theorem has_eq' {p q g x : Int} (h : Gr p q g) : M_I_Group_has ((p, q, g), x) = some (isEl p q x) := by
  unfold M_I_Group_has isEl
  have := h.p3; have := h.pm; have := h.q2; have := h.qp
  simp only [bindO_some', i64_in (p - 1) (by omega), within_eq]
  by_cases hx : 1 ≤ x ∧ x ≤ p - 1
  · simp [hx, power_eq (show q ≤ 9223372036854775807 by omega), nPower_eq (show 0 ≤ x by omega) (show x ≤ 3000000000 by omega) (show 0 ≤ q by omega) (show q ≤ 9223372036854775807 by omega) (show 1 ≤ p by omega) (show p ≤ 3000000000 by omega)]
  · simp [hx]

theorem gIs_eq {p q g : Int} {l : List Int} (h : Gr p q g) (hl : l.length < 2 ^ 62) : M_S_gIs ((p, q, g), l) = some (l.all (isEl p q)) := by
  unfold M_S_gIs
  have := h.p3; have := h.pm; have := h.q2; have := h.qp
  refine (loop_walk l (fun _ a k => if (isEl p q a) = true then k else some false) (some true) (fun again i a ha hi' => ?_) (fun again => ?_) (by omega)).trans (walk_all (isEl p q) l 0)
  · simp only [getI_nat, ha, bindO_some', i64_succ (show i < 2 ^ 62 by omega), lt_yes hi', cond_true, in_eq, i64_in (p - 1) (by omega)]
    by_cases hx : 1 ≤ a ∧ a ≤ p - 1
    · simp only [isEl, hx, and_self, decide_true, Bool.not_true, cond_false, Bool.true_and, nPower_eq (show 0 ≤ a by omega) (show a ≤ 3000000000 by omega) (show 0 ≤ q by omega) (show q ≤ 9223372036854775807 by omega) (show 1 ≤ p by omega) (show p ≤ 3000000000 by omega), bindO_some']
      by_cases h1 : a ^ q.toNat % p = 1 <;> simp [h1, bne_dec]
    · simp [isEl, hx]
  · simp

theorem isEl_range {p q x : Int} (h : isEl p q x = true) : 1 ≤ x ∧ x ≤ p - 1 ∧ x ^ q.toNat % p = 1 := by
  simp only [isEl, Bool.and_eq_true, decide_eq_true_eq, beq_iff_eq] at h
  exact ⟨h.1.1, h.1.2, h.2⟩

/-- A product of residues. -/
def prodM (p : Int) : Int → List Int → Int
  | out, [] => out
  | out, x :: l => prodM p (out * x % p) l

theorem prodM_range {p : Int} (hp : 1 ≤ p) : ∀ (l : List Int) (out : Int), 0 ≤ out → out < p ∨ l ≠ [] → 0 ≤ prodM p out l ∧ (prodM p out l < p)
  | [], out, h, h2 => ⟨h, h2.resolve_right (by simp)⟩
  | x :: l, out, h, _ => prodM_range hp l _ (Int.emod_nonneg _ (by omega)) (.inl (Int.emod_lt_of_pos _ (by omega)))

theorem gMul_loop {p : Int} (hp : 1 ≤ p) (hp2 : p ≤ 3000000000) (l : List Int) (hx : ∀ x ∈ l, 0 ≤ x ∧ x ≤ 3000000000) (hl : l.length < 2 ^ 62) {body : (Int × Int → Option Int) → Int × Int → Option Int} 
    (h : ∀ (again : Int × Int → Option Int) (s : Int × Int), body again s = (cond (decide (s.2 < ((l.length : Nat) : Int))) (bindO (getI l s.2) fun a => bindO (some (IntKind.wrap .i64 (s.1 * a))) fun b => bindO (guardO (p != 0)) fun _ => bindO (some (b.tmod p)) fun c => bindO (some (IntKind.wrap .i64 (s.2 + 1))) fun d => again (c, d)) (some s.1))) :
    loopO body (1, 0) = some (prodM p 1 l) := by
  have hg : guardO (p != 0) = some () := guardO_of (by simp; omega)
  refine (loopO_for (σ := Int) (fun i s => (s, (i : Int))) l.length (fun i s => some (prodM p s (l.drop i))) (fun _ s => 0 ≤ s ∧ s ≤ 3000000000) (fun again s hs => ?_) (fun again i s hi hs ih => ?_) (by omega) (i := 0) (s := 1) (Nat.zero_le _) ⟨by omega, by omega⟩).trans (by simp)
  · rw [h]; simp [prodM]
  · have hm := hx l[i] (List.getElem_mem hi)
    have hb := mul_in hs.1 hs.2 hm.1 hm.2
    have h1 := Int.emod_nonneg (s * l[i]) (show p ≠ 0 by omega)
    have h2 := Int.emod_lt_of_pos (s * l[i]) (show 0 < p by omega)
    rw [h]
    simp only [lt_yes hi, cond_true, getI_nat, List.getElem?_eq_getElem hi, bindO_some', hg, i64_succ (show i < 2 ^ 62 by omega), i64_in (s * l[i]) (by omega), tmod_nn hb.1]
    rw [ih _ ⟨h1, by omega⟩, List.drop_eq_getElem_cons hi, prodM]

theorem gMul_eq {p q g : Int} {l : List Int} (h : Gr p q g) (hx : ∀ x ∈ l, 0 ≤ x ∧ x ≤ 3000000000) (hl : l.length < 2 ^ 62) : M_S_gMul ((p, q, g), l) = some (prodM p 1 l) := by
  unfold M_S_gMul
  have := h.p3; have := h.pm
  exact gMul_loop (by omega) (by omega) l hx hl fun _ _ => rfl

theorem Group_mul_eq {p q g : Int} {l : List Int} (h : Gr p q g) (hx : ∀ x ∈ l, 0 ≤ x ∧ x ≤ 3000000000) (hl : l.length < 2 ^ 62) : M_I_Group_mul ((p, q, g), l) = some (prodM p 1 l) := by
  unfold M_I_Group_mul
  have := h.p3; have := h.pm
  exact gMul_loop (by omega) (by omega) l hx hl fun _ _ => rfl

def hstep (c s k : Int) : Int := (c * s + k + 1) % 2147483647

def absorb (s : Int × Int) (x : Int) : Int × Int :=
  (hstep 48271 (hstep 48271 s.1 (x % 2147483648)) (x / 2147483648), hstep 69621 (hstep 69621 s.2 (x % 2147483648)) (x / 2147483648))

def digest (l : List Int) : Int := ((l.foldl absorb (absorb (1, 2) (l.length : Int))).1) * 2147483648 + (l.foldl absorb (absorb (1, 2) (l.length : Int))).2

def HOk (s : Int × Int) : Prop := 0 ≤ s.1 ∧ s.1 < 2147483648 ∧ 0 ≤ s.2 ∧ s.2 < 2147483648

theorem hstep_range (c s k : Int) : 0 ≤ hstep c s k ∧ hstep c s k < 2147483647 :=
  ⟨Int.emod_nonneg _ (by omega), Int.emod_lt_of_pos _ (by omega)⟩

theorem absorb_ok (s : Int × Int) (x : Int) : HOk (absorb s x) := by
  have h1 := hstep_range 48271 (hstep 48271 s.1 (x % 2147483648)) (x / 2147483648)
  have h2 := hstep_range 69621 (hstep 69621 s.2 (x % 2147483648)) (x / 2147483648)
  exact ⟨h1.1, by show hstep _ _ _ < _; omega, h2.1, by show hstep _ _ _ < _; omega⟩

theorem foldl_ok : ∀ (l : List Int) (s : Int × Int), HOk s → HOk (l.foldl absorb s)
  | [], _, h => h
  | x :: l, s, _ => foldl_ok l _ (absorb_ok s x)

theorem digest_range (l : List Int) : 0 ≤ digest l ∧ digest l ≤ 4611686018427387903 := by
  have h := foldl_ok l _ (absorb_ok (1, 2) (l.length : Int))
  obtain ⟨h1, h2, h3, h4⟩ := h
  unfold digest
  omega

theorem hstep_walk {c s k : Int} (hc : c = 48271 ∨ c = 69621) (hs : 0 ≤ s ∧ s < 2147483648) (hk : 0 ≤ k ∧ k < 2147483648) :
    (IntKind.wrap .i64 (IntKind.wrap .i64 (IntKind.wrap .i64 (c * s) + k) + 1)).tmod 2147483647 = hstep c s k := by
  have h1 : 0 ≤ c * s ∧ c * s ≤ 69621 * 2147483648 := ⟨Int.mul_nonneg (by omega) hs.1, Int.mul_le_mul (by omega) (by omega) hs.1 (by omega)⟩
  rw [i64_in (c * s) (by omega), i64_in (c * s + k) (by omega), i64_in (c * s + k + 1) (by omega), tmod_nn (by omega)]
  rfl

theorem absorb_eq {s : Int × Int} {x : Int} (hs : HOk s) (h0 : 0 ≤ x) (h1 : x ≤ 4611686018427387903) : M_S_l3State_absorb (s, x) = some (absorb s x) := by
  unfold M_S_l3State_absorb
  obtain ⟨h2, h3, h4, h5⟩ := hs
  have hg : guardO ((2147483648 : Int) != 0) = some () := rfl
  have hg2 : guardO ((2147483647 : Int) != 0) = some () := rfl
  dsimp only
  rw [hg]
  simp only [bindO_some', tmod_nn h0, tdiv_nn h0]
  rw [i64_in (x / 2147483648) (by omega)]
  have hb : 0 ≤ x % 2147483648 ∧ x % 2147483648 < 2147483648 := by omega
  have ha : 0 ≤ x / 2147483648 ∧ x / 2147483648 < 2147483648 := by omega
  have hm : ∀ k ∈ [x % 2147483648, x / 2147483648], 0 ≤ k ∧ k < 2147483648 := fun k hk => by
    simp only [List.mem_cons, List.not_mem_nil, or_false] at hk
    rcases hk with rfl | rfl
    · exact hb
    · exact ha
  have hg3 : ∀ (c s k : Int), 0 ≤ hstep c s k ∧ hstep c s k < 2147483648 := fun c s k => by have := hstep_range c s k; omega
  refine (loop_walkI (fun i (s : Int × Int) => (i, (s.1, s.2))) [x % 2147483648, x / 2147483648] (fun _ k s c => c (hstep 48271 s.1 k, hstep 69621 s.2 k)) (fun s => some (s.1, s.2)) (fun _ s => HOk s)
    (fun i a s k k' ha hs hk => hk _ ⟨(hg3 _ _ _).1, (hg3 _ _ _).2, (hg3 _ _ _).1, (hg3 _ _ _).2⟩) (fun again i a t ha hi ht => ?_) (fun again s hs => ?_) (by show (2 : Nat) < 2 ^ 64; omega) (s.1, s.2) ⟨h2, h3, h4, h5⟩).trans rfl
  · have hk := hm a (List.mem_of_getElem? ha)
    have hi2 : i < 2 := hi
    simp only [lt_yes hi, cond_true, getI_nat, ha, hg2, bindO_some', hstep_walk (.inl rfl) ⟨ht.1, ht.2.1⟩ hk, hstep_walk (.inr rfl) ⟨ht.2.2.1, ht.2.2.2⟩ hk, i64_succ (show i < 2 ^ 62 by omega)]
  · simp only [lt_no, cond_false]

theorem hInts_eq {l : List Int} (hl : l.length < 2 ^ 40) (hx : ∀ x ∈ l, 0 ≤ x ∧ x ≤ 4611686018427387903) : M_S_hInts l = some (digest l) := by
  unfold M_S_hInts
  rw [absorb_eq (⟨by omega, by omega, by omega, by omega⟩ : HOk (1, 2)) (by omega) (by omega), bindO_some']
  refine (loopO_for (σ := Int × Int) (fun i s => ((i : Int), (s.1, s.2))) l.length (fun i s => some (((l.drop i).foldl absorb s).1 * 2147483648 + ((l.drop i).foldl absorb s).2)) (fun _ s => HOk s) (fun again s hs => ?_) (fun again i s hi hs ih => ?_) (by omega) (i := 0) (s := absorb (1, 2) (l.length : Int)) (Nat.zero_le _) (absorb_ok _ _)).trans rfl
  · obtain ⟨h1, h2, h3, h4⟩ := hs
    simp only [lt_no, cond_false, List.drop_length, List.foldl_nil, bindO_some']
    rw [i64_in (s.1 * 2147483648) (by omega), i64_in (s.1 * 2147483648 + s.2) (by omega)]
  · have hm := hx l[i] (List.getElem_mem hi)
    simp only [lt_yes hi, cond_true, getI_nat, List.getElem?_eq_getElem hi, bindO_some', absorb_eq (s := (s.1, s.2)) hs hm.1 hm.2, i64_succ (show i < 2 ^ 62 by omega)]
    rw [ih _ (absorb_ok _ _), List.drop_eq_getElem_cons hi, List.foldl_cons]

theorem bits_mask {x : Int} (h : 0 ≤ x) (h2 : x ≤ 9223372036854775807) : Vd.bits .and .i64 x 2147483647 = x % 2147483648 := by
  obtain ⟨n, rfl⟩ := Int.eq_ofNat_of_zero_le h
  have h1 : (BitVec.ofInt 64 ((n : Nat) : Int) &&& BitVec.ofInt 64 2147483647).toNat = n % 2147483648 := by
    rw [BitVec.toNat_and]
    have e1 : (BitVec.ofInt 64 ((n : Nat) : Int)).toNat = n % 2 ^ 64 := by simp
    have e2 : (BitVec.ofInt 64 2147483647).toNat = 2 ^ 31 - 1 := by decide
    rw [e1, e2, Nat.and_two_pow_sub_one_eq_mod]
    omega
  show IntKind.wrap .i64 (((BitVec.ofInt 64 ((n : Nat) : Int) &&& BitVec.ofInt 64 2147483647).toNat : Nat) : Int) = _
  rw [h1, i64_in _ (by omega)]
  omega

theorem shr_31 {x : Int} : Vd.shr .i64 x 31 = x / 2147483648 := by
  show x.fdiv (2 ^ (min (31 : Int).toNat 64)) = _
  rw [show ((2 : Int) ^ (min (31 : Int).toNat 64)) = 2147483648 by decide, fdiv_pos (by omega)]

theorem shl_31 {x : Int} : Vd.shl .i64 x 31 = IntKind.wrap .i64 (x * 2147483648) := by
  show IntKind.wrap .i64 (x * (2 ^ (min (31 : Int).toNat 64))) = _
  rw [show ((2 : Int) ^ (min (31 : Int).toNat 64)) = 2147483648 by decide]

theorem hash_eq {l : List Int} (hl : l.length < 2 ^ 30) (hx : ∀ x ∈ l, 0 ≤ x ∧ x ≤ 4611686018427387903) : M_I_hash l = some (digest l) := by
  unfold M_I_hash
  have hg31 : guardO (decide ((0 : Int) ≤ 31)) = some () := rfl
  have hg2 : guardO ((2147483647 : Int) != 0) = some () := rfl
  rw [guardO_of (lenOk_of (by simp; omega)), bindO_some', bindO_some']
  have hL : ∀ x ∈ ((l.length : Int) :: l), 0 ≤ x ∧ x ≤ 4611686018427387903 := fun x h => by
    rcases List.mem_cons.1 h with rfl | h
    · omega
    · exact hx x h
  have e : [((l.length : Nat) : Int)] ++ l = ((l.length : Int) :: l) := rfl
  rw [e]
  have hlen : ((l.length : Int) :: l).length = l.length + 1 := rfl
  generalize hLL : ((l.length : Int) :: l) = L at hL hlen
  refine (loopO_for (σ := Int × Int) (fun i s => (s.1, (s.2, (i : Int)))) L.length (fun i s => some (((L.drop i).foldl absorb s).1 * 2147483648 + ((L.drop i).foldl absorb s).2)) (fun _ s => HOk s) (fun again s hs => ?_) (fun again i s hi hs ih => ?_) (by omega) (i := 0) (s := (1, 2)) (Nat.zero_le _) ⟨by decide, by decide, by decide, by decide⟩).trans (by rw [← hLL]; rfl)
  · obtain ⟨h1, h2, h3, h4⟩ := hs
    simp only [lt_no, cond_false, List.drop_length, List.foldl_nil, bindO_some', hg31, shl_31]
    rw [i64_in (s.1 * 2147483648) (by omega), i64_in (s.1 * 2147483648 + s.2) (by omega)]
  · have hm := hL L[i] (List.getElem_mem hi)
    obtain ⟨h1, h2, h3, h4⟩ := hs
    have hb : 0 ≤ L[i] % 2147483648 ∧ L[i] % 2147483648 < 2147483648 := by omega
    have ha : 0 ≤ L[i] / 2147483648 ∧ L[i] / 2147483648 < 2147483648 := by omega
    have r1 := hstep_range 48271 s.1 (L[i] % 2147483648)
    have r2 := hstep_range 69621 s.2 (L[i] % 2147483648)
    simp only [lt_yes hi, cond_true, getI_nat, List.getElem?_eq_getElem hi, bindO_some', hg31, hg2, shr_31, bits_mask hm.1 (by omega), hstep_walk (.inl rfl) ⟨h1, h2⟩ hb, hstep_walk (.inr rfl) ⟨h3, h4⟩ hb,
      hstep_walk (.inl rfl) (⟨r1.1, by omega⟩ : 0 ≤ hstep 48271 s.1 (L[i] % 2147483648) ∧ _) ha, hstep_walk (.inr rfl) (⟨r2.1, by omega⟩ : 0 ≤ hstep 69621 s.2 (L[i] % 2147483648) ∧ _) ha, i64_succ (show i < 2 ^ 62 by omega)]
    rw [List.drop_eq_getElem_cons hi, List.foldl_cons, ← ih (absorb s L[i]) (absorb_ok _ _)]
    rfl

def lab (s : ByteArray) (l : List Int) : List Int := (s.size : Int) :: (ofStr s ++ l)

theorem ofStr_length (s : ByteArray) : (ofStr s).length = s.size := by
  unfold ofStr
  rw [List.length_map, Array.length_toList]
  rfl

theorem ofStr_get {s : ByteArray} {i : Nat} (h : i < s.size) : ∃ b : UInt8, s[i]? = some b ∧ (ofStr s)[i]? = some ((b.toNat : Nat) : Int) := by
  refine ⟨s[i], by simp [h], ?_⟩
  have h' : i < s.data.size := h
  simp only [ofStr, List.getElem?_map]
  rw [List.getElem?_eq_getElem (by simpa using h')]
  rfl

theorem ofStr_range {s : ByteArray} {x : Int} (h : x ∈ ofStr s) : 0 ≤ x ∧ x ≤ 255 := by
  simp only [ofStr, List.mem_map] at h
  obtain ⟨b, _, rfl⟩ := h
  have := b.toNat_lt
  omega

theorem label_loop {s : ByteArray} {l : List Int} (hs : s.size < 2 ^ 30) (hl : l.length < 2 ^ 30) : M_S_l3With (s, l) = some (lab s l) := by
  unfold M_S_l3With
  refine (loopO_for (σ := List Int) (fun i a => (a, (i : Int))) s.size (fun i a => some (lab s l)) (fun i a => a = (s.size : Int) :: (ofStr s).take i) (fun again a ha => ?_) (fun again i a hi ha ih => ?_) (by omega) (i := 0) (s := [(s.size : Int)]) (Nat.zero_le _) (by simp)).trans rfl
  · subst ha
    have ht : (ofStr s).take s.size = ofStr s := by rw [← ofStr_length, List.take_length]
    have hlen := ofStr_length s
    simp only [lt_no, cond_false, ht]
    rw [guardO_of (lenOk_of (by simp [hlen]; omega))]
    rfl
  · subst ha
    obtain ⟨b, h1, h2⟩ := ofStr_get hi
    have hb := b.toNat_lt
    have hlen := ofStr_length s
    simp only [lt_yes hi, cond_true, Int.toNat_natCast, h1]
    rw [if_pos (by omega)]
    simp only [bindO_some', i64_in ((b.toNat : Nat) : Int) (by omega), i64_succ (show i < 2 ^ 62 by omega)]
    rw [guardO_of (lenOk_of (by simp; omega)), bindO_some']
    refine ih _ ?_
    rw [List.take_add_one, h2]
    simp

theorem labelled_eq (x : ByteArray × List Int) : M_I_labelled x = M_S_l3With x := rfl

/-- What can be hashed. -/
def okD (l : List Int) : Bool := l.all fun n => decide (0 ≤ n ∧ n ≤ 4611686018427387903)

theorem okD_spec {l : List Int} (h : okD l = true) : ∀ x ∈ l, 0 ≤ x ∧ x ≤ 4611686018427387903 := fun x hx => by
  simpa using List.all_eq_true.1 h x hx

theorem lab_range {s : ByteArray} {l : List Int} (hs : s.size < 2 ^ 30) (h : okD l = true) : ∀ x ∈ lab s l, 0 ≤ x ∧ x ≤ 4611686018427387903 := fun x hx => by
  rcases List.mem_cons.1 hx with rfl | hx
  · omega
  · rcases List.mem_append.1 hx with hx | hx
    · have := ofStr_range hx
      omega
    · exact okD_spec h x hx

theorem lab_okD {s : ByteArray} {l : List Int} (hs : s.size < 2 ^ 30) : okD (lab s l) = okD l := by
  have h1 : ∀ x ∈ ofStr s, decide (0 ≤ x ∧ x ≤ 4611686018427387903) = true := fun x hx => by
    have := ofStr_range hx
    simp only [decide_eq_true_eq]
    omega
  unfold okD lab
  rw [List.all_cons, List.all_append, List.all_eq_true.2 h1]
  have : decide (0 ≤ ((s.size : Nat) : Int) ∧ ((s.size : Nat) : Int) ≤ 4611686018427387903) = true := by
    simp only [decide_eq_true_eq]
    omega
  rw [this]
  rfl

/-- What HashLabelled answers. -/
def hashL (s : ByteArray) (l : List Int) : Int × Bool := if s.size ≤ 40 ∧ okD l = true ∧ 1 + s.size + l.length ≤ 400 then (digest (lab s l), true) else (0, false)

theorem hLabelled_eq {s : ByteArray} {l : List Int} (hs : s.size < 2 ^ 30) (hl : l.length < 2 ^ 30) (h : okD l = true) : M_S_hLabelled (s, l) = some (digest (lab s l)) := by
  unfold M_S_hLabelled
  have hlen : (lab s l).length < 2 ^ 40 := by simp [lab, ofStr_length]; omega
  simp only [label_loop hs hl, bindO_some', hInts_eq hlen (lab_range hs h)]

theorem areDigests_eq {l : List Int} : M_I_areDigests l = some (decide (l.length ≤ 400) && okD l) := by
  unfold M_I_areDigests
  by_cases h : l.length ≤ 400
  · have e1 : decide (((l.length : Nat) : Int) ≤ 400) = true := by simp; omega
    rw [e1, cond_true, areAll_eq (p := fun n => decide (0 ≤ n ∧ n ≤ 4611686018427387903)) (by omega) fun a _ => by simp [M_I_isDigest, within_eq], bindO_some']
    simp [h, okD]
  · have e1 : decide (((l.length : Nat) : Int) ≤ 400) = false := by simp; omega
    simp [e1, h]

theorem I_HashInts_eq {l : List Int} : M_I_HashInts l = some (if l.length ≤ 400 ∧ okD l = true then (digest l, true) else (0, false)) := by
  unfold M_I_HashInts
  rw [areDigests_eq, bindO_some']
  by_cases h : l.length ≤ 400 ∧ okD l = true
  · rw [if_pos h, hash_eq (by omega) (okD_spec h.2)]
    simp [h.1, h.2]
  · rw [if_neg h]
    have : (decide (l.length ≤ 400) && okD l) = false := by
      rw [Bool.and_eq_false_iff, decide_eq_false_iff_not]
      by_cases h1 : l.length ≤ 400
      · right
        cases h2 : okD l
        · rfl
        · exact absurd ⟨h1, h2⟩ h
      · exact .inl h1
    rw [this]
    rfl

theorem I_HashLabelled_eq {s : ByteArray} {l : List Int} : M_I_HashLabelled (s, l) = some (hashL s l) := by
  unfold M_I_HashLabelled hashL
  by_cases h1 : s.size ≤ 40
  · by_cases h2 : l.length ≤ 400
    · have e1 : decide (((s.size : Nat) : Int) > 40) = false := by simp; omega
      have e2 : decide (((l.length : Nat) : Int) > 400) = false := by simp; omega
      simp only [e1, e2, cond_false]
      rw [labelled_eq, label_loop (by omega) (by omega), bindO_some', I_HashInts_eq, bindO_some', lab_okD (by omega)]
      have e3 : ((lab s l).length ≤ 400 ∧ okD l = true) ↔ (s.size ≤ 40 ∧ okD l = true ∧ 1 + s.size + l.length ≤ 400) := by
        simp only [lab, List.length_cons, List.length_append, ofStr_length]
        constructor
        · rintro ⟨a, b⟩; exact ⟨h1, b, by omega⟩
        · rintro ⟨a, b, c⟩; exact ⟨by omega, b⟩
      simp only [e3]
    · have e1 : decide (((s.size : Nat) : Int) > 40) = false := by simp; omega
      have e2 : decide (((l.length : Nat) : Int) > 400) = true := by simp; omega
      rw [if_neg (fun h => by omega)]
      simp only [e1, e2, cond_false, cond_true]
  · have e1 : decide (((s.size : Nat) : Int) > 40) = true := by simp; omega
    rw [if_neg (fun h => h1 h.1)]
    simp only [e1, cond_true]

theorem gInv_eq {p q g x : Int} (h : Gr p q g) (hx : 0 ≤ x) (hx2 : x ≤ p) : M_S_gInv ((p, q, g), x) = some (x ^ (q - 1).toNat % p) := by
  unfold M_S_gInv
  have := h.p3; have := h.pm; have := h.q2; have := h.qp
  dsimp only
  rw [i64_in (q - 1) (by omega), bindO_some', nPower_eq hx (by omega) (by omega) (by omega) (by omega) (by omega), bindO_some']

theorem Group_inv_eq {p q g x : Int} (h : Gr p q g) (hx : 0 ≤ x) (hx2 : x ≤ p) : M_I_Group_inv ((p, q, g), x) = some (x ^ (q - 1).toNat % p) := by
  unfold M_I_Group_inv
  have := h.q2
  have e : (-1 : Int) % q = q - 1 := by
    rw [Int.emod_def]
    have : (-1 : Int) / q = -1 := by
      rw [Int.ediv_eq_iff_of_pos (by omega)]
      omega
    rw [this]
    omega
  dsimp only
  rw [Group_pow_eq h hx hx2, bindO_some', e]

theorem inv_range {p q x : Int} (hp : 1 ≤ p) : 0 ≤ x ^ (q - 1).toNat % p ∧ x ^ (q - 1).toNat % p < p :=
  ⟨Int.emod_nonneg _ (by omega), Int.emod_lt_of_pos _ (by omega)⟩

theorem pow_range {p x : Int} {k : Nat} (hp : 1 ≤ p) : 0 ≤ x ^ k % p ∧ x ^ k % p < p :=
  ⟨Int.emod_nonneg _ (by omega), Int.emod_lt_of_pos _ (by omega)⟩

/-- Is a cipher one of elements? -/
def isCi (p q : Int) (c : Int × Int) : Bool := isEl p q c.1 && isEl p q c.2

theorem hasCipher_eq {p q g : Int} {c : Int × Int} (h : Gr p q g) : M_I_Group_hasCipher ((p, q, g), c) = some (isCi p q c) := by
  unfold M_I_Group_hasCipher isCi
  simp only [has_eq' h, bindO_some']
  cases isEl p q c.1 <;> simp

theorem eGood_eq {p q g : Int} {l : List (Int × Int)} (h : Gr p q g) : M_S_eGood ((p, q, g), l) = some (decide (l.length ≤ 24) && l.all (isCi p q)) := by
  unfold M_S_eGood
  by_cases hl : l.length ≤ 24
  · have e1 : decide (((l.length : Nat) : Int) > 24) = false := by simp; omega
    dsimp only
    rw [e1, cond_false]
    simp only [hl, decide_true, Bool.true_and]
    refine (loop_walk l (fun _ a k => if (isCi p q a) = true then k else some false) (some true) (fun again i a ha hi' => ?_) (fun again => ?_) (by omega)).trans (walk_all (isCi p q) l 0)
    · simp only [getI_nat, ha, bindO_some', i64_succ (show i < 2 ^ 62 by omega), lt_yes hi', cond_true, gIs_eq h (show [a.1, a.2].length < 2 ^ 62 by show (2 : Nat) < _; omega)]
      have : [a.1, a.2].all (isEl p q) = isCi p q a := by simp [isCi]
      rw [this]
      cases isCi p q a <;> rfl
    · simp
  · have e1 : decide (((l.length : Nat) : Int) > 24) = true := by simp; omega
    simp [e1, hl]

/-- a over b. -/
def over (p q a b : Int) : Int := prodM p 1 [a, b ^ (q - 1).toNat % p]

theorem mul2 {p q g a b : Int} (h : Gr p q g) (ha : 0 ≤ a ∧ a ≤ p) (hb : 0 ≤ b ∧ b ≤ p) : M_S_gMul ((p, q, g), [a, b]) = some (prodM p 1 [a, b]) := by
  have := h.p3; have := h.pm
  refine gMul_eq h (fun x hx => ?_) (by show (2 : Nat) < _; omega)
  simp only [List.mem_cons, List.not_mem_nil, or_false] at hx
  rcases hx with rfl | rfl <;> omega

theorem mul2' {p q g a b : Int} (h : Gr p q g) (ha : 0 ≤ a ∧ a ≤ p) (hb : 0 ≤ b ∧ b ≤ p) : M_I_Group_mul ((p, q, g), [a, b]) = some (prodM p 1 [a, b]) := by
  have := h.p3; have := h.pm
  refine Group_mul_eq h (fun x hx => ?_) (by show (2 : Nat) < _; omega)
  simp only [List.mem_cons, List.not_mem_nil, or_false] at hx
  rcases hx with rfl | rfl <;> omega

theorem prod_range {p : Int} {l : List Int} (hp : 2 ≤ p) : 0 ≤ prodM p 1 l ∧ prodM p 1 l < p := prodM_range (by omega) l 1 (by omega) (.inl (by omega))

theorem toGroup_eq (x : Int × Int × Int) : M_L_toGroup x = some x := rfl

theorem toCipher_eq (x : Int × Int) : M_L_toCipher x = some x := rfl

theorem set_take_succ {α : Type} {x s : List α} {i : Nat} {a : α} (hx : x[i]? = some a) (hs : s.length = x.length) (ht : s.take i = x.take i) : (s.set i a).take (i + 1) = x.take (i + 1) := by
  have hi : i < x.length := (List.getElem?_eq_some_iff.1 hx).1
  rw [List.take_add_one, List.take_add_one, hx, List.take_set, List.getElem?_set_self (by omega), ← ht]
  congr 1
  rw [List.set_eq_of_length_le (by rw [List.length_take]; omega)]

/-- A list is written anew, element by element. -/
theorem copy_loop {α : Type} (x : List α) (z : α) {body : (Int × List α → Option (List α)) → Int × List α → Option (List α)}
    (h : ∀ (again : Int × List α → Option (List α)) (i : Nat) a (s : List α), x[i]? = some a → i < x.length → s.length = x.length → body again ((i : Int), s) = again (((i + 1 : Nat) : Int), s.set i a))
    (hend : ∀ (again : Int × List α → Option (List α)) (s : List α), s.length = x.length → body again ((x.length : Int), s) = some s) (hl : x.length < 2 ^ 62) : loopO body (0, List.replicate x.length z) = some x := by
  refine (loopO_for (σ := List α) (fun i s => ((i : Int), s)) x.length (fun i s => some x) (fun i s => s.length = x.length ∧ s.take i = x.take i) (fun again s hs => ?_) (fun again i s hi hs ih => ?_) (by omega) (i := 0) (s := List.replicate x.length z) (Nat.zero_le _) (by simp)).trans rfl
  · rw [hend again s hs.1]
    have := hs.2
    rw [List.take_length, ← hs.1, List.take_length] at this
    rw [this]
  · have ha := List.getElem?_eq_getElem hi
    rw [h again i x[i] s ha hi hs.1]
    exact ih _ ⟨by simp [hs.1], set_take_succ ha hs.1 hs.2⟩

/-- Two lists are compared, element by element. -/
theorem eq_loop {α : Type} [DecidableEq α] (a b : List α) (hab : a.length = b.length) {body : (Int → Option Bool) → Int → Option Bool}
    (h : ∀ (again : Int → Option Bool) (i : Nat) x y, a[i]? = some x → b[i]? = some y → i < a.length → body again (i : Int) = if x = y then again ((i + 1 : Nat) : Int) else some false)
    (hend : ∀ (again : Int → Option Bool), body again (a.length : Int) = some true) (hl : a.length < 2 ^ 62) : loopO body 0 = some (decide (a = b)) := by
  refine (loopO_for (σ := Unit) (fun i _ => (i : Int)) a.length (fun i _ => some (decide (a.drop i = b.drop i))) (fun _ _ => True) (fun again _ _ => ?_) (fun again i _ hi _ ih => ?_) (by omega) (i := 0) (s := ()) (Nat.zero_le _) trivial).trans (by simp)
  · rw [hend]; simp [hab]
  · have hi' : i < b.length := by omega
    rw [h again i a[i] b[i] (List.getElem?_eq_getElem hi) (List.getElem?_eq_getElem hi') hi, ih () trivial, List.drop_eq_getElem_cons hi, List.drop_eq_getElem_cons hi']
    by_cases he : a[i] = b[i] <;> simp [he, -List.getElem_cons_drop]

theorem szIntS_eq {a : List Int} {left : Int} (h0 : 0 ≤ left) (h1 : left ≤ 1048576) (hl : a.length < 2 ^ 63) : M_L_szIntS (a, left) = some (if left < a.length then -1 else left - a.length) := by
  unfold M_L_szIntS
  simp only [i64_in (left - (a.length : Int)) (by omega), bindO_some']
  by_cases h : left < a.length
  · rw [if_pos h]
    have : left - (a.length : Int) < 0 := by omega
    simp [this]
  · rw [if_neg h]
    have : ¬ left - (a.length : Int) < 0 := by omega
    simp [this]

theorem all_not_any {α : Type} {p q : α → Bool} {l : List α} (h : ∀ a ∈ l, q a = !p a) : l.all p = !l.any q := by
  induction l with
  | nil => rfl
  | cons a l ih =>
    rw [List.all_cons, List.any_cons, ih fun b hb => h b (List.mem_cons_of_mem _ hb), h a (List.mem_cons_self ..)]
    cases p a <;> simp

/-- A list is put together, element by element. -/
theorem append_loop {α β : Type} (y : List α) (fin : List α → Option β) {body : (List α × Int → Option β) → List α × Int → Option β}
    (h : ∀ (again : List α × Int → Option β) (i : Nat) a (s : List α), y[i]? = some a → i < y.length → s.length = i → body again (s, (i : Int)) = again (s ++ [a], ((i + 1 : Nat) : Int)))
    (hend : ∀ (again : List α × Int → Option β) (s : List α), s.length = y.length → body again (s, (y.length : Int)) = fin s) (hl : y.length < 2 ^ 62) : loopO body ([], 0) = fin y := by
  refine (loopO_for (σ := List α) (fun i s => (s, (i : Int))) y.length (fun i s => fin y) (fun i s => s = y.take i) (fun again s hs => ?_) (fun again i s hi hs ih => ?_) (by omega) (i := 0) (s := []) (Nat.zero_le _) (by simp)).trans rfl
  · subst hs
    rw [List.take_length]
    exact hend again y rfl
  · subst hs
    have ha := List.getElem?_eq_getElem hi
    rw [h again i y[i] _ ha hi (by simp; omega)]
    refine ih _ ?_
    rw [List.take_add_one, ha]
    rfl

def pw (p q x e : Int) : Int := x ^ (e % q).toNat % p

theorem pw_range {p q x e : Int} (hp : 1 ≤ p) : 0 ≤ pw p q x e ∧ pw p q x e < p := pow_range hp

theorem gExp_pw {p q g x e : Int} (h : Gr p q g) (hx : 0 ≤ x) (hx2 : x ≤ p) : M_S_gExp ((p, q, g), x, e) = some (pw p q x e) := gExp_eq h hx hx2

theorem pow_pw {p q g x e : Int} (h : Gr p q g) (hx : 0 ≤ x) (hx2 : x ≤ p) : M_I_Group_pow ((p, q, g), x, e) = some (pw p q x e) := Group_pow_eq h hx hx2

def inv (p q x : Int) : Int := x ^ (q - 1).toNat % p

/-- Decryption. -/
def dec (p q s : Int) (c : Int × Int) : Int := prodM p 1 [c.2, inv p q (pw p q c.1 s)]

theorem dec_range {p q s : Int} {c : Int × Int} (hp : 2 ≤ p) : 0 ≤ dec p q s c ∧ dec p q s c < p := prod_range hp

theorem eDec_eq {p q g s : Int} {c : Int × Int} (h : Gr p q g) (hc : isCi p q c = true) : M_S_eDec ((p, q, g), s, c) = some (dec p q s c) := by
  unfold M_S_eDec dec
  have := h.p3
  simp only [isCi, Bool.and_eq_true] at hc
  have a1 := isEl_range hc.1; have a2 := isEl_range hc.2
  have r1 := pw_range (q := q) (x := c.1) (e := s) (show 1 ≤ p by omega)
  have r2 := inv_range (q := q) (x := pw p q c.1 s) (show 1 ≤ p by omega)
  simp only [gExp_pw h (show 0 ≤ c.1 by omega) (by omega), bindO_some', gInv_eq h r1.1 (by omega), mul2 h (show 0 ≤ c.2 ∧ c.2 ≤ p by omega) (⟨r2.1, by omega⟩ : 0 ≤ pw p q c.1 s ^ (q - 1).toNat % p ∧ _ ≤ p)]
  rfl

theorem decrypt_eq {p q g s : Int} {c : Int × Int} (h : Gr p q g) (hc : isCi p q c = true) : M_I_Group_decrypt ((p, q, g), s, c) = some (dec p q s c) := by
  unfold M_I_Group_decrypt dec
  have := h.p3
  simp only [isCi, Bool.and_eq_true] at hc
  have a1 := isEl_range hc.1; have a2 := isEl_range hc.2
  have r1 := pw_range (q := q) (x := c.1) (e := s) (show 1 ≤ p by omega)
  have r2 := inv_range (q := q) (x := pw p q c.1 s) (show 1 ≤ p by omega)
  simp only [pow_pw h (show 0 ≤ c.1 by omega) (by omega), bindO_some', Group_inv_eq h r1.1 (by omega), mul2' h (show 0 ≤ c.2 ∧ c.2 ≤ p by omega) (⟨r2.1, by omega⟩ : 0 ≤ pw p q c.1 s ^ (q - 1).toNat % p ∧ _ ≤ p)]
  rfl

theorem containsFuncC_eq {l : List (Int × Int)} {f : Int × Int → Option Bool} {p : Int × Int → Bool} (hl : l.length < 2 ^ 62) (hf : ∀ a ∈ l, f a = some (p a)) : M_slices_ContainsFunc_sI_Cipher_I_Cipher (l, f) = some (l.any p) := by
  obtain ⟨j, h1, h2⟩ := walk_index_mem p f l 0 hf
  unfold M_slices_ContainsFunc_sI_Cipher_I_Cipher
  have : M_slices_IndexFunc_sI_Cipher_I_Cipher (l, f) = some j := by
    unfold M_slices_IndexFunc_sI_Cipher_I_Cipher
    refine (loop_walk l _ _ (fun again i a ha hi => ?_) (fun again => ?_) (by omega)).trans h1
    · simp only [getI_nat, ha, bindO_some', i64_succ (show i < 2 ^ 62 by omega), lt_yes hi, cond_true]
    · simp
  dsimp only
  rw [this, bindO_some', h2]

theorem hasCiphers_eq {p q g : Int} {l : List (Int × Int)} (h : Gr p q g) (hl : l.length < 2 ^ 62) : M_I_Group_hasCiphers ((p, q, g), l) = some (decide (l.length ≤ 24) && l.all (isCi p q)) := by
  unfold M_I_Group_hasCiphers
  have e : decide (((l.length : Nat) : Int) ≤ 24) = decide (l.length ≤ 24) := by rw [decide_eq_decide]; omega
  dsimp only
  rw [e, containsFuncC_eq (p := fun c => !isCi p q c) hl fun a _ => ?_, bindO_some', all_not_any fun _ _ => rfl]
  · cases decide (l.length ≤ 24) <;> rfl
  · unfold M_I_Group_hasCiphers_1
    dsimp only
    rw [hasCipher_eq h]
    rfl

theorem areExps_eq {p q g : Int} {l : List Int} (h : Gr p q g) (hl : l.length < 2 ^ 62) : M_I_Group_areExps ((p, q, g), l) = some (l.all fun e => decide (0 ≤ e ∧ e ≤ q - 1)) := by
  unfold M_I_Group_areExps
  dsimp only
  rw [areAll_eq (p := fun e => decide (0 ≤ e ∧ e ≤ q - 1)) hl fun a _ => by rw [isExp_eq h]; rfl]
  rfl

theorem szCipherS_eq {a : List (Int × Int)} {left : Int} (h0 : 0 ≤ left) (h1 : left ≤ 1048576) (hl : a.length < 2 ^ 63) : M_L_szCipherS (a, left) = some (if left < a.length then -1 else left - a.length) := by
  unfold M_L_szCipherS
  simp only [i64_in (left - (a.length : Int)) (by omega), bindO_some']
  by_cases h : left < a.length
  · rw [if_pos h]
    have : left - (a.length : Int) < 0 := by omega
    simp [this]
  · rw [if_neg h]
    have : ¬ left - (a.length : Int) < 0 := by omega
    simp [this]

theorem toCipherS_eq {x : List (Int × Int)} (h : x.length ≤ 1048576) : M_L_toCipherS x = some x := by
  unfold M_L_toCipherS
  have hx : (x.length : Int) ≤ ((lim : Nat) : Int) := by rw [lim_eq]; omega
  rw [guardO_of (by simpa using hx), bindO_some', Int.toNat_natCast]
  refine copy_loop x (0, 0) (fun again i a s ha hi hs => ?_) (fun again s hs => ?_) (by omega)
  · have hsi := List.getElem?_eq_getElem (l := s) (show i < s.length by omega)
    simp only [lt_yes hi, cond_true, getI_nat, ha, hsi, bindO_some', toCipher_eq, Int.toNat_natCast, i64_succ (show i < 2 ^ 62 by omega)]
  · simp

theorem eqCipher_eq (a b : Int × Int) : M_L_eqCipher (a, b) = some (decide (a = b)) := by
  obtain ⟨a1, a2⟩ := a
  obtain ⟨b1, b2⟩ := b
  unfold M_L_eqCipher
  by_cases h1 : a1 = b1 <;> by_cases h2 : a2 = b2 <;> simp [h1, h2, bne_dec]

theorem eqCipherS_eq {a b : List (Int × Int)} (h : a.length < 2 ^ 62) : M_L_eqCipherS (a, b) = some (decide (a = b)) := by
  unfold M_L_eqCipherS
  by_cases hl : a.length = b.length
  · have e1 : ((a.length : Int) != (b.length : Int)) = false := by simp [hl]
    dsimp only
    rw [e1, cond_false]
    refine eq_loop a b hl (fun again i x y hx hy hi => ?_) (fun again => by simp) h
    simp only [lt_yes hi, cond_true, getI_nat, hx, hy, bindO_some', eqCipher_eq, i64_succ (show i < 2 ^ 62 by omega)]
    by_cases he : x = y <;> simp [he]
  · have e1 : ((a.length : Int) != (b.length : Int)) = true := by simp; omega
    dsimp only
    rw [e1, cond_true]
    congr 1
    symm
    simp only [decide_eq_false_iff_not]
    rintro rfl
    exact hl rfl

def marksC (n : Nat) (k : Int) : List (Int × Int) := (List.range n).map fun (i : Nat) => (k + 2 * (i : Int), k + 2 * (i : Int) + 1)

theorem marksC_length (n : Nat) (k : Int) : (marksC n k).length = n := by simp [marksC]

theorem markCipherS_eq {a : List (Int × Int)} {k : Int} (h : a.length < 2 ^ 40) (h0 : 0 ≤ k) (h1 : k < 2 ^ 40) : M_L_markCipherS (a, k) = some (k + 2 * a.length, marksC a.length k) := by
  unfold M_L_markCipherS
  refine (loopO_for (σ := Int × List (Int × Int)) (fun i s => (s.1, ((i : Int), s.2))) a.length (fun i s => some (k + 2 * a.length, marksC a.length k)) (fun i s => s.1 = k + 2 * i ∧ s.2 = marksC i k ++ a.drop i) (fun again s hs => ?_) (fun again i s hi hs ih => ?_) (by omega) (i := 0) (s := (k, a)) (Nat.zero_le _) (by simp [marksC])).trans rfl
  · obtain ⟨s1, s2⟩ := s
    obtain ⟨rfl, rfl⟩ := hs
    simp [marksC_length]
  · obtain ⟨s1, s2⟩ := s
    obtain ⟨rfl, rfl⟩ := hs
    have h2 : (marksC i k ++ a.drop i)[i]? = some a[i] := by
      rw [List.getElem?_append_right (by simp [marksC_length])]
      simp [marksC_length, hi]
    have hlen : (marksC i k ++ a.drop i).length = a.length := by simp [marksC_length]; omega
    have h3 : ((marksC i k ++ a.drop i).set i (k + 2 * (i : Int), a[i].2))[i]? = some (k + 2 * (i : Int), a[i].2) := List.getElem?_set_self (by omega)
    have h4 : ((marksC i k ++ a.drop i).set i (k + 2 * (i : Int), a[i].2)).set i (k + 2 * (i : Int), k + 2 * (i : Int) + 1) = marksC (i + 1) k ++ a.drop (i + 1) := by
      rw [List.set_set, List.set_append_right _ _ (by simp [marksC_length]), marksC_length, Nat.sub_self, List.drop_eq_getElem_cons hi, List.set_cons_zero]
      simp [marksC, List.range_succ]
    simp only [getI_nat, h2, bindO_some', Int.toNat_natCast, i64_succ (show i < 2 ^ 62 by omega), hlen, lt_yes hi, cond_true, h3]
    rw [i64_in (k + 2 * (i : Int) + 1) (by omega), i64_in (k + 2 * (i : Int) + 1 + 1) (by omega), h4]
    exact ih (k + 2 * (i : Int) + 1 + 1, marksC (i + 1) k ++ a.drop (i + 1)) ⟨by simp; omega, rfl⟩

def small (q : Int) (l : List Int) (i : Nat) : Int := 1 + digest (lab (bytesOf [115, 109, 97, 108, 108]) (l ++ [(i : Int)])) % (if 65535 < q - 1 then 65535 else q - 1)

/-- The challenge of a proof. -/
def chal (p q g : Int) (s : ByteArray) (l : List Int) : Int := digest (lab s ([p, q, g] ++ l)) % q

theorem okD_gr {p q g : Int} (h : Gr p q g) {l : List Int} (hl : okD l = true) : okD ([p, q, g] ++ l) = true := by
  have := h.p3; have := h.pm; have := h.q2; have := h.qp; have := h.g2; have := h.gp
  unfold okD at hl ⊢
  rw [List.all_append, hl]
  simp
  omega

theorem hChallenge_eq {p q g : Int} {s : ByteArray} {l : List Int} (h : Gr p q g) (hs : s.size < 2 ^ 30) (hl : okD l = true) (hn : l.length < 2 ^ 20) : M_S_hChallenge ((p, q, g), s, l) = some (chal p q g s l) := by
  unfold M_S_hChallenge
  have := h.q2
  have hr := digest_range (lab s ([p, q, g] ++ l))
  dsimp only
  rw [guardO_of (lenOk_of (by simp; omega)), bindO_some', bindO_some', hLabelled_eq hs (by simp; omega) (okD_gr h hl), bindO_some', guardO_of (by simp; omega), bindO_some', bindO_some', tmod_nn hr.1]
  rfl

theorem challenge_eq {p q g : Int} {s : ByteArray} {l : List Int} (h : Gr p q g) (hs : s.size ≤ 40) (hl : okD l = true) (hn : s.size + l.length ≤ 396) : M_I_Group_challenge ((p, q, g), s, l) = some (chal p q g s l, true) := by
  unfold M_I_Group_challenge
  have := h.q2
  have hr := digest_range (lab s ([p, q, g] ++ l))
  dsimp only
  rw [guardO_of (lenOk_of (by simp; omega)), bindO_some', bindO_some', I_HashLabelled_eq, hashL, if_pos ⟨hs, okD_gr h hl, by simp; omega⟩, bindO_some']
  simp only [Bool.not_true, cond_false]
  rw [guardO_of (by simp; omega), bindO_some', bindO_some', tmod_nn hr.1]
  rfl

abbrev Pf := List Int × List Int × List Int

def Pf.small (a : Pf) (n : Nat) : Prop := a.1.length ≤ n ∧ a.2.1.length ≤ n ∧ a.2.2.length ≤ n

theorem eqProof_eq {a b : Pf} (h : a.small (2 ^ 40)) : M_L_eqProof (a, b) = some (decide (a = b)) := by
  obtain ⟨a1, a2, a3⟩ := a
  obtain ⟨b1, b2, b3⟩ := b
  obtain ⟨h1, h2, h3⟩ := h
  dsimp only at h1 h2 h3
  unfold M_L_eqProof
  dsimp only
  rw [eqIntS_eq (by omega), bindO_some', eqIntS_eq (by omega), eqIntS_eq (by omega)]
  by_cases e1 : a1 = b1 <;> by_cases e2 : a2 = b2 <;> by_cases e3 : a3 = b3 <;> simp [e1, e2, e3]

abbrev Ca := (Int × Int) × (Int × Int) × Pf

theorem eqCast_eq {a b : Ca} (h : a.2.2.small (2 ^ 40)) : M_L_eqCast (a, b) = some (decide (a = b)) := by
  obtain ⟨⟨a1, a2⟩, ⟨a3, a4⟩, a5⟩ := a
  obtain ⟨⟨b1, b2⟩, ⟨b3, b4⟩, b5⟩ := b
  unfold M_L_eqCast
  dsimp only at h ⊢
  rw [eqCipher_eq, bindO_some', eqCipher_eq, eqProof_eq (a := (a5.1, a5.2.1, a5.2.2)) h]
  by_cases f1 : a1 = b1 <;> by_cases f2 : a2 = b2 <;> by_cases f3 : a3 = b3 <;> by_cases f4 : a4 = b4 <;> by_cases e3 : a5 = b5 <;> simp [f1, f2, f3, f4, e3]

theorem toProof_eq {a : Pf} (h : a.small 1048576) : M_L_toProof a = some a := by
  obtain ⟨a1, a2, a3⟩ := a
  obtain ⟨g1, g2, g3⟩ := h
  dsimp only at g1 g2 g3
  unfold M_L_toProof
  dsimp only
  rw [toIntS_eq g1, bindO_some', toIntS_eq g2, bindO_some', toIntS_eq g3, bindO_some']

theorem toCast_eq {a : Ca} (h : a.2.2.small 1048576) : M_L_toCast a = some a := by
  unfold M_L_toCast
  rw [toCipher_eq, bindO_some', toCipher_eq, bindO_some', toProof_eq (a := (a.2.2.1, a.2.2.2.1, a.2.2.2.2)) h, bindO_some']

theorem szProof_eq {a : Pf} {left : Int} (h0 : 0 ≤ left) (h1 : left ≤ 1048576) (hl : a.small (2 ^ 63 - 1)) : ∃ k, M_L_szProof (a, left) = some k ∧ k ≤ left ∧ (0 ≤ k → k = left - (a.1.length + a.2.1.length + a.2.2.length)) := by
  obtain ⟨a1, a2, a3⟩ := a
  obtain ⟨g1, g2, g3⟩ := hl
  dsimp only at g1 g2 g3 ⊢
  unfold M_L_szProof
  dsimp only
  rw [szIntS_eq h0 h1 (by omega), bindO_some']
  by_cases e1 : left < a1.length
  · rw [if_pos e1]
    exact ⟨-1, rfl, by omega, by omega⟩
  · rw [if_neg e1]
    have d1 : decide (left - (a1.length : Int) < 0) = false := by simp; omega
    rw [d1, cond_false, szIntS_eq (by omega) (by omega) (by omega), bindO_some']
    by_cases e2 : left - a1.length < a2.length
    · rw [if_pos e2]
      exact ⟨-1, rfl, by omega, by omega⟩
    · rw [if_neg e2]
      have d2 : decide (left - (a1.length : Int) - a2.length < 0) = false := by simp; omega
      rw [d2, cond_false, szIntS_eq (by omega) (by omega) (by omega), bindO_some']
      by_cases e3 : left - a1.length - a2.length < a3.length
      · rw [if_pos e3]
        exact ⟨-1, rfl, by omega, by omega⟩
      · rw [if_neg e3]
        have d3 : decide (left - (a1.length : Int) - a2.length - a3.length < 0) = false := by simp; omega
        rw [d3, cond_false]
        exact ⟨_, rfl, by omega, by omega⟩

theorem szCast_eq {a : Ca} {left : Int} (h0 : 0 ≤ left) (h1 : left ≤ 1048576) (hl : a.2.2.small (2 ^ 63 - 1)) : ∃ k, M_L_szCast (a, left) = some k ∧ k ≤ left ∧ (0 ≤ k → k = left - (a.2.2.1.length + a.2.2.2.1.length + a.2.2.2.2.length)) := by
  obtain ⟨k, e1, e2, e3⟩ := szProof_eq (a := (a.2.2.1, a.2.2.2.1, a.2.2.2.2)) h0 h1 hl
  unfold M_L_szCast
  dsimp only
  rw [e1, bindO_some']
  by_cases hk : k < 0
  · have d : decide (k < 0) = true := by simpa using hk
    rw [d]
    exact ⟨-1, rfl, by omega, by omega⟩
  · have d : decide (k < 0) = false := by simpa using hk
    rw [d]
    exact ⟨k, rfl, e2, e3⟩

def castL (c v : Int × Int) (m : List Int) : List Int := [c.1, c.2, v.1, v.2] ++ m

def castC (p q g : Int) (c v : Int × Int) (m : List Int) : Int := chal p q g (bytesOf [99, 97, 115, 116]) (castL c v m)

def okC (c : Int × Int) : Prop := (0 ≤ c.1 ∧ c.1 ≤ 2000000000) ∧ 0 ≤ c.2 ∧ c.2 ≤ 2000000000

theorem castL_ok {c v : Int × Int} {m : List Int} (hc : okC c) (hv : okC v) (hm : okD m = true) : okD (castL c v m) = true := by
  unfold okC at hc hv
  unfold castL
  unfold okD at hm ⊢
  rw [List.all_append, hm]
  simp
  omega

theorem dChallenge_eq {p q g : Int} {c v : Int × Int} {m : List Int} {r : List Int × List Int} (h : Gr p q g) (hc : okC c) (hv : okC v) (hm : okD m = true) (hn : m.length ≤ 300) : M_S_dChallenge ((p, q, g), c, v, m, r) = some (castC p q g c v m) := by
  unfold M_S_dChallenge
  dsimp only
  rw [guardO_of (lenOk_of (by simp; omega)), bindO_some', bindO_some']
  have := hChallenge_eq (s := bytesOf [99, 97, 115, 116]) (l := castL c v m) h (by show (4 : Nat) < _; omega) (castL_ok hc hv hm) (by simp [castL]; omega)
  exact (congrArg (fun o => bindO o fun a => some a) this).trans rfl

theorem castChallenge_eq {p q g : Int} {c v : Int × Int} {m : List Int} {r : List Int × List Int × List Int} (h : Gr p q g) (hc : okC c) (hv : okC v) (hm : okD m = true) (hn : m.length ≤ 300) : M_I_Group_castChallenge ((p, q, g), (c, v, r), m) = some (castC p q g c v m) := by
  unfold M_I_Group_castChallenge
  dsimp only
  rw [guardO_of (lenOk_of (by simp; omega)), bindO_some', bindO_some']
  have := challenge_eq (s := bytesOf [99, 97, 115, 116]) (l := castL c v m) h (by show (4 : Nat) ≤ _; omega) (castL_ok hc hv hm) (by show 4 + (castL c v m).length ≤ _; simp [castL]; omega)
  exact (congrArg (fun o => bindO o fun a => some a.1) this).trans rfl

theorem isEl_okC {p q g : Int} (h : Gr p q g) {c : Int × Int} (hc : isCi p q c = true) : okC c := by
  have := h.pm
  simp only [isCi, Bool.and_eq_true] at hc
  have h1 := isEl_range hc.1
  have h2 := isEl_range hc.2
  exact ⟨⟨by omega, by omega⟩, by omega, by omega⟩

theorem hasAll_eq {p q g : Int} {l : List Int} (h : Gr p q g) (hl : l.length < 2 ^ 62) : M_I_Group_hasAll ((p, q, g), l) = some (l.all (isEl p q)) := by
  unfold M_I_Group_hasAll
  dsimp only
  rw [areAll_eq (p := isEl p q) hl fun a _ => by rw [has_eq' h]; rfl]
  rfl

theorem okD_el {p q g : Int} (h : Gr p q g) {l : List Int} (hl : l.all (isEl p q) = true) : okD l = true := by
  have := h.pm
  refine List.all_eq_true.2 fun x hx => ?_
  have := isEl_range (List.all_eq_true.1 hl x hx)
  rw [decide_eq_true_eq]
  omega

theorem cast_verdict {p q g : Int} {c v : Int × Int} {m ch rs : List Int} (h : Gr p q g) (hc : isCi p q (c.1, c.2) = true) (hv : isCi p q (v.1, v.2) = true) (n1 : m.length ≤ 1048576) (n2 : ch.length ≤ 1048576) (n3 : rs.length ≤ 1048576) :
    ∃ r, M_S_dVerify ((p, q, g), c, v, m, ch, rs) = some r ∧ M_I_Group_isCast ((p, q, g), c, v, m, ch, rs) = some r := by
  have := h.p3; have := h.pm; have := h.g2; have := h.gp; have := h.q2; have := h.qp
  unfold M_S_dVerify M_I_Group_isCast
  dsimp only
  by_cases l1 : m.length = 2
  · by_cases l2 : ch.length = 1
    · by_cases l3 : rs.length = 2
      · have d1 : (((m.length : Nat) : Int) != 2) = false := by simp; omega
        have d2 : (((ch.length : Nat) : Int) != 1) = false := by simp; omega
        have d3 : (((rs.length : Nat) : Int) != 2) = false := by simp; omega
        rw [d1, d2, d3]
        simp only [cond_false]
        rw [gIs_eq h (by omega), hasAll_eq h (by omega), gExps_eq h (by omega), areExps_eq h (by omega), bindO_some', bindO_some']
        cases hm : m.all (isEl p q) with
        | false => exact ⟨false, rfl, rfl⟩
        | true =>
          simp only [Bool.not_true, cond_false, bindO_some']
          cases hr : (rs.all fun e => decide (0 ≤ e ∧ e ≤ q - 1)) with
          | false => exact ⟨false, rfl, rfl⟩
          | true =>
            simp only [Bool.not_true, cond_false]
            obtain ⟨m0, m1, rfl⟩ : ∃ a b, m = [a, b] := by
              match m, l1 with
              | [a, b], _ => exact ⟨a, b, rfl⟩
            obtain ⟨r0, r1, rfl⟩ : ∃ a b, rs = [a, b] := by
              match rs, l3 with
              | [a, b], _ => exact ⟨a, b, rfl⟩
            obtain ⟨z, rfl⟩ : ∃ a, ch = [a] := by
              match ch, l2 with
              | [a], _ => exact ⟨a, rfl⟩
            have hch := dChallenge_eq (m := [m0, m1]) (r := ([z], [r0, r1])) h (isEl_okC h hc) (isEl_okC h hv) (okD_el h hm) (by show (2 : Nat) ≤ _; omega)
            have hci := castChallenge_eq (m := [m0, m1]) (r := ([m0, m1], [z], [r0, r1])) h (isEl_okC h hc) (isEl_okC h hv) (okD_el h hm) (by show (2 : Nat) ≤ _; omega)
            rw [hch, hci, show getI [z] 0 = some z from rfl, bindO_some', bindO_some', bindO_some', bindO_some']
            by_cases hz : z = castC p q g (c.1, c.2) (v.1, v.2) [m0, m1]
            · have b1 : (z != castC p q g (c.1, c.2) (v.1, v.2) [m0, m1]) = false := by simpa using hz
              have b2 : (z == castC p q g (c.1, c.2) (v.1, v.2) [m0, m1]) = true := by simpa using hz
              rw [b1, b2, cond_false, cond_true]
              rw [← hz]
              simp only [isCi, Bool.and_eq_true] at hc hv
              simp only [List.all_cons, List.all_nil, Bool.and_true, Bool.and_eq_true] at hm
              have c1 := isEl_range hc.1
              have v1 := isEl_range hv.1
              have k0 := isEl_range hm.1
              have k1 := isEl_range hm.2
              have w1 := pw_range (q := q) (x := c.1) (e := z) (show 1 ≤ p by omega)
              have w2 := pw_range (q := q) (x := v.1) (e := z) (show 1 ≤ p by omega)
              refine ⟨decide (pw p q g r0 = prodM p 1 [m0, pw p q c.1 z]) && decide (pw p q g r1 = prodM p 1 [m1, pw p q v.1 z]), ?_, ?_⟩
              · refine (loop_walk [c.1, v.1] (fun i a k => bif i == 0 then (bif decide (pw p q g r0 = prodM p 1 [m0, pw p q c.1 z]) then k else some false) else (bif decide (pw p q g r1 = prodM p 1 [m1, pw p q v.1 z]) then k else some false)) (some true) (fun again i a ha hi => ?_) (fun again => ?_) (by show (2 : Nat) < _; omega)).trans ?_
                · have hi2 : i < 2 := hi
                  simp only [lt_yes hi, cond_true, getI_nat, ha, bindO_some']
                  rw [i64_succ (by omega)]
                  match i, hi, ha with
                  | 0, _, ha =>
                    cases ha
                    simp only [List.getElem?_cons_zero, bindO_some', gExp_pw h (show 0 ≤ g by omega) (show g ≤ p by omega), gExp_pw h (show 0 ≤ c.1 by omega) (show c.1 ≤ p by omega), mul2 h (show 0 ≤ m0 ∧ m0 ≤ p by omega) (show 0 ≤ pw p q c.1 z ∧ pw p q c.1 z ≤ p by omega), bne_dec]
                    by_cases e : pw p q g r0 = prodM p 1 [m0, pw p q c.1 z] <;> simp [e]
                  | 1, _, ha =>
                    cases ha
                    simp only [List.getElem?_cons_succ, List.getElem?_cons_zero, bindO_some', gExp_pw h (show 0 ≤ g by omega) (show g ≤ p by omega), gExp_pw h (show 0 ≤ v.1 by omega) (show v.1 ≤ p by omega), mul2 h (show 0 ≤ m1 ∧ m1 ≤ p by omega) (show 0 ≤ pw p q v.1 z ∧ pw p q v.1 z ≤ p by omega), bne_dec]
                    by_cases e : pw p q g r1 = prodM p 1 [m1, pw p q v.1 z] <;> simp [e]
                · simp only [lt_no, cond_false]
                · by_cases e : pw p q g r0 = prodM p 1 [m0, pw p q c.1 z] <;> by_cases e' : pw p q g r1 = prodM p 1 [m1, pw p q v.1 z] <;> simp [walk, e, e']
              · rw [show getI [r0, r1] 0 = some r0 from rfl, show getI [r0, r1] 1 = some r1 from rfl, show getI [m0, m1] 0 = some m0 from rfl, show getI [m0, m1] 1 = some m1 from rfl]
                simp only [bindO_some', pow_pw h (show 0 ≤ g by omega) (show g ≤ p by omega), pow_pw h (show 0 ≤ c.1 by omega) (show c.1 ≤ p by omega), pow_pw h (show 0 ≤ v.1 by omega) (show v.1 ≤ p by omega), mul2' h (show 0 ≤ m0 ∧ m0 ≤ p by omega) (show 0 ≤ pw p q c.1 z ∧ pw p q c.1 z ≤ p by omega), mul2' h (show 0 ≤ m1 ∧ m1 ≤ p by omega) (show 0 ≤ pw p q v.1 z ∧ pw p q v.1 z ≤ p by omega)]
                simp only [show ∀ a b : Int, (a == b) = decide (a = b) from fun _ _ => rfl]
                by_cases e : pw p q g r0 = prodM p 1 [m0, pw p q c.1 z] <;> by_cases e' : pw p q g r1 = prodM p 1 [m1, pw p q v.1 z] <;> simp [e, e']
            · have b1 : (z != castC p q g (c.1, c.2) (v.1, v.2) [m0, m1]) = true := by simpa using hz
              have b2 : (z == castC p q g (c.1, c.2) (v.1, v.2) [m0, m1]) = false := by simpa using hz
              rw [b1, b2]
              exact ⟨false, rfl, rfl⟩
      · have d3 : (((rs.length : Nat) : Int) != 2) = true := by rw [bne_dec, decide_eq_true_eq]; omega
        rw [d3]
        cases (((m.length : Nat) : Int) != 2) <;> cases (((ch.length : Nat) : Int) != 1) <;> exact ⟨false, rfl, rfl⟩
    · have d3 : (((ch.length : Nat) : Int) != 1) = true := by rw [bne_dec, decide_eq_true_eq]; omega
      rw [d3]
      cases (((m.length : Nat) : Int) != 2) <;> exact ⟨false, rfl, rfl⟩
  · have d3 : (((m.length : Nat) : Int) != 2) = true := by rw [bne_dec, decide_eq_true_eq]; omega
    rw [d3]
    exact ⟨false, rfl, rfl⟩

/-- The place of k in a ranking; 8 if it has none. -/
def place : List Int → Nat → Int → Int
  | [], _, _ => 8
  | x :: r, i, k => bif x == k then (i : Int) else place r (i + 1) k

theorem range_loop {n : Nat} (c : Nat → Bool) {body : (Int → Option Bool) → Int → Option Bool} (hn : n < 2 ^ 62)
    (h : ∀ (again : Int → Option Bool) (i : Nat), i < n → body again (i : Int) = bif c i then again ((i + 1 : Nat) : Int) else some false)
    (hend : ∀ again : Int → Option Bool, body again (n : Int) = some true) : loopO body 0 = some ((List.range n).all c) := by
  have hlen : (List.range n).length = n := List.length_range
  refine (loop_walk (List.range n) (fun _ a k => if c a = true then k else some false) (some true) (fun again i a ha hi => ?_) (fun again => ?_) (by omega)).trans (walk_all c _ 0)
  · rw [hlen] at hi
    rw [List.getElem?_range hi] at ha
    cases ha
    rw [h again i hi]
    cases c i <;> rfl
  · rw [hlen]
    exact hend again

theorem getD_at {α : Type} {l : List α} {i : Nat} {d : α} (h : i < l.length) : l[i]? = some (l.getD i d) := by
  rw [List.getElem?_eq_getElem h, List.getD_eq_getElem?_getD, List.getElem?_eq_getElem h]
  rfl

def wsum {α : Type} (w : α → Nat) (x : List α) : Nat := (x.map w).sum

theorem wsum_drop {α : Type} {w : α → Nat} {x : List α} {i : Nat} {a : α} (h : x[i]? = some a) : wsum w (x.drop i) = w a + wsum w (x.drop (i + 1)) := by
  obtain ⟨hi, rfl⟩ := List.getElem?_eq_some_iff.1 h
  rw [List.drop_eq_getElem_cons hi]
  simp only [wsum, List.map_cons, List.sum_cons]

theorem wsum_mem {α : Type} {w : α → Nat} {x : List α} {a : α} (h : a ∈ x) : w a ≤ wsum w x := by
  induction x with
  | nil => simp at h
  | cons b x ih =>
    simp only [wsum, List.map_cons, List.sum_cons] at ih ⊢
    rcases List.mem_cons.1 h with rfl | h
    · omega
    · have := ih h
      omega

theorem sz_loop {α : Type} (w : α → Nat) (x : List α) {left : Int} {body : (Int × Int → Option Int) → Int × Int → Option Int} (h0 : 0 ≤ left) (h1 : left ≤ 1048576) (hn : x.length ≤ 1048576)
    (h : ∀ (again : Int × Int → Option Int) (i : Nat) a (l : Int), x[i]? = some a → i < x.length → 0 ≤ l → l ≤ 1048576 → ∃ k, k ≤ l ∧ (0 ≤ k → k = l - w a) ∧ body again (l, (i : Int)) = if k < 0 then some (-1) else again (k, ((i + 1 : Nat) : Int)))
    (hend : ∀ (again : Int × Int → Option Int) (l : Int), body again (l, (x.length : Int)) = some l) : ∃ k, loopO body (left, 0) = some k ∧ k ≤ left ∧ (0 ≤ k → k = left - wsum w x) := by
  have := loopO_ind (body := body) (fun s (y : Option Int) => ∃ k, y = some k ∧ k ≤ s.1 ∧ (0 ≤ k → k = s.1 - wsum w (x.drop s.2.toNat))) (fun s => (0 ≤ s.1 ∧ s.1 ≤ 1048576) ∧ 0 ≤ s.2 ∧ s.2 ≤ x.length) (fun s => x.length - s.2.toNat)
    (fun again s hs ih => ?_) (s := (left, 0)) ⟨⟨h0, h1⟩, by omega, by omega⟩ (by simp only; omega)
  · obtain ⟨k, e1, e2, e3⟩ := this
    exact ⟨k, e1, e2, by simpa using e3⟩
  · obtain ⟨l, j⟩ := s
    obtain ⟨⟨g1, g2⟩, g3, g4⟩ := hs
    dsimp only at g1 g2 g3 g4 ih ⊢
    obtain ⟨i, rfl⟩ : ∃ i : Nat, j = (i : Int) := ⟨j.toNat, (Int.toNat_of_nonneg g3).symm⟩
    rcases Nat.lt_or_ge i x.length with hi | hi
    · have ha := List.getElem?_eq_getElem hi
      obtain ⟨k, k1, k2, k3⟩ := h again i x[i] l ha hi g1 g2
      rw [k3]
      by_cases hk : k < 0
      · rw [if_pos hk]
        exact ⟨-1, rfl, by omega, fun h => by omega⟩
      · rw [if_neg hk]
        obtain ⟨m, m1, m2, m3⟩ := ih (k, ((i + 1 : Nat) : Int)) ⟨⟨by dsimp only; omega, by dsimp only; omega⟩, by dsimp only; omega, by dsimp only; omega⟩ (by dsimp only; omega)
        dsimp only at m1 m2 m3
        refine ⟨m, m1, by omega, fun hm => ?_⟩
        have e := wsum_drop (w := w) ha
        have := m3 hm
        have := k2 (by omega)
        simp only [Int.toNat_natCast] at *
        omega
    · obtain rfl : i = x.length := by omega
      rw [hend]
      refine ⟨l, rfl, by omega, fun _ => ?_⟩
      simp [wsum]

def wPf (a : Pf) : Nat := a.1.length + a.2.1.length + a.2.2.length

def iterN {σ : Type} (f : Nat → σ → σ) (s0 : σ) : Nat → σ
  | 0 => s0
  | n + 1 => f n (iterN f s0 n)

theorem iterN_inv {σ : Type} {f : Nat → σ → σ} {s0 : σ} {Inv : Nat → σ → Prop} (h0 : Inv 0 s0) : ∀ n, (∀ i s, i < n → Inv i s → Inv (i + 1) (f i s)) → Inv n (iterN f s0 n)
  | 0, _ => h0
  | n + 1, h => h n _ (by omega) (iterN_inv h0 n fun i s hi => h i s (by omega))

theorem iter_loop {σ τ β : Type} (f : Nat → σ → σ) (s0 : σ) (n : Nat) (enc : Int → σ → τ) (fin : σ → Option β) (Inv : Nat → σ → Prop) {body : (τ → Option β) → τ → Option β} (hn : n < 2 ^ 62) (h0 : Inv 0 s0) (hs : ∀ i s, i < n → Inv i s → Inv (i + 1) (f i s))
    (h : ∀ (again : τ → Option β) (i : Nat) s, i < n → Inv i s → body again (enc (i : Int) s) = again (enc ((i + 1 : Nat) : Int) (f i s))) (hend : ∀ (again : τ → Option β) s, Inv n s → body again (enc (n : Int) s) = fin s) : loopO body (enc 0 s0) = fin (iterN f s0 n) := by
  refine (loopO_for (σ := σ) (fun i s => enc (i : Int) s) n (fun _ _ => fin (iterN f s0 n)) (fun i s => s = iterN f s0 i ∧ Inv i s) (fun again s hs => ?_) (fun again i s hi hv ih => ?_) (by omega) (i := 0) (s := s0) (Nat.zero_le _) ⟨rfl, h0⟩).trans rfl
  · obtain ⟨rfl, h2⟩ := hs
    exact hend again _ h2
  · obtain ⟨rfl, h2⟩ := hv
    rw [h again i _ hi h2]
    exact ih _ ⟨rfl, hs i _ hi h2⟩

theorem getD_is {α : Type} {l : List α} {i : Nat} {a d : α} (h : l[i]? = some a) : l.getD i d = a := by
  rw [List.getD_eq_getElem?_getD, h]
  rfl

theorem gt24 (n : Nat) : decide ((n : Int) > 24) = !decide (n ≤ 24) := by
  rw [Bool.eq_iff_iff]
  simp
  omega

theorem range_all {α : Type} {d : α} {c : α → Bool} {l : List α} : ((List.range l.length).all fun i => c (l.getD i d)) = l.all c := by
  rw [Bool.eq_iff_iff, List.all_eq_true, List.all_eq_true]
  constructor
  · intro h a ha
    obtain ⟨i, hi, rfl⟩ := List.mem_iff_getElem.1 ha
    have := h i (List.mem_range.2 hi)
    rwa [getD_is (List.getElem?_eq_getElem hi)] at this
  · intro h i hi
    rw [getD_is (List.getElem?_eq_getElem (List.mem_range.1 hi))]
    exact h _ (List.getElem_mem _)

def wCa (a : Ca) : Nat := wPf a.2.2

theorem szCastS_eq {x : List Ca} {left : Int} (h0 : 0 ≤ left) (h1 : left ≤ 1048576) (hx : x.length < 2 ^ 63) (hr : ∀ r ∈ x, Pf.small r.2.2 (2 ^ 63 - 1)) : ∃ k, M_L_szCastS (x, left) = some k ∧ k ≤ left ∧ (0 ≤ k → k = left - x.length - wsum wCa x) := by
  unfold M_L_szCastS
  simp only [i64_in (left - (x.length : Int)) (by omega), bindO_some']
  by_cases hk : left - (x.length : Int) < 0
  · rw [decide_eq_true hk]
    exact ⟨-1, rfl, by omega, fun h => by omega⟩
  · rw [decide_eq_false hk, cond_false]
    refine Exists.imp (fun k hk => ⟨hk.1, by have := hk.2.1; omega, hk.2.2⟩) (sz_loop wCa x (left := left - x.length) (by omega) (by omega) (by omega) (fun again i a l ha hi g0 g1 => ?_) (fun again l => ?_))
    · obtain ⟨k, e1, e2, e3⟩ := szCast_eq (a := a) (left := l) g0 g1 (hr a (List.mem_of_getElem? ha))
      refine ⟨k, e2, fun h => by have := e3 h; simp only [wCa, wPf]; omega, ?_⟩
      simp only [lt_yes hi, cond_true, getI_nat, ha, bindO_some', show M_L_szCast (((a.1.1, a.1.2), (a.2.1.1, a.2.1.2), a.2.2.1, a.2.2.2.1, a.2.2.2.2), l) = some k from e1, i64_succ (show i < 2 ^ 62 by omega)]
      by_cases hk : k < 0 <;> simp [hk]
    · simp only [lt_no, cond_false]

theorem toCastS_eq {x : List Ca} (h : x.length ≤ 1048576) (hr : ∀ r ∈ x, Pf.small r.2.2 1048576) : M_L_toCastS x = some x := by
  unfold M_L_toCastS
  have hx : (x.length : Int) ≤ ((lim : Nat) : Int) := by rw [lim_eq]; omega
  rw [guardO_of (by simpa using hx), bindO_some', Int.toNat_natCast]
  refine copy_loop x ((0, 0), (0, 0), [], [], []) (fun again i a s ha hi hs => ?_) (fun again s hs => ?_) (by omega)
  · have hsi := List.getElem?_eq_getElem (l := s) (show i < s.length by omega)
    simp only [lt_yes hi, cond_true, getI_nat, ha, hsi, bindO_some', show M_L_toCast ((a.1.1, a.1.2), (a.2.1.1, a.2.1.2), a.2.2.1, a.2.2.2.1, a.2.2.2.2) = some a from toCast_eq (hr a (List.mem_of_getElem? ha)), Int.toNat_natCast, i64_succ (show i < 2 ^ 62 by omega)]
  · simp

theorem eqCastS_eq {a : List Ca} (h : a.length < 2 ^ 62) (hr : ∀ r ∈ a, Pf.small r.2.2 (2 ^ 40)) : M_L_eqCastS (a, a) = some true := by
  unfold M_L_eqCastS
  have e1 : ((a.length : Int) != (a.length : Int)) = false := by simp
  dsimp only
  rw [e1, cond_false]
  refine (eq_loop a a rfl (fun again i x y hx hy hi => ?_) (fun again => by simp) h).trans (by simp)
  obtain rfl : x = y := by rw [hx] at hy; exact Option.some.inj hy
  simp only [lt_yes hi, cond_true, getI_nat, hx, bindO_some', show M_L_eqCast (((x.1.1, x.1.2), (x.2.1.1, x.2.1.2), x.2.2.1, x.2.2.2.1, x.2.2.2.2), (x.1.1, x.1.2), (x.2.1.1, x.2.1.2), x.2.2.1, x.2.2.2.1, x.2.2.2.2) = some (decide (x = x)) from eqCast_eq (hr x (List.mem_of_getElem? hx)), i64_succ (show i < 2 ^ 62 by omega)]
  simp

theorem markCastS_eq {x : List Ca} {k0 : Int} (h0 : 0 ≤ k0 ∧ k0 ≤ 8388608) (hx : x.length ≤ 1048576) (hw : wsum wCa x ≤ 1048576) : ∃ k y, M_L_markCastS (x, k0) = some (k, y) ∧ 0 ≤ k := by
  unfold M_L_markCastS
  dsimp only
  refine loopO_ind (fun (_ : Int × Int × List Ca) (y : Option (Int × List Ca)) => ∃ k z, y = some (k, z) ∧ 0 ≤ k)
    (fun (s : Int × Int × List Ca) => ∃ i : Nat, s.2.1 = (i : Int) ∧ i ≤ x.length ∧ s.2.2.length = x.length ∧ (∀ j, i ≤ j → s.2.2[j]? = x[j]?) ∧ 0 ≤ s.1 ∧ s.1 + 4 * (x.length - i : Nat) + wsum wCa (x.drop i) ≤ 16777216)
    (fun s => x.length - s.2.1.toNat) (fun again s hs ih => ?_) (s := (k0, 0, x)) ⟨0, rfl, by omega, rfl, fun _ _ => rfl, h0.1, by simp only [List.drop_zero]; omega⟩ (by simp only; omega)
  obtain ⟨k, j, y⟩ := s
  obtain ⟨i, g1, g2, g3, g4, g5, g6⟩ := hs
  dsimp only at g1 g3 g4 g5 g6 ih ⊢
  subst g1
  rw [g3]
  rcases Nat.lt_or_ge i x.length with hi | hi
  · have ha := List.getElem?_eq_getElem hi
    have hy : y[i]? = some x[i] := by rw [g4 i (Nat.le_refl _), ha]
    have hiy : i < y.length := by omega
    have e := wsum_drop (w := wCa) ha
    generalize x[i] = a at ha hy e
    have hwa : wCa a = a.2.2.1.length + a.2.2.2.1.length + a.2.2.2.2.length := rfl
    simp only [lt_yes hi, cond_true, getI_nat, hy, bindO_some', Int.toNat_natCast, List.getElem?_set_self (show i < y.length from hiy), List.set_set, i64_in (k + 1) (by omega), i64_in (k + 1 + 1) (by omega), i64_in (k + 1 + 1 + 1) (by omega), i64_in (k + 1 + 1 + 1 + 1) (by omega),
      List.getElem?_modify_eq, Option.map_eq_map, Option.map_some, markIntS_eq (a := a.2.2.1) (k := k + 1 + 1 + 1 + 1) (by omega) (by omega) (by omega), markIntS_eq (a := a.2.2.2.1) (k := k + 1 + 1 + 1 + 1 + a.2.2.1.length) (by omega) (by omega) (by omega),
      markIntS_eq (a := a.2.2.2.2) (k := k + 1 + 1 + 1 + 1 + a.2.2.1.length + a.2.2.2.1.length) (by omega) (by omega) (by omega), i64_succ (show i < 2 ^ 62 by omega)]
    refine ih _ ⟨i + 1, rfl, by omega, by simpa using g3, fun j hj => ?_, ?_, ?_⟩ ?_
    · rw [← g4 j (by omega)]
      simp only [List.getElem?_modify, List.getElem?_set]
      have : i ≠ j := by omega
      simp [this]
    · dsimp only; omega
    · dsimp only; omega
    · dsimp only; omega
  · obtain rfl : i = x.length := by omega
    simp only [lt_no, cond_false]
    exact ⟨k, y, rfl, g5⟩

def tagC (p q s z : Int) (c : Int × Int) : Int := pw p q (dec p q s c) z

theorem dTag_eq {p q g s z : Int} {c : Int × Int} (h : Gr p q g) (hc : isCi p q c = true) : M_S_dTag ((p, q, g), s, z, c) = some (tagC p q s z c) := by
  have hp3 := h.p3
  have hd := dec_range (q := q) (s := s) (c := c) (show 2 ≤ p by omega)
  unfold M_S_dTag
  dsimp only
  rw [show M_S_eDec ((p, q, g), s, c.1, c.2) = some (dec p q s c) from eDec_eq h hc, bindO_some', gExp_pw h hd.1 (by omega), bindO_some']
  rfl

theorem tags_eq {p q g s z : Int} {l : List (Int × Int)} (h : Gr p q g) (hl : l.length < 2 ^ 30) (hc : l.all (isCi p q) = true) : M_I_Group_tags ((p, q, g), s, z, l) = some (l.map (tagC p q s z)) := by
  have hp3 := h.p3
  unfold M_I_Group_tags
  dsimp only
  have hm : (l.map (tagC p q s z)).length = l.length := List.length_map ..
  refine append_loop (l.map (tagC p q s z)) some (fun again i a t ha hi ht => ?_) (fun again t ht => ?_) (by omega)
  · rw [hm] at hi
    have hg := List.getElem?_eq_getElem hi
    rw [List.getElem?_map, hg] at ha
    cases ha
    have h2 := List.all_eq_true.1 hc _ (List.getElem_mem hi)
    have hd := dec_range (q := q) (s := s) (c := l[i]) (show 2 ≤ p by omega)
    have h3 : ∀ z : Int, guardO (lenOk (t.length + [z].length)) = some () := fun z => guardO_of (lenOk_of (by simp only [List.length_cons, List.length_nil]; omega))
    simp only [lt_yes hi, cond_true, getI_nat, hg, bindO_some', show M_I_Group_decrypt ((p, q, g), s, l[i].1, l[i].2) = some (dec p q s l[i]) from decrypt_eq h h2, pow_pw h hd.1 (Int.le_of_lt hd.2), h3, i64_succ (show i < 2 ^ 62 by omega)]
    rfl
  · rw [hm]
    simp only [lt_no, cond_false]

noncomputable def castV (p q g : Int) (a : Ca) : Bool := (M_S_dVerify ((p, q, g), a)).getD false

theorem castV_eq {p q g : Int} {a : Ca} (h : Gr p q g) (hc : isCi p q a.1 = true) (hv : isCi p q a.2.1 = true) (hp : Pf.small a.2.2 1048576) : M_S_dVerify ((p, q, g), a) = some (castV p q g a) ∧ M_I_Group_isCast ((p, q, g), a) = some (castV p q g a) := by
  obtain ⟨c, v, m, ch, rs⟩ := a
  obtain ⟨r, h1, h2⟩ := cast_verdict (c := c) (v := v) (m := m) (ch := ch) (rs := rs) h hc hv hp.1 hp.2.1 hp.2.2
  unfold castV
  rw [h1, h2]
  exact ⟨rfl, rfl⟩

noncomputable def weedV (p q g s z : Int) (known later : List Int) (a : Ca) : Int := bif !castV p q g a then 1 else bif !(known.any (· == tagC p q s z a.1)) then 2 else bif later.any (· == tagC p q s z a.1) then 3 else 0

/-- One round: the tags that came later, the verdicts. -/
noncomputable def weedS (p q g s z : Int) (known : List Int) (l : List Ca) (k : Nat) (st : List Int × List Int) : List Int × List Int :=
  let a := l.getD (l.length - 1 - k) ((0, 0), (0, 0), [], [], [])
  (bif weedV p q g s z known st.1 a == 0 then st.1 ++ [tagC p q s z a.1] else st.1, st.2.set (l.length - 1 - k) (weedV p q g s z known st.1 a))

def WeedOK (n k : Nat) (st : List Int × List Int) : Prop := st.1.length ≤ k ∧ st.2.length = n ∧ ∀ j, j + k < n → st.2[j]? = some 0

theorem weedS_ok {p q g s z : Int} {known : List Int} {l : List Ca} {k : Nat} {st : List Int × List Int} (hk : k < l.length) (h : WeedOK l.length k st) : WeedOK l.length (k + 1) (weedS p q g s z known l k st) := by
  obtain ⟨h1, h2, h3⟩ := h
  refine ⟨?_, by simpa [weedS] using h2, fun j hj => ?_⟩
  · unfold weedS
    dsimp only
    cases weedV p q g s z known st.1 (l.getD (l.length - 1 - k) ((0, 0), (0, 0), [], [], [])) == 0
    · rw [cond_false]; omega
    · rw [cond_true, List.length_append]; simp; omega
  · show (st.2.set (l.length - 1 - k) _)[j]? = some 0
    rw [List.getElem?_set_ne (by omega)]
    exact h3 j (by omega)

noncomputable def weed (p q g s z : Int) (roll : List (Int × Int)) (l : List Ca) : List Int := (iterN (weedS p q g s z (roll.map (tagC p q s z)) l) ([], List.replicate l.length 0) l.length).2

theorem set_same {l : List Int} {i : Nat} (h : l[i]? = some 0) : l.set i 0 = l := by
  refine List.ext_getElem? fun j => ?_
  rw [List.getElem?_set]
  split
  · rename_i hj
    subst hj
    rw [h]
    rw [if_pos (List.getElem?_eq_some_iff.1 h).1]
  · rfl

theorem i64_down {n k : Nat} (hk : k < n) (hn : n < 2 ^ 62) : IntKind.wrap .i64 (((n - 1 - k : Nat) : Int) - 1) = (n : Int) - 1 - ((k + 1 : Nat) : Int) := by
  rw [i64_in _ (by omega)]
  omega

theorem down_loop {β : Type} {n : Nat} (f : Nat → List Int × List Int → List Int × List Int) (s0 : List Int × List Int) (fin : List Int × List Int → Option β) (Inv : Nat → List Int × List Int → Prop) {body : (List Int × Int × List Int → Option β) → List Int × Int × List Int → Option β} (hn : n < 2 ^ 62) (h0 : Inv 0 s0) (hs : ∀ k s, k < n → Inv k s → Inv (k + 1) (f k s))
    (h : ∀ (again : List Int × Int × List Int → Option β) (k : Nat) s, k < n → Inv k s → body again (s.1, ((n - 1 - k : Nat) : Int), s.2) = again ((f k s).1, (n : Int) - 1 - ((k + 1 : Nat) : Int), (f k s).2)) (hend : ∀ (again : List Int × Int × List Int → Option β) s, body again (s.1, -1, s.2) = fin s) :
    loopO body (s0.1, (n : Int) - 1, s0.2) = fin (iterN f s0 n) := by
  have := iter_loop f s0 n (fun i s => (s.1, (n : Int) - 1 - i, s.2)) fin Inv (body := body) hn h0 hs (fun again k s hk hv => ?_) (fun again s hv => ?_)
  · rw [Int.sub_zero] at this
    exact this
  · have e := h again k s hk hv
    rw [show (n : Int) - 1 - (k : Int) = ((n - 1 - k : Nat) : Int) by omega, e]
  · rw [show (n : Int) - 1 - (n : Int) = -1 by omega]
    exact hend again s

theorem weed_step {p q g s z : Int} {known : List Int} {l : List Ca} {k : Nat} {st : List Int × List Int} {a : Ca} (ha : l[l.length - 1 - k]? = some a) :
    weedS p q g s z known l k st = (bif weedV p q g s z known st.1 a == 0 then st.1 ++ [tagC p q s z a.1] else st.1, st.2.set (l.length - 1 - k) (weedV p q g s z known st.1 a)) := by
  unfold weedS
  rw [getD_is ha]

theorem dWeed_eq {p q g s z : Int} {roll : List (Int × Int)} {l : List Ca} (h : Gr p q g) (hroll : roll.all (isCi p q) = true) (hrl : roll.length ≤ 24) (hl : l.length ≤ 24) (hc : ∀ a ∈ l, isCi p q a.1 = true ∧ isCi p q a.2.1 = true) (hr : ∀ a ∈ l, Pf.small a.2.2 1048576) :
    M_S_dWeed ((p, q, g), s, z, roll, l) = some (weed p q g s z roll l) := by
  unfold M_S_dWeed weed
  dsimp only
  have hm : (roll.map (tagC p q s z)).length = roll.length := List.length_map ..
  refine append_loop (roll.map (tagC p q s z)) (fun known => some (iterN (weedS p q g s z known l) ([], List.replicate l.length 0) l.length).2) (fun again i a t ha hi ht => ?_) (fun again known hk => ?_) (by omega)
  · rw [hm] at hi
    have hg := List.getElem?_eq_getElem hi
    rw [List.getElem?_map, hg] at ha
    cases ha
    have h2 := List.all_eq_true.1 hroll _ (List.getElem_mem hi)
    have h3 : ∀ z : Int, guardO (lenOk (t.length + [z].length)) = some () := fun z => guardO_of (lenOk_of (by simp only [List.length_cons, List.length_nil]; omega))
    simp only [lt_yes hi, cond_true, getI_nat, hg, bindO_some', show M_S_dTag ((p, q, g), s, z, roll[i].1, roll[i].2) = some (tagC p q s z roll[i]) from dTag_eq h h2, h3, i64_succ (show i < 2 ^ 62 by omega)]
  · have hx : (l.length : Int) ≤ ((lim : Nat) : Int) := by rw [lim_eq]; omega
    rw [hm]
    simp only [lt_no, cond_false]
    rw [guardO_of (by simpa using hx), bindO_some', i64_in _ (by omega), bindO_some', Int.toNat_natCast]
    refine down_loop (weedS p q g s z known l) ([], List.replicate l.length 0) (fun st => some st.2) (fun k st => WeedOK l.length k st) (by omega) ⟨by simp, by simp, fun j hj => by rw [List.getElem?_replicate, if_pos (by omega)]⟩ (fun k st hk hv => weedS_ok hk hv) (fun again k st hk hv => ?_) (fun again st => ?_)
    · obtain ⟨v1, v2, v3⟩ := hv
      have ha := List.getElem?_eq_getElem (show l.length - 1 - k < l.length by omega)
      obtain ⟨c1, c2⟩ := hc _ (List.getElem_mem (show l.length - 1 - k < l.length by omega))
      have hsm := hr _ (List.getElem_mem (show l.length - 1 - k < l.length by omega))
      rw [weed_step ha]
      generalize l[l.length - 1 - k] = a at ha c1 c2 hsm
      have ho := v3 (l.length - 1 - k) (by omega)
      have h3 : ∀ z : Int, guardO (lenOk (st.1.length + [z].length)) = some () := fun z => guardO_of (lenOk_of (by simp only [List.length_cons, List.length_nil]; omega))
      rw [decide_eq_true (show ((l.length - 1 - k : Nat) : Int) ≥ 0 by omega)]
      simp only [cond_true, getI_nat, ha, bindO_some', show M_S_dTag ((p, q, g), s, z, a.1.1, a.1.2) = some (tagC p q s z a.1) from dTag_eq h c1, show M_S_dVerify ((p, q, g), (a.1.1, a.1.2), (a.2.1.1, a.2.1.2), a.2.2.1, a.2.2.2.1, a.2.2.2.2) = some (castV p q g a) from (castV_eq h c1 c2 hsm).1,
        has_eq (show known.length < 2 ^ 62 by omega), has_eq (show st.1.length < 2 ^ 62 by omega), ho, Int.toNat_natCast, h3, i64_down hk (show l.length < 2 ^ 62 by omega)]
      unfold weedV
      cases castV p q g a
      · rfl
      · cases known.any (· == tagC p q s z a.1)
        · rfl
        · cases st.1.any (· == tagC p q s z a.1)
          · simp only [Bool.not_true, cond_false, BEq.rfl, cond_true]
            rw [set_same ho]
          · rfl
    · rw [decide_eq_false (show ¬ (-1 : Int) ≥ 0 by omega)]
      rfl

theorem containsFuncCa_eq {l : List Ca} {f : Ca → Option Bool} {p : Ca → Bool} (hl : l.length < 2 ^ 62) (hf : ∀ a ∈ l, f a = some (p a)) : M_slices_ContainsFunc_sI_Cast_I_Cast (l, f) = some (l.any p) := by
  obtain ⟨j, h1, h2⟩ := walk_index_mem p f l 0 hf
  unfold M_slices_ContainsFunc_sI_Cast_I_Cast
  have : M_slices_IndexFunc_sI_Cast_I_Cast (l, f) = some j := by
    unfold M_slices_IndexFunc_sI_Cast_I_Cast
    refine (loop_walk l _ _ (fun again i a ha hi => ?_) (fun again => ?_) (by omega)).trans h1
    · simp only [getI_nat, ha, bindO_some', i64_succ (show i < 2 ^ 62 by omega), lt_yes hi, cond_true]
    · simp
  dsimp only
  rw [this, bindO_some', h2]

def isCa (p q : Int) (a : Ca) : Bool := isCi p q a.1 && isCi p q a.2.1

noncomputable def weedIn (p q g s z : Int) (roll : List (Int × Int)) (l : List Ca) : Bool := okG p q g && (([s, z].all fun e => decide (0 ≤ e ∧ e ≤ q - 1)) && ((z != 0) && ((decide (roll.length ≤ 24) && roll.all (isCi p q)) && (decide (l.length ≤ 24) && l.all (isCa p q)))))

theorem dInput_eq {p q g s z : Int} {roll : List (Int × Int)} {l : List Ca} : M_S_dInput ((p, q, g), s, z, roll, l) = some (weedIn p q g s z roll l) := by
  unfold M_S_dInput M_S_dSecrets weedIn
  dsimp only
  rw [l2Good_eq, bindO_some']
  cases hok : okG p q g
  · rfl
  have h := okG_spec hok
  rw [cond_true, gExps_eq h (by simp), bindO_some', eGood_eq h]
  cases [s, z].all fun e => decide (0 ≤ e ∧ e ≤ q - 1)
  · rfl
  cases z != 0
  · rfl
  cases decide (roll.length ≤ 24) && roll.all (isCi p q)
  · rfl
  simp only [Bool.true_and, bindO_some', cond_true, Bool.not_true, cond_false]
  rw [gt24]
  by_cases hl : l.length ≤ 24
  · rw [decide_eq_true hl]
    simp only [Bool.not_true, cond_false, Bool.true_and]
    rw [← range_all (d := ((0, 0), (0, 0), [], [], []))]
    refine range_loop _ (by omega) (fun again i hi => ?_) (fun again => ?_)
    · have hei := getD_at (d := (((0, 0), (0, 0), [], [], []) : Ca)) hi
      generalize l.getD i ((0, 0), (0, 0), [], [], []) = a at hei
      simp only [lt_yes hi, cond_true, getI_nat, hei, bindO_some', eGood_eq h, i64_succ (show i < 2 ^ 62 by omega)]
      rw [show (decide ([(a.1.1, a.1.2), (a.2.1.1, a.2.1.2)].length ≤ 24) && [(a.1.1, a.1.2), (a.2.1.1, a.2.1.2)].all (isCi p q)) = isCa p q a from by simp [isCa]]
      cases isCa p q a <;> rfl
    · simp only [lt_no, cond_false]
  · rw [decide_eq_false hl]
    rfl

theorem weedIn_spec {p q g s z : Int} {roll : List (Int × Int)} {l : List Ca} (h : weedIn p q g s z roll l = true) : okG p q g = true ∧ roll.length ≤ 24 ∧ roll.all (isCi p q) = true ∧ l.length ≤ 24 ∧ ∀ a ∈ l, isCi p q a.1 = true ∧ isCi p q a.2.1 = true := by
  simp only [weedIn, Bool.and_eq_true, decide_eq_true_eq, List.all_eq_true (l := l), isCa] at h
  exact ⟨h.1, h.2.2.2.1.1, h.2.2.2.1.2, h.2.2.2.2.1, h.2.2.2.2.2⟩

noncomputable def weedR (p q g s z : Int) (roll : List (Int × Int)) (l : List Ca) : List Int × Bool := bif weedIn p q g s z roll l then (weed p q g s z roll l, true) else ([], false)

theorem I_WeedCasts_eq {p q g s z : Int} {roll : List (Int × Int)} {l : List Ca} (hrl : roll.length < 2 ^ 62) (hr : ∀ a ∈ l, Pf.small a.2.2 1048576) : M_I_WeedCasts ((p, q, g), s, z, roll, l) = some (weedR p q g s z roll l) := by
  unfold M_I_WeedCasts M_I_isTagging weedR weedIn
  dsimp only
  rw [IsValidGroup_eq, bindO_some']
  cases hok : okG p q g
  · rfl
  have h := okG_spec hok
  rw [cond_true, areExps_eq h (by simp), bindO_some', hasCiphers_eq h hrl, gt24]
  cases [s, z].all fun e => decide (0 ≤ e ∧ e ≤ q - 1)
  · rfl
  cases z != 0
  · rfl
  cases hroll : decide (roll.length ≤ 24) && roll.all (isCi p q)
  · rfl
  simp only [Bool.and_eq_true, decide_eq_true_eq] at hroll
  simp only [Bool.true_and, bindO_some', cond_true, Bool.not_true, cond_false]
  by_cases hl : l.length ≤ 24
  · rw [decide_eq_true hl]
    simp only [Bool.not_true, cond_false, Bool.true_and]
    rw [containsFuncCa_eq (p := fun a => !isCa p q a) (by omega) (fun a _ => ?_), bindO_some', show (l.any fun a => !isCa p q a) = !(l.all (isCa p q)) from by rw [all_not_any (l := l) (p := isCa p q) (q := fun a => !isCa p q a) (fun a _ => rfl), Bool.not_not]]
    · cases hca : l.all (isCa p q)
      · rfl
      have hc : ∀ a ∈ l, isCi p q a.1 = true ∧ isCi p q a.2.1 = true := fun a ha => by
        have := List.all_eq_true.1 hca a ha
        simpa [isCa] using this
      simp only [Bool.not_true, cond_false, cond_true]
      have hx : (l.length : Int) ≤ ((lim : Nat) : Int) := by rw [lim_eq]; omega
      rw [tags_eq h (by omega) hroll.2, bindO_some', guardO_of (by simpa using hx), bindO_some', i64_in _ (by omega), Int.toNat_natCast]
      have hkl : (roll.map (tagC p q s z)).length = roll.length := List.length_map ..
      unfold weed
      generalize roll.map (tagC p q s z) = known at hkl
      refine down_loop (weedS p q g s z known l) ([], List.replicate l.length 0) (fun st => some (st.2, true)) (fun k st => WeedOK l.length k st) (by omega) ⟨by simp, by simp, fun j hj => by rw [List.getElem?_replicate, if_pos (by omega)]⟩ (fun k st hk hv => weedS_ok hk hv) (fun again k st hk hv => ?_) (fun again st => ?_)
      · obtain ⟨v1, v2, v3⟩ := hv
        have ha := List.getElem?_eq_getElem (show l.length - 1 - k < l.length by omega)
        obtain ⟨c1, c2⟩ := hc _ (List.getElem_mem (show l.length - 1 - k < l.length by omega))
        have hsm := hr _ (List.getElem_mem (show l.length - 1 - k < l.length by omega))
        rw [weed_step ha]
        generalize l[l.length - 1 - k] = a at ha c1 c2 hsm
        have ho := v3 (l.length - 1 - k) (by omega)
        have h3 : ∀ z : Int, guardO (lenOk (st.1.length + [z].length)) = some () := fun z => guardO_of (lenOk_of (by simp only [List.length_cons, List.length_nil]; omega))
        have htag : M_I_Group_tags ((p, q, g), s, z, [(a.1.1, a.1.2)]) = some [tagC p q s z a.1] := tags_eq (l := [a.1]) h (by simp) (by simp [c1])
        rw [decide_eq_true (show ((l.length - 1 - k : Nat) : Int) ≥ 0 by omega)]
        simp only [cond_true, getI_nat, ha, bindO_some', htag, getI_zero, List.getElem?_cons_zero, show M_I_Group_isCast ((p, q, g), (a.1.1, a.1.2), (a.2.1.1, a.2.1.2), a.2.2.1, a.2.2.2.1, a.2.2.2.2) = some (castV p q g a) from (castV_eq h c1 c2 hsm).2,
          contains_eq (show known.length < 2 ^ 62 by omega), contains_eq (show st.1.length < 2 ^ 62 by omega), ho, Int.toNat_natCast, h3, i64_down hk (show l.length < 2 ^ 62 by omega)]
        unfold weedV
        cases castV p q g a
        · rfl
        · cases known.any (· == tagC p q s z a.1)
          · rfl
          · cases st.1.any (· == tagC p q s z a.1) <;> rfl
      · rw [decide_eq_false (show ¬ (-1 : Int) ≥ 0 by omega)]
        rfl
    · unfold M_I_WeedCasts_1 M_I_Group_hasCast
      dsimp only
      rw [show M_I_Group_hasCipher ((p, q, g), a.1.1, a.1.2) = _ from hasCipher_eq (c := a.1) h, show M_I_Group_hasCipher ((p, q, g), a.2.1.1, a.2.1.2) = _ from hasCipher_eq (c := a.2.1) h]
      simp only [bindO_some', isCa]
      cases isCi p q a.1 <;> rfl
  · rw [decide_eq_false hl]
    rfl

theorem wf_cas {l : List Ca} (h : WF (.sl (.cons (.cons (.int .i64) (.one (.int .i64))) (.cons (.cons (.int .i64) (.one (.int .i64))) (.one (.cons (.sl (.int .i64)) (.cons (.sl (.int .i64)) (.one (.sl (.int .i64))))))))) l) : l.length < 2 ^ 63 ∧ ∀ r ∈ l, Pf.small r.2.2 (2 ^ 63 - 1) := by
  have hm : maxLen < 2 ^ 63 := by decide
  refine ⟨Nat.lt_of_le_of_lt h.1 hm, fun r hr => ?_⟩
  have hw : WF (.cons (.sl (.int .i64)) (.cons (.sl (.int .i64)) (.one (.sl (.int .i64))))) r.2.2 := (h.2 r hr).2.2
  have h1 := hw.1.1
  have h2 := hw.2.1.1
  have h3 := hw.2.2.1
  exact ⟨by omega, by omega, by omega⟩

abbrev Pp := List Int × List Int × List Int × Pf

def Pp.small (P : Pp) (n : Nat) : Prop := P.1.length ≤ n ∧ P.2.1.length ≤ n ∧ P.2.2.1.length ≤ n ∧ P.2.2.2.small n

abbrev Mp := List Int × List Int × Pf

abbrev Stg := Int × List (Int × Int) × Mp × Pp

def Mp.small (a : Mp) (n : Nat) : Prop := a.1.length ≤ n ∧ a.2.1.length ≤ n ∧ a.2.2.small n

def Stg.small (s : Stg) : Prop := s.2.1.length ≤ 1048576 ∧ Mp.small s.2.2.1 1048576 ∧ Pp.small s.2.2.2 1048576

def incr (l : List Int) : Prop := l.Pairwise fun a b => decide (a ≤ b) = true

/-- a put at place j. -/
def putIn (l : List Int) (j : Nat) (a : Int) : List Int := l.take j ++ a :: l.drop j

theorem putIn_perm (l : List Int) (j : Nat) (a : Int) : (putIn l j a).Perm (a :: l) := by
  unfold putIn
  refine List.perm_middle.trans (List.Perm.cons _ ?_)
  rw [List.take_append_drop]

theorem putIn_set {l : List Int} {j : Nat} {a b : Int} (h : j ≤ l.length) : (putIn l j a).set j b = putIn l j b := by
  unfold putIn
  rw [List.set_append_right _ _ (by rw [List.length_take]; omega), List.length_take, Nat.min_eq_left h, Nat.sub_self]
  rfl

theorem putIn_down {l : List Int} {j : Nat} {x : Int} (h : l[j]? = some x) : putIn l (j + 1) x = putIn l j x := by
  obtain ⟨hj, e⟩ := List.getElem?_eq_some_iff.1 h
  unfold putIn
  rw [List.take_add_one, h, List.drop_eq_getElem_cons hj, e]
  simp

theorem putIn_get {l : List Int} {j : Nat} {a x : Int} (h : l[j]? = some x) : (putIn l (j + 1) a)[j]? = some x := by
  have hj := (List.getElem?_eq_some_iff.1 h).1
  unfold putIn
  rw [List.getElem?_append_left (by rw [List.length_take]; omega), List.getElem?_take_of_lt (by omega)]
  exact h

theorem putIn_at {l : List Int} {j : Nat} {a : Int} (h : j ≤ l.length) : (putIn l j a)[j]? = some a := by
  unfold putIn
  rw [List.getElem?_append_right (by rw [List.length_take]; omega), List.length_take, Nat.min_eq_left h, Nat.sub_self]
  rfl

theorem putIn_incr {l : List Int} {j : Nat} {a : Int} (h : incr l) (h1 : ∀ x ∈ l.drop j, a ≤ x) (h2 : ∀ x ∈ l.take j, x ≤ a) : incr (putIn l j a) := by
  unfold incr putIn
  refine List.pairwise_append.2 ⟨h.sublist (List.take_sublist _ _), List.pairwise_cons.2 ⟨fun b hb => decide_eq_true (h1 b hb), h.sublist (List.drop_sublist _ _)⟩, fun x hx y hy => ?_⟩
  have hxa := h2 x hx
  rcases List.mem_cons.1 hy with e | e
  · subst e
    exact decide_eq_true hxa
  · have := h1 y e
    exact decide_eq_true (by omega)

/-- Whatever is put in order is the sorted list. -/
theorem incr_eq {l m : List Int} (h : incr l) (hp : l.Perm m) : l = m.mergeSort fun x y => decide (x ≤ y) := by
  refine List.Perm.eq_of_pairwise (le := fun a b : Int => decide (a ≤ b) = true) (fun a b _ _ h1 h2 => ?_) h (List.pairwise_mergeSort (le := fun a b : Int => decide (a ≤ b)) (fun a b c h1 h2 => ?_) (fun a b => ?_) m) (hp.trans (List.mergeSort_perm m _).symm)
  · have h1 := of_decide_eq_true h1
    have h2 := of_decide_eq_true h2
    omega
  · have h1 := of_decide_eq_true h1
    have h2 := of_decide_eq_true h2
    exact decide_eq_true (by omega)
  · rcases Int.le_total a b with h | h
    · rw [decide_eq_true h]; rfl
    · rw [decide_eq_true h, Bool.or_true]

theorem i64_less {j : Nat} (h : j < 2 ^ 62) : IntKind.wrap .i64 (((j + 1 : Nat) : Int) - 1) = (j : Int) := by
  rw [i64_in _ (by omega)]
  omega

theorem incr_take {l : List Int} {j : Nat} {x a : Int} (h : incr l) (hx : l[j]? = some x) (ha : x ≤ a) : ∀ y ∈ l.take (j + 1), y ≤ a := by
  intro y hy
  rw [List.take_add_one, hx] at hy
  rcases List.mem_append.1 hy with h1 | h1
  · have hj := List.getElem?_eq_some_iff.1 hx
    have h2 := List.pairwise_append.1 (show (l.take j ++ l.drop j).Pairwise _ from by rw [List.take_append_drop]; exact h)
    have h3 := of_decide_eq_true (h2.2.2 y h1 x (by rw [List.drop_eq_getElem_cons hj.1, hj.2]; exact List.mem_cons_self))
    omega
  · have h1 : y = x := by simpa using h1
    omega

theorem mMessages_eq {p q g s : Int} {cs : List (Int × Int)} (h : Gr p q g) (hl : cs.length < 2 ^ 30) (hc : cs.all (isCi p q) = true) : M_S_mMessages ((p, q, g), s, cs) = some ((cs.map (dec p q s)).mergeSort fun x y => decide (x ≤ y)) := by
  unfold M_S_mMessages
  dsimp only
  have hm : (cs.map (dec p q s)).length = cs.length := List.length_map ..
  refine loopO_for (σ := List Int) (fun i st => (st, (i : Int))) cs.length (fun _ _ => some ((cs.map (dec p q s)).mergeSort fun x y => decide (x ≤ y))) (fun i st => incr st ∧ st.Perm ((cs.map (dec p q s)).take i)) (fun again st hst => ?_) (fun again i st hi hst ih => ?_) (by omega) (i := 0) (s := []) (Nat.zero_le _) ⟨List.Pairwise.nil, List.Perm.nil⟩
  · dsimp only
    rw [lt_no, cond_false]
    refine congrArg some (incr_eq hst.1 ?_)
    have := hst.2
    rwa [← hm, List.take_length] at this
  · dsimp only
    have hg := List.getElem?_eq_getElem hi
    have h2 := List.all_eq_true.1 hc _ (List.getElem_mem hi)
    have hlen : st.length = i := by
      have := hst.2.length_eq
      rw [List.length_take, hm] at this
      omega
    rw [lt_yes hi, cond_true, getI_nat, hg, bindO_some', show M_S_eDec ((p, q, g), s, cs[i].1, cs[i].2) = some (dec p q s cs[i]) from eDec_eq h h2, bindO_some', guardO_of (lenOk_of (by simp only [List.length_cons, List.length_nil]; omega)), bindO_some', bindO_some']
    generalize hx : dec p q s cs[i] = x
    have hput : ∀ j, j ≤ st.length → (∀ y ∈ st.drop j, x ≤ y) → (∀ y ∈ st.take j, y ≤ x) → incr (putIn st j x) ∧ (putIn st j x).Perm ((cs.map (dec p q s)).take (i + 1)) := fun j hj h1 h2 => by
      refine ⟨putIn_incr hst.1 h1 h2, (putIn_perm _ _ _).trans ?_⟩
      rw [List.take_add_one, List.getElem?_map, hg]
      refine ((List.Perm.cons x hst.2).trans ?_)
      simp only [Option.map_some, Option.toList_some, hx]
      exact (List.perm_append_singleton _ _).symm
    refine loopO_spec (fun _ => some ((cs.map (dec p q s)).mergeSort fun x y => decide (x ≤ y))) (fun s7 : Int × List Int => ∃ (j : Nat) (b : Int), s7 = ((j : Int), putIn st j b) ∧ j ≤ st.length ∧ ∀ y ∈ st.drop j, x ≤ y) (fun s7 => s7.1.toNat) (fun again6 s7 hs ih6 => ?_) ⟨st.length, x, ?_, Nat.le_refl _, by simp⟩ ?_
    · obtain ⟨j, b, rfl, hj, hd⟩ := hs
      dsimp only
      have hset : bindO (getI (putIn st j b) (j : Int)) (fun _ => bindO (some (List.set (putIn st j b) (Int.toNat (j : Int)) x)) fun a16 => bindO (some (IntKind.wrap .i64 ((i : Int) + 1))) fun a17 => again (a16, a17)) = again (putIn st j x, ((i + 1 : Nat) : Int)) := by
        rw [getI_nat, putIn_at hj, bindO_some', bindO_some', bindO_some', Int.toNat_natCast, putIn_set hj, i64_succ (by omega)]
      rcases j with _ | j
      · rw [decide_eq_false (by omega), cond_false]
        refine hset.trans (ih _ (hput 0 (Nat.zero_le _) hd (by simp)))
      · rw [decide_eq_true (by omega), cond_true, i64_less (by omega), bindO_some']
        obtain ⟨y, hy⟩ : ∃ y, st[j]? = some y := ⟨_, List.getElem?_eq_getElem hj⟩
        rw [getI_nat, putIn_get hy, bindO_some']
        by_cases hxy : x < y
        · rw [decide_eq_true hxy, cond_true, bindO_some', getI_nat, putIn_get hy, bindO_some', getI_nat, putIn_at hj, bindO_some', bindO_some', bindO_some', Int.toNat_natCast, putIn_set hj, putIn_down hy]
          refine ih6 _ ⟨j, y, rfl, by omega, fun z hz => ?_⟩ (by show (j : Int).toNat < ((j + 1 : Nat) : Int).toNat; omega)
          have hjl := List.getElem?_eq_some_iff.1 hy
          rw [List.drop_eq_getElem_cons hjl.1, hjl.2] at hz
          rcases List.mem_cons.1 hz with e | e
          · omega
          · exact hd z e
        · rw [decide_eq_false hxy, cond_false]
          exact hset.trans (ih _ (hput (j + 1) hj hd (incr_take hst.1 hy (by omega))))
    · simp only [putIn, List.take_length, List.drop_length]
    · show ((st.length : Nat) : Int).toNat < 2 ^ 64
      omega

def voteAt (a : Int × Ca) : Option (Int × Int) := bif a.1 == 0 then some a.2.2.1 else Option.none

noncomputable def votesOf (codes : List Int) (l : List Ca) (i : Nat) : List (Int × Int) := ((codes.zip l).take i).filterMap voteAt

theorem votesOf_succ {codes : List Int} {l : List Ca} {i : Nat} {c : Int} {a : Ca} (h1 : codes[i]? = some c) (h2 : l[i]? = some a) : votesOf codes l (i + 1) = votesOf codes l i ++ bif c == 0 then [a.2.1] else [] := by
  have hz : (codes.zip l)[i]? = some (c, a) := List.getElem?_zip_eq_some.2 ⟨h1, h2⟩
  unfold votesOf
  rw [List.take_add_one, hz, List.filterMap_append]
  congr 1
  cases hc : c == 0
  · simp [voteAt, hc]
  · simp [voteAt, hc]

theorem votesOf_length (codes : List Int) (l : List Ca) (i : Nat) : (votesOf codes l i).length ≤ i := by
  unfold votesOf
  refine Nat.le_trans (List.length_filterMap_le _ _) ?_
  rw [List.length_take]
  omega

theorem votesOf_mem {codes : List Int} {l : List Ca} {i : Nat} {v : Int × Int} (h : v ∈ votesOf codes l i) : ∃ a ∈ l, v = a.2.1 := by
  unfold votesOf at h
  obtain ⟨⟨c, a⟩, ha, hv⟩ := List.mem_filterMap.1 h
  have := List.mem_of_mem_take ha
  unfold voteAt at hv
  dsimp only at hv
  cases hc : c == 0
  · rw [hc] at hv; cases hv
  · rw [hc] at hv
    cases hv
    exact ⟨a, (List.of_mem_zip this).2, rfl⟩

noncomputable def countR (p q g s z : Int) (roll : List (Int × Int)) (l : List Ca) : List Int × Bool := bif weedIn p q g s z roll l then
  (((votesOf (weed p q g s z roll l) l l.length).map (dec p q s)).mergeSort fun x y => decide (x ≤ y), true) else ([], false)

theorem weed_length {p q g s z : Int} {roll : List (Int × Int)} {l : List Ca} : (weed p q g s z roll l).length = l.length := by
  have := iterN_inv (f := weedS p q g s z (roll.map (tagC p q s z)) l) (s0 := ([], List.replicate l.length 0)) (Inv := fun k st => WeedOK l.length k st) ⟨by simp, by simp, fun j hj => by rw [List.getElem?_replicate, if_pos (by omega)]⟩ l.length (fun k st hk hv => weedS_ok hk hv)
  exact this.2.1

theorem S_CountedVotes_eq {p q g s z : Int} {roll : List (Int × Int)} {l : List Ca} (hr : ∀ a ∈ l, Pf.small a.2.2 1048576) : M_S_CountedVotes ((p, q, g), s, z, roll, l) = some (countR p q g s z roll l) := by
  unfold M_S_CountedVotes countR
  dsimp only
  rw [show M_S_dInput ((p, q, g), s, z, roll, l) = _ from dInput_eq, bindO_some']
  cases hin : weedIn p q g s z roll l
  · rfl
  obtain ⟨h1, h2, h3, h4, h5⟩ := weedIn_spec hin
  rw [Bool.not_true, cond_false, cond_true, show M_S_dWeed ((p, q, g), s, z, roll, l) = _ from dWeed_eq (okG_spec h1) h3 h2 h4 h5 hr, bindO_some']
  have hwl : (weed p q g s z roll l).length = l.length := weed_length
  generalize weed p q g s z roll l = codes at hwl ⊢
  refine loopO_for (σ := Unit) (fun i _ => (votesOf codes l i, (i : Int))) l.length (fun _ _ => some (((votesOf codes l l.length).map (dec p q s)).mergeSort fun x y => decide (x ≤ y), true)) (fun _ _ => True) (fun again _ _ => ?_) (fun again i _ hi _ ih => ?_) (by omega) (i := 0) (s := ()) (Nat.zero_le _) trivial
  · dsimp only
    rw [hwl, lt_no, cond_false, show M_S_mMessages ((p, q, g), s, votesOf codes l l.length) = _ from mMessages_eq (okG_spec h1) (by have := votesOf_length codes l l.length; omega) (List.all_eq_true.2 fun v hv => by obtain ⟨a, ha, rfl⟩ := votesOf_mem hv; exact (h5 a ha).2), bindO_some']
  · dsimp only
    have hc := List.getElem?_eq_getElem (show i < codes.length by omega)
    have hg := List.getElem?_eq_getElem hi
    rw [hwl, lt_yes hi, cond_true, getI_nat, hc, bindO_some']
    refine Eq.trans ?_ (ih () trivial)
    rw [votesOf_succ hc hg]
    cases hz : codes[i] == 0
    · rw [cond_false, cond_false, bindO_some', i64_succ (by omega), List.append_nil]
    · have := votesOf_length codes l i
      rw [cond_true, cond_true, getI_nat, hg, bindO_some', guardO_of (lenOk_of (by simp only [List.length_cons, List.length_nil]; omega)), bindO_some', bindO_some', bindO_some', i64_succ (by omega)]

theorem I_CountedVotes_eq {p q g s z : Int} {roll : List (Int × Int)} {l : List Ca} (hrl : roll.length < 2 ^ 62) (hr : ∀ a ∈ l, Pf.small a.2.2 1048576) : M_I_CountedVotes ((p, q, g), s, z, roll, l) = some (countR p q g s z roll l) := by
  unfold M_I_CountedVotes countR
  dsimp only
  rw [show M_I_WeedCasts ((p, q, g), s, z, roll, l) = _ from I_WeedCasts_eq hrl hr]
  cases hin : weedIn p q g s z roll l
  · rw [show weedR p q g s z roll l = ([], false) from by unfold weedR; rw [hin]; rfl]
    rfl
  obtain ⟨h1, h2, h3, h4, h5⟩ := weedIn_spec hin
  rw [show weedR p q g s z roll l = (weed p q g s z roll l, true) from by unfold weedR; rw [hin]; rfl, bindO_some']
  dsimp only
  rw [Bool.not_true, cond_false, cond_true]
  have hwl : (weed p q g s z roll l).length = l.length := weed_length
  generalize weed p q g s z roll l = codes at hwl ⊢
  refine loopO_for (σ := Unit) (fun i _ => ((votesOf codes l i).map (dec p q s), (i : Int))) l.length (fun _ _ => some (((votesOf codes l l.length).map (dec p q s)).mergeSort fun x y => decide (x ≤ y), true)) (fun _ _ => True) (fun again _ _ => ?_) (fun again i _ hi _ ih => ?_) (by omega) (i := 0) (s := ()) (Nat.zero_le _) trivial
  · dsimp only
    have := votesOf_length codes l l.length
    rw [hwl, lt_no, cond_false]
    unfold M_slices_Sort_sint_int
    rw [if_pos (by rw [List.length_map]; omega), bindO_some']
  · dsimp only
    have hc := List.getElem?_eq_getElem (show i < codes.length by omega)
    have hg := List.getElem?_eq_getElem hi
    rw [hwl, lt_yes hi, cond_true, getI_nat, hc, bindO_some']
    refine Eq.trans ?_ (ih () trivial)
    rw [votesOf_succ hc hg]
    cases hz : codes[i] == 0
    · rw [cond_false, cond_false, bindO_some', i64_succ (by omega), List.append_nil]
    · have := votesOf_length codes l i
      rw [cond_true, cond_true, getI_nat, hg, bindO_some', show M_I_Group_decrypt ((p, q, g), s, l[i].2.1.1, l[i].2.1.2) = some (dec p q s l[i].2.1) from decrypt_eq (okG_spec h1) (h5 _ (List.getElem_mem hi)).2, bindO_some', guardO_of (lenOk_of (by rw [List.length_map]; simp only [List.length_cons, List.length_nil]; omega)), bindO_some', bindO_some', bindO_some', i64_succ (by omega), List.map_append]
      rfl

theorem countR_small (p q g s z : Int) (roll : List (Int × Int)) (l : List Ca) : (countR p q g s z roll l).1.length ≤ 24 := by
  unfold countR
  cases hin : weedIn p q g s z roll l
  · simp
  obtain ⟨h1, h2, h3, h4, h5⟩ := weedIn_spec hin
  have := votesOf_length (weed p q g s z roll l) l l.length
  rw [cond_true]
  show (List.mergeSort _ _).length ≤ 24
  rw [List.length_mergeSort, List.length_map]
  omega

theorem law_FnExactCountedVotes (x : (Int × Int × Int) × Int × Int × List (Int × Int) × List Ca) (h : WFI [.data (.cons (.int .i64) (.cons (.int .i64) (.one (.int .i64)))), .data (.int .i64), .data (.int .i64), .data (.sl (.cons (.int .i64) (.one (.int .i64)))), .data (.sl (.cons (.cons (.int .i64) (.one (.int .i64))) (.cons (.cons (.int .i64) (.one (.int .i64))) (.one (.cons (.sl (.int .i64)) (.cons (.sl (.int .i64)) (.one (.sl (.int .i64)))))))))] x) : M_L_FnExactCountedVotes x = some true := by
  obtain ⟨⟨p, q, g⟩, s, z, roll, l⟩ := x
  obtain ⟨w1, w2⟩ := wf_cas (l := l) h.2.2.2.2
  have w3 : roll.length ≤ maxLen := h.2.2.2.1.1
  have hm : maxLen < 2 ^ 63 := by decide
  unfold M_L_FnExactCountedVotes
  dsimp only
  rw [szCipherS_eq (by omega) (by omega) (by omega), bindO_some']
  by_cases hy : (1048576 : Int) < roll.length
  · rw [if_pos hy]
    rfl
  · rw [if_neg hy, decide_eq_false (by omega), cond_false]
    obtain ⟨k, e1, e2, e3⟩ := szCastS_eq (x := l) (left := 1048576 - roll.length) (by omega) (by omega) w1 w2
    rw [e1, bindO_some']
    by_cases hk : k < 0
    · have d : decide (k < 0) = true := by simpa using hk
      rw [d]
      rfl
    · have d : decide (k < 0) = false := by simpa using hk
      have hk' := e3 (by omega)
      have hlen : l.length ≤ 1048576 := by omega
      have hsum : wsum wCa l ≤ 1048576 := by omega
      have hr : ∀ r ∈ l, Pf.small r.2.2 1048576 := fun r hm => by
        have := wsum_mem (w := wCa) hm
        simp only [wCa, wPf] at this hsum
        exact ⟨by omega, by omega, by omega⟩
      have hS := S_CountedVotes_eq (p := p) (q := q) (g := g) (s := s) (z := z) (roll := roll) (l := l) hr
      have hI := I_CountedVotes_eq (p := p) (q := q) (g := g) (s := s) (z := z) (roll := roll) (l := l) (by omega) hr
      have hsm := countR_small p q g s z roll l
      generalize countR p q g s z roll l = o at hS hI hsm
      obtain ⟨o1, o2⟩ := o
      dsimp only at hsm
      have he := eqCastS_eq (a := l) (by omega) (fun r hm => ⟨by have := (hr r hm).1; omega, by have := (hr r hm).2.1; omega, by have := (hr r hm).2.2; omega⟩)
      have m1 := markCipherS_eq (a := roll) (k := 1) (by omega) (by omega) (by omega)
      obtain ⟨k2, y2, m2, hk2⟩ := markCastS_eq (x := l) (k0 := 1 + 2 * (roll.length : Int)) (by omega) hlen hsum
      have hn := one_nn o1.length
      rw [d, cond_false]
      simp [toGroup_eq, toCipherS_eq (show roll.length ≤ 1048576 by omega), toCastS_eq hlen hr, hS, hI, he, eqCipherS_eq (show roll.length < 2 ^ 62 by omega), m1, m2, hk2, eqIntS_eq (show o1.length < 2 ^ 62 by omega), markIntS_eq (show o1.length < 2 ^ 40 by omega), heldIntS_eq (show o1.length < 2 ^ 40 by omega), hn]

end Go.Proofs.YtgjneigkkgaaiaaGreat.Vd
