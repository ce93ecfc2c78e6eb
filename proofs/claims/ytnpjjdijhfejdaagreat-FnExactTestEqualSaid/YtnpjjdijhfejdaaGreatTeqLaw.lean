/- The law FnExactTestEqual as plain functions on data returns true for all arguments. No conditions. -/
import Derived.Test.YtnpjjdijhfejdaaGreatTeqMod
set_option linter.unusedVariables false
set_option linter.unusedSimpArgs false
set_option linter.unusedSectionVars false
set_option linter.unnecessarySimpa false
namespace Go.Proofs.YtnpjjdijhfejdaaGreat.Vd
open Go.IntWalk

theorem i64_succ {i : Nat} (h : i < 2 ^ 62) : IntKind.wrap .i64 ((i : Int) + 1) = ((i + 1 : Nat) : Int) := by
  rw [i64_in _ (by omega)]
  rfl

theorem lt_yes {i n : Nat} (h : i < n) : decide ((i : Int) < (n : Int)) = true := by simp [h]

theorem lt_no (n : Nat) : decide ((n : Int) < (n : Int)) = false := by simp

/-- A walk over a list by its numbers, with no other state. -/
def walk {α β : Type} (step : Nat → α → Option β → Option β) (fin : Option β) : Nat → List α → Option β
  | _, [] => fin
  | i, a :: r => step i a (walk step fin (i + 1) r)

theorem loop_walk {α β : Type} {body : (Int → Option β) → Int → Option β} (l : List α) (step : Nat → α → Option β → Option β) (fin : Option β)
    (h : ∀ (again : Int → Option β) (i : Nat) a, l[i]? = some a → i < l.length → body again (i : Int) = step i a (again ((i + 1 : Nat) : Int)))
    (hend : ∀ again : Int → Option β, body again (l.length : Int) = fin) (hl : l.length < 2 ^ 64) : loopO body 0 = walk step fin 0 l := by
  refine (loopO_for (σ := Unit) (fun i _ => (i : Int)) l.length (fun i _ => walk step fin i (l.drop i)) (fun _ _ => True) (fun again _ _ => ?_) (fun again i _ hi _ ih => ?_) hl (i := 0) (s := ()) (Nat.zero_le _) trivial).trans rfl
  · simp [hend, walk]
  · rw [h again i l[i] (List.getElem?_eq_getElem hi) hi, ih () trivial, List.drop_eq_getElem_cons hi, walk]

/-- A walk over a list by its numbers, with a state (before the number). -/
def walkS {α β σ : Type} (step : Nat → α → σ → (σ → Option β) → Option β) (fin : σ → Option β) : Nat → List α → σ → Option β
  | _, [], s => fin s
  | i, a :: r, s => step i a s (walkS step fin (i + 1) r)

/-- The same, where the states keep something. -/
theorem loop_walkI {α β σ τ : Type} {body : (τ → Option β) → τ → Option β} (enc : Int → σ → τ) (l : List α) (step : Nat → α → σ → (σ → Option β) → Option β) (fin : σ → Option β) (Inv : Nat → σ → Prop)
    (hc : ∀ (i : Nat) a s (k k' : σ → Option β), l[i]? = some a → Inv i s → (∀ s', Inv (i + 1) s' → k s' = k' s') → step i a s k = step i a s k')
    (h : ∀ (again : τ → Option β) (i : Nat) a s, l[i]? = some a → i < l.length → Inv i s → body again (enc i s) = step i a s fun s' => again (enc ((i + 1 : Nat) : Int) s'))
    (hend : ∀ (again : τ → Option β) s, Inv l.length s → body again (enc l.length s) = fin s) (hl : l.length < 2 ^ 64) (s : σ) (h0 : Inv 0 s) : loopO body (enc 0 s) = walkS step fin 0 l s := by
  refine (loopO_for (σ := σ) (fun i s => enc (i : Int) s) l.length (fun i s => walkS step fin i (l.drop i) s) Inv (fun again s hs => ?_) (fun again i s hi hs ih => ?_) hl (i := 0) (s := s) (Nat.zero_le _) h0).trans rfl
  · simp [hend _ _ hs, walkS]
  · rw [h again i l[i] s (List.getElem?_eq_getElem hi) hi hs, List.drop_eq_getElem_cons hi, walkS]
    exact hc i l[i] s _ _ (List.getElem?_eq_getElem hi) hs fun s' hs' => ih s' hs'

theorem walk_any {α : Type} (p : α → Bool) : ∀ (l : List α) (i : Nat), walk (fun _ a k => if p a = true then some true else k) (some false) i l = some (l.any p)
  | [], _ => rfl
  | a :: l, i => by
    rw [walk, walk_any p l]
    cases h : p a <;> simp [h]

theorem walk_all {α : Type} (p : α → Bool) : ∀ (l : List α) (i : Nat), walk (fun _ a k => if p a = true then k else some false) (some true) i l = some (l.all p)
  | [], _ => rfl
  | a :: l, i => by
    rw [walk, walk_all p l]
    cases h : p a <;> simp [h]

theorem walk_index {α : Type} (p : α → Bool) : ∀ (l : List α) (i : Nat), ∃ j : Int, walk (fun i a k => if p a = true then some (i : Int) else k) (some (-1)) i l = some j ∧ decide (j ≥ 0) = l.any p
  | [], _ => ⟨-1, rfl, rfl⟩
  | a :: l, i => by
    obtain ⟨j, h1, h2⟩ := walk_index p l (i + 1)
    cases h : p a
    · exact ⟨j, by simp [walk, h, h1], by simp [h, h2]⟩
    · exact ⟨i, by simp [walk, h], by simp [h]⟩

theorem toIntS_eq {x : List Int} (h : x.length ≤ 1048576) : M_L_toIntS x = some x := by
  unfold M_L_toIntS
  have hx : (x.length : Int) ≤ ((lim : Nat) : Int) := by rw [lim_eq]; omega
  rw [guardO_of (by simpa using hx), bindO_some']
  refine (loopO_for (σ := List Int) (fun i s => ((i : Int), s)) x.length (fun i s => some (x.take i ++ x.drop i)) (fun i s => s = x.take i ++ List.replicate (x.length - i) 0) (fun again s hs => ?_) (fun again i s hi hs ih => ?_) (by omega) (i := 0) (s := List.replicate x.length 0) (Nat.zero_le _) (by simp)).trans (by simp)
  · subst hs; simp
  · subst hs
    have h1 : (x.take i ++ List.replicate (x.length - i) (0 : Int))[i]? = some 0 := by
      rw [List.getElem?_append_right (by simp; omega)]
      simp [List.getElem?_replicate]
      omega
    have h2 : (x.take i ++ List.replicate (x.length - i) (0 : Int)).set i x[i] = x.take (i + 1) ++ List.replicate (x.length - (i + 1)) 0 := by
      refine List.ext_getElem? fun j => ?_
      rw [List.getElem?_set]
      by_cases hij : i = j
      · subst hij
        rw [if_pos rfl, if_pos (by simp; omega), List.getElem?_append_left (by simp; omega), List.getElem?_take, if_pos (by omega), List.getElem?_eq_getElem hi]
      · rw [if_neg hij]
        by_cases hj : j < i
        · rw [List.getElem?_append_left (by simp; omega), List.getElem?_append_left (by simp; omega), List.getElem?_take, List.getElem?_take, if_pos hj, if_pos (by omega)]
        · rw [List.getElem?_append_right (by simp; omega), List.getElem?_append_right (by simp; omega)]
          simp only [List.length_take, List.getElem?_replicate]
          rw [Nat.min_eq_left (by omega), Nat.min_eq_left (by omega)]
          by_cases hjx : j < x.length
          · rw [if_pos (by omega), if_pos (by omega)]
          · rw [if_neg (by omega), if_neg (by omega)]
    simp only [getI_nat, List.getElem?_eq_getElem hi, h1, bindO_some', Int.toNat_natCast, h2, i64_succ (show i < 2 ^ 62 by omega)]
    rw [ih _ rfl]
    simp [hi]

theorem eqIntS_eq {a b : List Int} (h : a.length < 2 ^ 62) : M_L_eqIntS (a, b) = some (decide (a = b)) := by
  unfold M_L_eqIntS
  by_cases hl : a.length = b.length
  · have e1 : ((a.length : Int) != (b.length : Int)) = false := by simp [hl]
    dsimp only
    rw [e1]
    simp only [cond_false]
    refine (loopO_for (σ := Unit) (fun i _ => (i : Int)) a.length (fun i _ => some (decide (a.drop i = b.drop i))) (fun _ _ => True) (fun again _ _ => ?_) (fun again i _ hi _ ih => ?_) (by omega) (i := 0) (s := ()) (Nat.zero_le _) trivial).trans (by simp)
    · simp [hl]
    · have hi' : i < b.length := by omega
      simp only [getI_nat, List.getElem?_eq_getElem hi, List.getElem?_eq_getElem hi', bindO_some', i64_succ (show i < 2 ^ 62 by omega), ih () trivial]
      rw [List.drop_eq_getElem_cons hi, List.drop_eq_getElem_cons hi']
      by_cases he : a[i] = b[i] <;> simp [bne_dec, he, hi, -List.getElem_cons_drop]
  · have e1 : ((a.length : Int) != (b.length : Int)) = true := by simp; omega
    dsimp only
    rw [e1]
    simp only [cond_true, Option.some.injEq]
    symm
    simp only [decide_eq_false_iff_not]
    rintro rfl
    exact hl rfl

theorem has_eq {l : List Int} {n : Int} (hl : l.length < 2 ^ 62) : M_S_l1Has (l, n) = some (l.any (· == n)) := by
  unfold M_S_l1Has
  refine (loop_walk l (fun _ a k => if (a == n) = true then some true else k) (some false) (fun again i a ha hi => ?_) (fun again => ?_) (by omega)).trans (walk_any _ l 0)
  · simp only [getI_nat, ha, bindO_some', i64_succ (show i < 2 ^ 62 by omega)]
    cases h : a == n <;> simp [h, hi]
  · simp

theorem index_eq {l : List Int} {n : Int} (hl : l.length < 2 ^ 62) : ∃ j : Int, M_slices_Index_sint_int (l, n) = some j ∧ decide (j ≥ 0) = l.any (· == n) := by
  obtain ⟨j, h1, h2⟩ := walk_index (fun a : Int => a == n) l 0
  refine ⟨j, ?_, h2⟩
  unfold M_slices_Index_sint_int
  refine (loop_walk l (fun i a k => if (a == n) = true then some (i : Int) else k) (some (-1)) (fun again i a ha hi => ?_) (fun again => ?_) (by omega)).trans h1
  · simp only [getI_nat, ha, bindO_some', i64_succ (show i < 2 ^ 62 by omega), lt_yes hi, cond_true]
    rw [show (n == a) = (a == n) from BEq.comm]
    cases h : a == n <;> simp [h]
  · simp

theorem lenOk_of {n : Nat} (h : n ≤ 68719476736) : lenOk n = true := by simp [lenOk, lim_eq, h]

theorem sliceNH_nat {h n : Nat} (hh : h ≤ n) : sliceNH (h : Int) n = some (0, h) := by
  unfold sliceNH
  rw [if_pos ⟨by omega, by omega⟩]
  simp

theorem contains_eq {l : List Int} {n : Int} (hl : l.length < 2 ^ 62) : M_slices_Contains_sint_int (l, n) = some (l.any (· == n)) := by
  obtain ⟨j, h1, h2⟩ := index_eq (n := n) hl
  unfold M_slices_Contains_sint_int
  dsimp only
  rw [h1, bindO_some', h2]

/-- A loop whose states go down: a property of its answer. -/
theorem loopO_ind {σ β : Type} {body : (σ → Option β) → σ → Option β} (Q : σ → Option β → Prop) (Inv : σ → Prop) (μ : σ → Nat)
    (step : ∀ (again : σ → Option β) s, Inv s → (∀ s', Inv s' → μ s' < μ s → Q s' (again s')) → Q s (body again s)) {s : σ} (h0 : Inv s) (hm : μ s < 2 ^ 64) : Q s (loopO body s) := by
  rw [loopO_eq]
  have H : ∀ (n : Nat) (s : σ), Inv s → μ s < n → Q s (iter body n s) := by
    intro n
    induction n with
    | zero => intro s _ h; exact absurd h (Nat.not_lt_zero _)
    | succ n ih => intro s hs h; exact step _ s hs fun s' hs' h' => ih s' hs' (by omega)
  exact H many s h0 hm

theorem in_eq (x a b : Int) : M_S_l1In (x, a, b) = some (decide (a ≤ x ∧ x ≤ b)) := by
  by_cases h : a ≤ x <;> by_cases h2 : x ≤ b <;> simp [M_S_l1In, h, h2]

theorem within_eq (x a b : Int) : M_I_within (x, a, b) = some (decide (a ≤ x ∧ x ≤ b)) := by
  by_cases h : a ≤ x <;> by_cases h2 : x ≤ b <;> simp [M_I_within, h, h2]

theorem isModulus_eq (x : Int) : M_I_isModulus x = some (decide (2 ≤ x ∧ x ≤ 2000000000)) := by
  unfold M_I_isModulus
  rw [within_eq]
  rfl

def IsP (n : Int) : Prop := 2 ≤ n ∧ ∀ d, 2 ≤ d → d * d ≤ n → n % d ≠ 0

noncomputable def isP (n : Int) : Bool := @decide (IsP n) (Classical.propDecidable _)

/-- No divisor from d on. -/
def NoDiv (n s : Int) : Prop := ∀ d, s ≤ d → d * d ≤ n → n % d ≠ 0

noncomputable def noDiv (n s : Int) : Bool := @decide (NoDiv n s) (Classical.propDecidable _)

theorem noDiv_end {n s : Int} (hs : 0 ≤ s) (h : n < s * s) : noDiv n s = true := by
  simp only [noDiv, decide_eq_true_eq]
  intro d hd hdd
  have := Int.mul_le_mul hd hd hs (by omega)
  omega

theorem noDiv_hit {n s : Int} (h : s * s ≤ n) (h2 : n % s = 0) : noDiv n s = false := by
  simp only [noDiv, decide_eq_false_iff_not]
  intro hn
  exact hn s (Int.le_refl _) h h2

theorem noDiv_step {n s : Int} (h2 : s * s ≤ n → n % s ≠ 0) : noDiv n s = noDiv n (s + 1) := by
  simp only [noDiv, decide_eq_decide]
  constructor
  · intro h d hd hdd
    exact h d (by omega) hdd
  · intro h d hd hdd
    by_cases he : d = s
    · subst he
      exact h2 hdd
    · exact h d (by omega) hdd

theorem sq_lt {s : Int} (h0 : 0 ≤ s) (h : s * s ≤ 2000000000) : s ≤ 44721 := by
  refine Int.not_lt.1 fun hlt => ?_
  have := Int.mul_le_mul (show (44722 : Int) ≤ s by omega) (show (44722 : Int) ≤ s by omega) (by omega) h0
  omega

theorem sq_le {s k : Int} (h0 : 0 ≤ s) (h : s ≤ k) : s * s ≤ k * k := Int.mul_le_mul h h h0 (by omega)

theorem nPrime_eq {n : Int} (hn : n ≤ 2000000000) : M_S_nPrime n = some (isP n) := by
  unfold M_S_nPrime
  by_cases h2 : n < 2
  · have : isP n = false := by simp only [isP, decide_eq_false_iff_not]; intro h; have := h.1; omega
    simp [h2, this]
  · have hb : decide (n < 2) = false := by simpa using h2
    rw [hb, cond_false]
    have h1 : isP n = noDiv n 2 := by
      simp only [isP, noDiv, decide_eq_decide]
      exact ⟨fun h => h.2, fun h => ⟨by omega, h⟩⟩
    rw [h1]
    refine loopO_spec (fun s => some (noDiv n s)) (fun s => 2 ≤ s ∧ s ≤ 50000) (fun s => (50000 - s).toNat) (fun again s hs ih => ?_) ⟨by omega, by omega⟩ (by omega)
    obtain ⟨hs1, hs2⟩ := hs
    have hq := sq_le (by omega) hs2
    have hq0 : 0 ≤ s * s := Int.mul_nonneg (by omega) (by omega)
    simp only [bindO_some', i64_in _ (show (-9223372036854775808 : Int) ≤ s * s ∧ s * s ≤ 9223372036854775807 by omega)]
    by_cases hle : s * s ≤ n
    · have := sq_lt (by omega) (show s * s ≤ 2000000000 by omega)
      have hgs : guardO (s != 0) = some () := guardO_of (by simp; omega)
      simp only [hle, decide_true, cond_true, hgs, bindO_some', tmod_nn (show 0 ≤ n by omega)]
      by_cases h0 : n % s = 0
      · simp [h0, noDiv_hit hle h0]
      · have hb : (n % s == 0) = false := by simpa using h0
        have hw := i64_in (s + 1) (by omega)
        have hi := ih (s + 1) ⟨by omega, by omega⟩ (by omega)
        have hn := noDiv_step (n := n) (s := s) (fun _ => h0)
        rw [hb, cond_false, hw, hi, hn]
    · simp [hle, noDiv_end (by omega) (show n < s * s by omega)]

theorem odd_loop {n : Int} (hn : n ≤ 2000000000) (h2 : 2 ≤ n) (hodd : n % 2 = 1 ∨ n = 2) : loopO (fun (again9 : (Int → (Option Bool))) => (fun (s10 : Int) => (bindO (some (IntKind.wrap .i64 (s10 * s10))) (fun (a11 : Int) => (cond (decide (a11 ≤ n)) (bindO (guardO (s10 != (0 : Int))) (fun (a12 : Unit) => (bindO (some (Int.tmod n s10)) (fun (a13 : Int) => (cond (a13 == (0 : Int)) (some false) (bindO (some (IntKind.wrap .i64 (s10 + (2 : Int)))) (fun (a14 : Int) => (again9 a14)))))))) (some true)))))) (3 : Int) = some (noDiv n 3) := by
  refine loopO_spec (fun s => some (noDiv n s)) (fun s => 3 ≤ s ∧ s ≤ 50000 ∧ s % 2 = 1) (fun s => (50000 - s).toNat) (fun again s hs ih => ?_) ⟨by omega, by omega, by omega⟩ (by omega)
  obtain ⟨hs1, hs2, hs3⟩ := hs
  have hq := sq_le (by omega) hs2
  have hq0 : 0 ≤ s * s := Int.mul_nonneg (by omega) (by omega)
  simp only [bindO_some', i64_in _ (show (-9223372036854775808 : Int) ≤ s * s ∧ s * s ≤ 9223372036854775807 by omega)]
  by_cases hle : s * s ≤ n
  · have := sq_lt (by omega) (show s * s ≤ 2000000000 by omega)
    have h9 := sq_le (show (0 : Int) ≤ 3 by omega) hs1
    have hgs : guardO (s != 0) = some () := guardO_of (by simp; omega)
    simp only [hle, decide_true, cond_true, hgs, bindO_some', tmod_nn (show 0 ≤ n by omega)]
    by_cases h0 : n % s = 0
    · simp [h0, noDiv_hit hle h0]
    · have hb : (n % s == 0) = false := by simpa using h0
      have hw := i64_in (s + 2) (by omega)
      have hi := ih (s + 2) ⟨by omega, by omega, by omega⟩ (by omega)
      have hn1 := noDiv_step (n := n) (s := s) (fun _ => h0)
      have hn2 := noDiv_step (n := n) (s := s + 1) (fun h8 h1 => by
        have := Int.emod_emod_of_dvd n (show (2 : Int) ∣ (s + 1) by omega)
        rw [h1] at this
        have h3 : n ≠ 2 := fun h => by subst h; omega
        omega)
      rw [hb, cond_false, hw, hi, hn1, hn2, show s + 1 + 1 = s + 2 by omega]
  · simp [hle, noDiv_end (by omega) (show n < s * s by omega)]

theorem isPrime_eq {n : Int} (hn : n ≤ 2000000000) : M_I_isPrime n = some (isP n) := by
  unfold M_I_isPrime
  rw [isModulus_eq]
  by_cases h2 : 2 ≤ n
  · have h1 : isP n = noDiv n 2 := by
      simp only [isP, noDiv, decide_eq_decide]
      exact ⟨fun h => h.2, fun h => ⟨h2, h⟩⟩
    have hg2 : guardO ((2 : Int) != 0) = some () := rfl
    by_cases ho : n % 2 = 1 ∨ n = 2
    · rw [odd_loop hn h2 ho, hg2]
      simp only [bindO_some', h2, hn, and_self, decide_true, Bool.not_true, cond_false, tmod_nn (show 0 ≤ n by omega), h1]
      rcases ho with ho | rfl
      · have hb : (n % 2 == 0) = false := by simp [ho]
        rw [hb, cond_false, noDiv_step (n := n) (s := 2) (fun _ => by omega)]
        rfl
      · rw [noDiv_end (n := 2) (s := 2) (by omega) (by omega), noDiv_end (n := 2) (s := 3) (by omega) (by omega)]
        rfl
    · have he : n % 2 = 0 := by omega
      have hn2 : n ≠ 2 := fun h => ho (.inr h)
      have hb : (n != 2) = true := by simpa using hn2
      simp only [bindO_some', hg2, h2, hn, and_self, decide_true, Bool.not_true, cond_false, tmod_nn (show 0 ≤ n by omega), he, beq_self_eq_true, cond_true, hb, h1]
      rw [noDiv_hit (by omega) he]
  · have : isP n = false := by simp only [isP, decide_eq_false_iff_not]; intro h; have := h.1; omega
    simp [h2, this]

theorem pow_mod (a m : Int) : ∀ k : Nat, (a % m) ^ k % m = a ^ k % m
  | 0 => by simp
  | k + 1 => by rw [Int.pow_succ, Int.pow_succ, Int.mul_emod, pow_mod a m k, ← Int.mul_emod, Int.mul_emod, Int.emod_emod_of_dvd _ (Int.dvd_refl m), ← Int.mul_emod]

theorem sq_pow (a : Int) (k : Nat) : (a * a) ^ k = a ^ (2 * k) := by
  rw [show a * a = a ^ 2 by rw [Int.pow_succ, Int.pow_succ, Int.pow_zero, Int.one_mul], ← Int.pow_mul]

/-- One round of the power loop. -/
theorem pow_round {out a m : Int} {e : Int} (he : 0 < e) : ((if e % 2 = 1 then out * a % m else out) * (a * a % m) ^ (e / 2).toNat) % m = (out * a ^ e.toNat) % m := by
  have hk : e.toNat = 2 * (e / 2).toNat + (e % 2).toNat := by omega
  rw [Int.mul_emod, pow_mod, ← Int.mul_emod, sq_pow]
  by_cases h : e % 2 = 1
  · rw [if_pos h, hk, h, Int.pow_add, show (1 : Int).toNat = 1 by rfl, Int.pow_succ, Int.pow_zero, Int.one_mul, Int.mul_emod, Int.emod_emod_of_dvd _ (Int.dvd_refl m), ← Int.mul_emod]
    congr 1
    rw [Int.mul_assoc, Int.mul_comm a]
  · rw [if_neg h, hk, show e % 2 = 0 by omega]
    rfl

theorem mul_in {a b : Int} (ha : 0 ≤ a) (ha2 : a ≤ 3000000000) (hb : 0 ≤ b) (hb2 : b ≤ 3000000000) : 0 ≤ a * b ∧ a * b ≤ 9000000000000000000 :=
  ⟨Int.mul_nonneg ha hb, by have := Int.mul_le_mul ha2 hb2 hb (by omega); omega⟩

theorem nPower_eq {a e m : Int} (ha : 0 ≤ a) (ha2 : a ≤ 3000000000) (he : 0 ≤ e) (he2 : e ≤ 9223372036854775807) (hm : 1 ≤ m) (hm2 : m ≤ 3000000000) : M_S_nPower (a, e, m) = some (a ^ e.toNat % m) := by
  unfold M_S_nPower
  dsimp only
  have hg : guardO (m != 0) = some () := guardO_of (by simp; omega)
  have hg2 : guardO ((2 : Int) != 0) = some () := rfl
  rw [hg, bindO_some', bindO_some', tmod_nn (by omega)]
  have hfin : a ^ e.toNat % m = (1 % m * a ^ e.toNat) % m := by rw [Int.mul_emod, Int.emod_emod_of_dvd _ (Int.dvd_refl m), ← Int.mul_emod, Int.one_mul]
  rw [hfin]
  refine loopO_spec (fun (s : Int × Int × Int) => some ((s.2.2 * s.1 ^ s.2.1.toNat) % m)) (fun s => 0 ≤ s.1 ∧ s.1 ≤ 3000000000 ∧ 0 ≤ s.2.1 ∧ s.2.1 ≤ 9223372036854775807 ∧ 0 ≤ s.2.2 ∧ s.2.2 < m) (fun s => s.2.1.toNat) (fun again s hs ih => ?_)
    (⟨ha, ha2, he, he2, Int.emod_nonneg _ (by omega), Int.emod_lt_of_pos _ (by omega)⟩) (show e.toNat < 2 ^ 64 by omega)
  obtain ⟨a, e, out⟩ := s
  obtain ⟨h1, h2, h3, h4, h5, h6⟩ := hs
  dsimp only at h1 h2 h3 h4 h5 h6 ih ⊢
  have hoa := mul_in h5 (show out ≤ 3000000000 by omega) h1 h2
  have haa := mul_in h1 h2 h1 h2
  by_cases hpos : e > 0
  · have hr := pow_round (out := out) (a := a) (m := m) hpos
    have haam := Int.emod_nonneg (a * a) (show m ≠ 0 by omega)
    have haam2 := Int.emod_lt_of_pos (a * a) (show 0 < m by omega)
    have hoam := Int.emod_nonneg (out * a) (show m ≠ 0 by omega)
    have hoam2 := Int.emod_lt_of_pos (out * a) (show 0 < m by omega)
    simp only [hpos, decide_true, cond_true, hg, hg2, bindO_some', tmod_nn h3, tdiv_nn h3, i64_in _ (show (-9223372036854775808 : Int) ≤ out * a ∧ out * a ≤ 9223372036854775807 by omega), i64_in _ (show (-9223372036854775808 : Int) ≤ a * a ∧ a * a ≤ 9223372036854775807 by omega),
      tmod_nn hoa.1, tmod_nn haa.1, i64_in _ (show (-9223372036854775808 : Int) ≤ e / 2 ∧ e / 2 ≤ 9223372036854775807 by omega)]
    by_cases ho : e % 2 = 1
    · rw [if_pos ho] at hr
      rw [show (e % 2 == 1) = true by simp [ho], cond_true, ih (a * a % m, e / 2, out * a % m) ⟨haam, by dsimp only; omega, by dsimp only; omega, by dsimp only; omega, hoam, hoam2⟩ (by dsimp only; omega)]
      exact congrArg some hr
    · rw [if_neg ho] at hr
      rw [show (e % 2 == 1) = false by simp [ho], cond_false, ih (a * a % m, e / 2, out) ⟨haam, by dsimp only; omega, by dsimp only; omega, by dsimp only; omega, h5, h6⟩ (by dsimp only; omega)]
      exact congrArg some hr
  · have : e = 0 := by omega
    subst this
    simp [Int.emod_eq_of_lt h5 h6]

theorem bits_one {x : Int} (h : 0 ≤ x) : Vd.bits .and .i64 x 1 = x % 2 := by
  obtain ⟨n, rfl⟩ := Int.eq_ofNat_of_zero_le h
  have h1 : (BitVec.ofInt 64 ((n : Nat) : Int) &&& BitVec.ofInt 64 1).toNat = n % 2 := by
    rw [BitVec.toNat_and]
    have e1 : (BitVec.ofInt 64 ((n : Nat) : Int)).toNat = n % 2 ^ 64 := by simp
    have e2 : (BitVec.ofInt 64 1).toNat = 1 := by decide
    rw [e1, e2, Nat.and_one_is_mod]
    omega
  show IntKind.wrap .i64 (((BitVec.ofInt 64 ((n : Nat) : Int) &&& BitVec.ofInt 64 1).toNat : Nat) : Int) = _
  rw [h1, i64_in _ (by omega)]
  omega

theorem shr_one {x : Int} : Vd.shr .i64 x 1 = x / 2 := by
  show x.fdiv (2 ^ (min (1 : Int).toNat 64)) = x / 2
  rw [show ((2 : Int) ^ (min (1 : Int).toNat 64)) = 2 by decide, fdiv_pos (by omega)]

theorem power_eq {a e m : Int} (he : e ≤ 9223372036854775807) : M_I_power (a, e, m) = M_S_nPower (a, e, m) := by
  unfold M_I_power M_S_nPower
  congr 1
  funext _
  congr 1
  funext out
  refine loopO_congr (fun s => s.2.1 ≤ 9223372036854775807) (fun a1 a2 s hs ih => ?_) he
  by_cases hpos : s.2.1 > 0
  · have hg2 : guardO ((2 : Int) != 0) = some () := rfl
    have hg3 : guardO (decide ((0 : Int) ≤ 1)) = some () := rfl
    have hw : ∀ (x : Int) y, a1 (x, s.2.1 / 2, y) = a2 (x, s.2.1 / 2, y) := fun x y => ih _ (by dsimp only; omega)
    simp only [hpos, decide_true, cond_true, hg2, hg3, bindO_some', bits_one (show 0 ≤ s.2.1 by omega), shr_one, tmod_nn (show 0 ≤ s.2.1 by omega), tdiv_nn (show 0 ≤ s.2.1 by omega),
      i64_in _ (show (-9223372036854775808 : Int) ≤ s.2.1 / 2 ∧ s.2.1 / 2 ≤ 9223372036854775807 by omega), hw]
  · simp [hpos]

theorem l1All_eq {l : List Int} {lo hi : Int} (hl : l.length < 2 ^ 62) : M_S_l1All (l, lo, hi) = some (l.all fun n => decide (lo ≤ n ∧ n ≤ hi)) := by
  unfold M_S_l1All
  refine (loop_walk l (fun _ a k => if (decide (lo ≤ a ∧ a ≤ hi)) = true then k else some false) (some true) (fun again i a ha hi' => ?_) (fun again => ?_) (by omega)).trans (walk_all (fun n => decide (lo ≤ n ∧ n ≤ hi)) l 0)
  · simp only [getI_nat, ha, bindO_some', i64_succ (show i < 2 ^ 62 by omega), lt_yes hi', cond_true, in_eq]
    cases decide (lo ≤ a ∧ a ≤ hi) <;> rfl
  · simp

theorem walk_index_mem {α : Type} (p : α → Bool) (f : α → Option Bool) : ∀ (l : List α) (i : Nat), (∀ a ∈ l, f a = some (p a)) →
    ∃ j : Int, walk (fun i a k => bindO (f a) fun b => cond b (some (i : Int)) k) (some (-1)) i l = some j ∧ decide (j ≥ 0) = l.any p
  | [], _, _ => ⟨-1, rfl, rfl⟩
  | a :: l, i, hf => by
    obtain ⟨j, h1, h2⟩ := walk_index_mem p f l (i + 1) fun b hb => hf b (List.mem_cons_of_mem _ hb)
    have ha := hf a (List.mem_cons_self ..)
    cases h : p a
    · exact ⟨j, by simp [walk, ha, h, h1], by simp [h, h2]⟩
    · exact ⟨i, by simp [walk, ha, h], by simp [h]⟩

theorem containsFunc_eq {l : List Int} {f : Int → Option Bool} {p : Int → Bool} (hl : l.length < 2 ^ 62) (hf : ∀ a ∈ l, f a = some (p a)) : M_slices_ContainsFunc_sint_int (l, f) = some (l.any p) := by
  obtain ⟨j, h1, h2⟩ := walk_index_mem p f l 0 hf
  unfold M_slices_ContainsFunc_sint_int
  have : M_slices_IndexFunc_sint_int (l, f) = some j := by
    unfold M_slices_IndexFunc_sint_int
    refine (loop_walk l _ _ (fun again i a ha hi => ?_) (fun again => ?_) (by omega)).trans h1
    · simp only [getI_nat, ha, bindO_some', i64_succ (show i < 2 ^ 62 by omega), lt_yes hi, cond_true]
    · simp
  dsimp only
  rw [this, bindO_some', h2]

theorem areAll_eq {l : List Int} {f : Int → Option Bool} {p : Int → Bool} (hl : l.length < 2 ^ 62) (hf : ∀ a ∈ l, f a = some (p a)) : M_I_areAll (l, f) = some (l.all p) := by
  unfold M_I_areAll
  dsimp only
  rw [containsFunc_eq (p := fun a => !p a) hl fun a ha => by simp [M_I_areAll_1, hf a ha], bindO_some']
  congr 1
  rw [List.any_eq_not_all_not]
  simp

noncomputable def okG (p q g : Int) : Bool := decide (3 ≤ p ∧ p ≤ 2000000000) && (decide (2 ≤ q ∧ q ≤ p - 1) && ((p - 1) % q == 0 && (decide (2 ≤ g ∧ g ≤ p - 1) && (g ^ q.toNat % p == 1 && (isP q && isP p)))))

theorem l2Good_eq (p q g : Int) : M_S_l2Good (p, q, g) = some (okG p q g) := by
  unfold M_S_l2Good okG
  simp only [in_eq, bindO_some']
  by_cases h1 : 3 ≤ p ∧ p ≤ 2000000000
  · rw [i64_in (p - 1) (by omega)]
    simp only [h1, and_self, decide_true, cond_true, Bool.true_and]
    by_cases h2 : 2 ≤ q ∧ q ≤ p - 1
    · have hq : guardO (q != 0) = some () := guardO_of (by simp; omega)
      simp only [h2, and_self, decide_true, cond_true, Bool.true_and, hq, bindO_some', tmod_nn (show 0 ≤ p - 1 by omega)]
      by_cases h3 : (p - 1) % q = 0
      · simp only [h3, beq_self_eq_true, cond_true, Bool.true_and]
        by_cases h4 : 2 ≤ g ∧ g ≤ p - 1
        · simp only [h4, and_self, decide_true, cond_true, Bool.true_and, nPower_eq (show 0 ≤ g by omega) (show g ≤ 3000000000 by omega) (show 0 ≤ q by omega) (show q ≤ 9223372036854775807 by omega) (show 1 ≤ p by omega) (show p ≤ 3000000000 by omega), bindO_some',
            nPrime_eq (show q ≤ 2000000000 by omega), nPrime_eq (show p ≤ 2000000000 by omega)]
          cases (g ^ q.toNat % p == 1) <;> cases isP q <;> cases isP p <;> rfl
        · simp [h4]
      · have hb : ((p - 1) % q == 0) = false := by simpa using h3
        simp [hb]
    · simp [h2]
  · simp [h1]

theorem IsValidGroup_eq (p q g : Int) : M_I_IsValidGroup (p, q, g) = some (okG p q g) := by
  unfold M_I_IsValidGroup okG
  simp only [within_eq, bindO_some']
  by_cases h1 : 3 ≤ p ∧ p ≤ 2000000000
  · rw [i64_in (p - 1) (by omega)]
    simp only [h1, and_self, decide_true, cond_true, Bool.true_and]
    by_cases h2 : 2 ≤ q ∧ q ≤ p - 1
    · have hq : guardO (q != 0) = some () := guardO_of (by simp; omega)
      simp only [h2, and_self, decide_true, cond_true, Bool.true_and, hq, bindO_some', tmod_nn (show 0 ≤ p - 1 by omega)]
      by_cases h3 : (p - 1) % q = 0
      · simp only [h3, beq_self_eq_true, cond_true, Bool.true_and]
        by_cases h4 : 2 ≤ g ∧ g ≤ p - 1
        · simp only [h4, and_self, decide_true, cond_true, Bool.true_and, power_eq (show q ≤ 9223372036854775807 by omega), nPower_eq (show 0 ≤ g by omega) (show g ≤ 3000000000 by omega) (show 0 ≤ q by omega) (show q ≤ 9223372036854775807 by omega) (show 1 ≤ p by omega) (show p ≤ 3000000000 by omega), bindO_some',
            isPrime_eq (show q ≤ 2000000000 by omega), isPrime_eq (show p ≤ 2000000000 by omega)]
          cases (g ^ q.toNat % p == 1) <;> cases isP q <;> cases isP p <;> rfl
        · simp [h4]
      · have hb : ((p - 1) % q == 0) = false := by simpa using h3
        simp [hb]
    · simp [h2]
  · simp [h1]

/-- What a valid group fulfils. -/
structure Gr (p q g : Int) : Prop where
  p3 : 3 ≤ p
  pm : p ≤ 2000000000
  q2 : 2 ≤ q
  qp : q ≤ p - 1
  dv : (p - 1) % q = 0
  g2 : 2 ≤ g
  gp : g ≤ p - 1
  gq : g ^ q.toNat % p = 1
  pq : isP q = true
  pp : isP p = true

theorem okG_spec {p q g : Int} (h : okG p q g = true) : Gr p q g := by
  simp only [okG, Bool.and_eq_true, decide_eq_true_eq, beq_iff_eq] at h
  obtain ⟨⟨h1, h2⟩, ⟨h3, h4⟩, h5, ⟨h6, h7⟩, h8, h9, h10⟩ := h
  exact ⟨h1, h2, h3, h4, h5, h6, h7, h8, h9, h10⟩

theorem nMod_eq {a m : Int} (hm : 1 ≤ m) (hm2 : m ≤ 4611686018427387903) : M_S_nMod (a, m) = some (a % m) := by
  unfold M_S_nMod
  have hg : guardO (m != 0) = some () := guardO_of (by simp; omega)
  have h1 := Int.tmod_lt_of_pos a (show 0 < m by omega)
  have h2 : -m < a.tmod m := Int.lt_tmod_of_pos a (by omega)
  simp only [hg, bindO_some', i64_in (a.tmod m + m) (by omega), tmod_nn (show 0 ≤ a.tmod m + m by omega)]
  congr 1
  rw [Int.add_emod_right]
  have h3 := Int.mul_tdiv_add_tmod a m
  have : a % m = (m * a.tdiv m + a.tmod m) % m := by rw [h3]
  rw [this, Int.mul_add_emod_self_left]

theorem mod_eq {x : Int × Int} : M_I_mod x = M_S_nMod x := rfl

theorem gExp_eq {p q g x e : Int} (h : Gr p q g) (hx : 0 ≤ x) (hx2 : x ≤ p) : M_S_gExp ((p, q, g), x, e) = some (x ^ (e % q).toNat % p) := by
  unfold M_S_gExp
  have := h.p3; have := h.pm; have := h.q2; have := h.qp
  have h1 := Int.emod_nonneg e (show q ≠ 0 by omega)
  have h2 := Int.emod_lt_of_pos e (show 0 < q by omega)
  dsimp only
  rw [nMod_eq (by omega) (by omega), bindO_some', nPower_eq hx (by omega) h1 (by omega) (by omega) (by omega), bindO_some']

theorem Group_pow_eq {p q g x e : Int} (h : Gr p q g) (hx : 0 ≤ x) (hx2 : x ≤ p) : M_I_Group_pow ((p, q, g), x, e) = some (x ^ (e % q).toNat % p) := by
  unfold M_I_Group_pow
  have := h.p3; have := h.pm; have := h.q2; have := h.qp
  have h1 := Int.emod_nonneg e (show q ≠ 0 by omega)
  have h2 := Int.emod_lt_of_pos e (show 0 < q by omega)
  dsimp only
  rw [mod_eq, nMod_eq (by omega) (by omega), bindO_some', power_eq (by omega), nPower_eq hx (by omega) h1 (by omega) (by omega) (by omega), bindO_some']

theorem isExp_eq {p q g e : Int} (h : Gr p q g) : M_I_Group_isExp ((p, q, g), e) = some (decide (0 ≤ e ∧ e ≤ q - 1)) := by
  unfold M_I_Group_isExp
  have := h.pm; have := h.q2; have := h.qp
  simp only [bindO_some', i64_in (q - 1) (by omega), within_eq]

theorem gExps_eq {p q g : Int} {l : List Int} (h : Gr p q g) (hl : l.length < 2 ^ 62) : M_S_gExps ((p, q, g), l) = some (l.all fun e => decide (0 ≤ e ∧ e ≤ q - 1)) := by
  unfold M_S_gExps
  have := h.pm; have := h.q2; have := h.qp
  simp only [bindO_some', i64_in (q - 1) (by omega), l1All_eq hl]

/-- Is a number an element? -/
def isEl (p q x : Int) : Bool := decide (1 ≤ x ∧ x ≤ p - 1) && x ^ q.toNat % p == 1

theorem has_eq' {p q g x : Int} (h : Gr p q g) : M_I_Group_has ((p, q, g), x) = some (isEl p q x) := by
  unfold M_I_Group_has isEl
  have := h.p3; have := h.pm; have := h.q2; have := h.qp
  simp only [bindO_some', i64_in (p - 1) (by omega), within_eq]
  by_cases hx : 1 ≤ x ∧ x ≤ p - 1
  · simp [hx, power_eq (show q ≤ 9223372036854775807 by omega), nPower_eq (show 0 ≤ x by omega) (show x ≤ 3000000000 by omega) (show 0 ≤ q by omega) (show q ≤ 9223372036854775807 by omega) (show 1 ≤ p by omega) (show p ≤ 3000000000 by omega)]
  · simp [hx]

theorem gIs_eq {p q g : Int} {l : List Int} (h : Gr p q g) (hl : l.length < 2 ^ 62) : M_S_gIs ((p, q, g), l) = some (l.all (isEl p q)) := by
  unfold M_S_gIs
  have := h.p3; have := h.pm; have := h.q2; have := h.qp
  refine (loop_walk l (fun _ a k => if (isEl p q a) = true then k else some false) (some true) (fun again i a ha hi' => ?_) (fun again => ?_) (by omega)).trans (walk_all (isEl p q) l 0)
  · simp only [getI_nat, ha, bindO_some', i64_succ (show i < 2 ^ 62 by omega), lt_yes hi', cond_true, in_eq, i64_in (p - 1) (by omega)]
    by_cases hx : 1 ≤ a ∧ a ≤ p - 1
    · simp only [isEl, hx, and_self, decide_true, Bool.not_true, cond_false, Bool.true_and, nPower_eq (show 0 ≤ a by omega) (show a ≤ 3000000000 by omega) (show 0 ≤ q by omega) (show q ≤ 9223372036854775807 by omega) (show 1 ≤ p by omega) (show p ≤ 3000000000 by omega), bindO_some']
      by_cases h1 : a ^ q.toNat % p = 1 <;> simp [h1, bne_dec]
    · simp [isEl, hx]
  · simp

theorem isEl_range {p q x : Int} (h : isEl p q x = true) : 1 ≤ x ∧ x ≤ p - 1 ∧ x ^ q.toNat % p = 1 := by
  simp only [isEl, Bool.and_eq_true, decide_eq_true_eq, beq_iff_eq] at h
  exact ⟨h.1.1, h.1.2, h.2⟩

/-- A product of residues. -/
def prodM (p : Int) : Int → List Int → Int
  | out, [] => out
  | out, x :: l => prodM p (out * x % p) l

theorem prodM_range {p : Int} (hp : 1 ≤ p) : ∀ (l : List Int) (out : Int), 0 ≤ out → out < p ∨ l ≠ [] → 0 ≤ prodM p out l ∧ (prodM p out l < p)
  | [], out, h, h2 => ⟨h, h2.resolve_right (by simp)⟩
  | x :: l, out, h, _ => prodM_range hp l _ (Int.emod_nonneg _ (by omega)) (.inl (Int.emod_lt_of_pos _ (by omega)))

theorem gMul_loop {p : Int} (hp : 1 ≤ p) (hp2 : p ≤ 3000000000) (l : List Int) (hx : ∀ x ∈ l, 0 ≤ x ∧ x ≤ 3000000000) (hl : l.length < 2 ^ 62) {body : (Int × Int → Option Int) → Int × Int → Option Int} 
    (h : ∀ (again : Int × Int → Option Int) (s : Int × Int), body again s = (cond (decide (s.2 < ((l.length : Nat) : Int))) (bindO (getI l s.2) fun a => bindO (some (IntKind.wrap .i64 (s.1 * a))) fun b => bindO (guardO (p != 0)) fun _ => bindO (some (b.tmod p)) fun c => bindO (some (IntKind.wrap .i64 (s.2 + 1))) fun d => again (c, d)) (some s.1))) :
    loopO body (1, 0) = some (prodM p 1 l) := by
  have hg : guardO (p != 0) = some () := guardO_of (by simp; omega)
  refine (loopO_for (σ := Int) (fun i s => (s, (i : Int))) l.length (fun i s => some (prodM p s (l.drop i))) (fun _ s => 0 ≤ s ∧ s ≤ 3000000000) (fun again s hs => ?_) (fun again i s hi hs ih => ?_) (by omega) (i := 0) (s := 1) (Nat.zero_le _) ⟨by omega, by omega⟩).trans (by simp)
  · rw [h]; simp [prodM]
  · have hm := hx l[i] (List.getElem_mem hi)
    have hb := mul_in hs.1 hs.2 hm.1 hm.2
    have h1 := Int.emod_nonneg (s * l[i]) (show p ≠ 0 by omega)
    have h2 := Int.emod_lt_of_pos (s * l[i]) (show 0 < p by omega)
    rw [h]
    simp only [lt_yes hi, cond_true, getI_nat, List.getElem?_eq_getElem hi, bindO_some', hg, i64_succ (show i < 2 ^ 62 by omega), i64_in (s * l[i]) (by omega), tmod_nn hb.1]
    rw [ih _ ⟨h1, by omega⟩, List.drop_eq_getElem_cons hi, prodM]

theorem gMul_eq {p q g : Int} {l : List Int} (h : Gr p q g) (hx : ∀ x ∈ l, 0 ≤ x ∧ x ≤ 3000000000) (hl : l.length < 2 ^ 62) : M_S_gMul ((p, q, g), l) = some (prodM p 1 l) := by
  unfold M_S_gMul
  have := h.p3; have := h.pm
  exact gMul_loop (by omega) (by omega) l hx hl fun _ _ => rfl

theorem Group_mul_eq {p q g : Int} {l : List Int} (h : Gr p q g) (hx : ∀ x ∈ l, 0 ≤ x ∧ x ≤ 3000000000) (hl : l.length < 2 ^ 62) : M_I_Group_mul ((p, q, g), l) = some (prodM p 1 l) := by
  unfold M_I_Group_mul
  have := h.p3; have := h.pm
  exact gMul_loop (by omega) (by omega) l hx hl fun _ _ => rfl

def hstep (c s k : Int) : Int := (c * s + k + 1) % 2147483647

def absorb (s : Int × Int) (x : Int) : Int × Int :=
  (hstep 48271 (hstep 48271 s.1 (x % 2147483648)) (x / 2147483648), hstep 69621 (hstep 69621 s.2 (x % 2147483648)) (x / 2147483648))

def digest (l : List Int) : Int := ((l.foldl absorb (absorb (1, 2) (l.length : Int))).1) * 2147483648 + (l.foldl absorb (absorb (1, 2) (l.length : Int))).2

def HOk (s : Int × Int) : Prop := 0 ≤ s.1 ∧ s.1 < 2147483648 ∧ 0 ≤ s.2 ∧ s.2 < 2147483648

theorem hstep_range (c s k : Int) : 0 ≤ hstep c s k ∧ hstep c s k < 2147483647 :=
  ⟨Int.emod_nonneg _ (by omega), Int.emod_lt_of_pos _ (by omega)⟩

theorem absorb_ok (s : Int × Int) (x : Int) : HOk (absorb s x) := by
  have h1 := hstep_range 48271 (hstep 48271 s.1 (x % 2147483648)) (x / 2147483648)
  have h2 := hstep_range 69621 (hstep 69621 s.2 (x % 2147483648)) (x / 2147483648)
  exact ⟨h1.1, by show hstep _ _ _ < _; omega, h2.1, by show hstep _ _ _ < _; omega⟩

theorem foldl_ok : ∀ (l : List Int) (s : Int × Int), HOk s → HOk (l.foldl absorb s)
  | [], _, h => h
  | x :: l, s, _ => foldl_ok l _ (absorb_ok s x)

theorem digest_range (l : List Int) : 0 ≤ digest l ∧ digest l ≤ 4611686018427387903 := by
  have h := foldl_ok l _ (absorb_ok (1, 2) (l.length : Int))
  obtain ⟨h1, h2, h3, h4⟩ := h
  unfold digest
  omega

theorem hstep_walk {c s k : Int} (hc : c = 48271 ∨ c = 69621) (hs : 0 ≤ s ∧ s < 2147483648) (hk : 0 ≤ k ∧ k < 2147483648) :
    (IntKind.wrap .i64 (IntKind.wrap .i64 (IntKind.wrap .i64 (c * s) + k) + 1)).tmod 2147483647 = hstep c s k := by
  have h1 : 0 ≤ c * s ∧ c * s ≤ 69621 * 2147483648 := ⟨Int.mul_nonneg (by omega) hs.1, Int.mul_le_mul (by omega) (by omega) hs.1 (by omega)⟩
  rw [i64_in (c * s) (by omega), i64_in (c * s + k) (by omega), i64_in (c * s + k + 1) (by omega), tmod_nn (by omega)]
  rfl

theorem absorb_eq {s : Int × Int} {x : Int} (hs : HOk s) (h0 : 0 ≤ x) (h1 : x ≤ 4611686018427387903) : M_S_l3State_absorb (s, x) = some (absorb s x) := by
  unfold M_S_l3State_absorb
  obtain ⟨h2, h3, h4, h5⟩ := hs
  have hg : guardO ((2147483648 : Int) != 0) = some () := rfl
  have hg2 : guardO ((2147483647 : Int) != 0) = some () := rfl
  dsimp only
  rw [hg]
  simp only [bindO_some', tmod_nn h0, tdiv_nn h0]
  rw [i64_in (x / 2147483648) (by omega)]
  have hb : 0 ≤ x % 2147483648 ∧ x % 2147483648 < 2147483648 := by omega
  have ha : 0 ≤ x / 2147483648 ∧ x / 2147483648 < 2147483648 := by omega
  have hm : ∀ k ∈ [x % 2147483648, x / 2147483648], 0 ≤ k ∧ k < 2147483648 := fun k hk => by
    simp only [List.mem_cons, List.not_mem_nil, or_false] at hk
    rcases hk with rfl | rfl
    · exact hb
    · exact ha
  have hg3 : ∀ (c s k : Int), 0 ≤ hstep c s k ∧ hstep c s k < 2147483648 := fun c s k => by have := hstep_range c s k; omega
  refine (loop_walkI (fun i (s : Int × Int) => (i, (s.1, s.2))) [x % 2147483648, x / 2147483648] (fun _ k s c => c (hstep 48271 s.1 k, hstep 69621 s.2 k)) (fun s => some (s.1, s.2)) (fun _ s => HOk s)
    (fun i a s k k' ha hs hk => hk _ ⟨(hg3 _ _ _).1, (hg3 _ _ _).2, (hg3 _ _ _).1, (hg3 _ _ _).2⟩) (fun again i a t ha hi ht => ?_) (fun again s hs => ?_) (by show (2 : Nat) < 2 ^ 64; omega) (s.1, s.2) ⟨h2, h3, h4, h5⟩).trans rfl
  · have hk := hm a (List.mem_of_getElem? ha)
    have hi2 : i < 2 := hi
    simp only [lt_yes hi, cond_true, getI_nat, ha, hg2, bindO_some', hstep_walk (.inl rfl) ⟨ht.1, ht.2.1⟩ hk, hstep_walk (.inr rfl) ⟨ht.2.2.1, ht.2.2.2⟩ hk, i64_succ (show i < 2 ^ 62 by omega)]
  · simp only [lt_no, cond_false]

theorem hInts_eq {l : List Int} (hl : l.length < 2 ^ 40) (hx : ∀ x ∈ l, 0 ≤ x ∧ x ≤ 4611686018427387903) : M_S_hInts l = some (digest l) := by
  unfold M_S_hInts
  rw [absorb_eq (⟨by omega, by omega, by omega, by omega⟩ : HOk (1, 2)) (by omega) (by omega), bindO_some']
  refine (loopO_for (σ := Int × Int) (fun i s => ((i : Int), (s.1, s.2))) l.length (fun i s => some (((l.drop i).foldl absorb s).1 * 2147483648 + ((l.drop i).foldl absorb s).2)) (fun _ s => HOk s) (fun again s hs => ?_) (fun again i s hi hs ih => ?_) (by omega) (i := 0) (s := absorb (1, 2) (l.length : Int)) (Nat.zero_le _) (absorb_ok _ _)).trans rfl
  · obtain ⟨h1, h2, h3, h4⟩ := hs
    simp only [lt_no, cond_false, List.drop_length, List.foldl_nil, bindO_some']
    rw [i64_in (s.1 * 2147483648) (by omega), i64_in (s.1 * 2147483648 + s.2) (by omega)]
  · have hm := hx l[i] (List.getElem_mem hi)
    simp only [lt_yes hi, cond_true, getI_nat, List.getElem?_eq_getElem hi, bindO_some', absorb_eq (s := (s.1, s.2)) hs hm.1 hm.2, i64_succ (show i < 2 ^ 62 by omega)]
    rw [ih _ (absorb_ok _ _), List.drop_eq_getElem_cons hi, List.foldl_cons]

theorem bits_mask {x : Int} (h : 0 ≤ x) (h2 : x ≤ 9223372036854775807) : Vd.bits .and .i64 x 2147483647 = x % 2147483648 := by
  obtain ⟨n, rfl⟩ := Int.eq_ofNat_of_zero_le h
  have h1 : (BitVec.ofInt 64 ((n : Nat) : Int) &&& BitVec.ofInt 64 2147483647).toNat = n % 2147483648 := by
    rw [BitVec.toNat_and]
    have e1 : (BitVec.ofInt 64 ((n : Nat) : Int)).toNat = n % 2 ^ 64 := by simp
    have e2 : (BitVec.ofInt 64 2147483647).toNat = 2 ^ 31 - 1 := by decide
    rw [e1, e2, Nat.and_two_pow_sub_one_eq_mod]
    omega
  show IntKind.wrap .i64 (((BitVec.ofInt 64 ((n : Nat) : Int) &&& BitVec.ofInt 64 2147483647).toNat : Nat) : Int) = _
  rw [h1, i64_in _ (by omega)]
  omega

theorem shr_31 {x : Int} : Vd.shr .i64 x 31 = x / 2147483648 := by
  show x.fdiv (2 ^ (min (31 : Int).toNat 64)) = _
  rw [show ((2 : Int) ^ (min (31 : Int).toNat 64)) = 2147483648 by decide, fdiv_pos (by omega)]

theorem shl_31 {x : Int} : Vd.shl .i64 x 31 = IntKind.wrap .i64 (x * 2147483648) := by
  show IntKind.wrap .i64 (x * (2 ^ (min (31 : Int).toNat 64))) = _
  rw [show ((2 : Int) ^ (min (31 : Int).toNat 64)) = 2147483648 by decide]

theorem hash_eq {l : List Int} (hl : l.length < 2 ^ 30) (hx : ∀ x ∈ l, 0 ≤ x ∧ x ≤ 4611686018427387903) : M_I_hash l = some (digest l) := by
  unfold M_I_hash
  have hg31 : guardO (decide ((0 : Int) ≤ 31)) = some () := rfl
  have hg2 : guardO ((2147483647 : Int) != 0) = some () := rfl
  rw [guardO_of (lenOk_of (by simp; omega)), bindO_some', bindO_some']
  have hL : ∀ x ∈ ((l.length : Int) :: l), 0 ≤ x ∧ x ≤ 4611686018427387903 := fun x h => by
    rcases List.mem_cons.1 h with rfl | h
    · omega
    · exact hx x h
  have e : [((l.length : Nat) : Int)] ++ l = ((l.length : Int) :: l) := rfl
  rw [e]
  have hlen : ((l.length : Int) :: l).length = l.length + 1 := rfl
  generalize hLL : ((l.length : Int) :: l) = L at hL hlen
  refine (loopO_for (σ := Int × Int) (fun i s => (s.1, (s.2, (i : Int)))) L.length (fun i s => some (((L.drop i).foldl absorb s).1 * 2147483648 + ((L.drop i).foldl absorb s).2)) (fun _ s => HOk s) (fun again s hs => ?_) (fun again i s hi hs ih => ?_) (by omega) (i := 0) (s := (1, 2)) (Nat.zero_le _) ⟨by decide, by decide, by decide, by decide⟩).trans (by rw [← hLL]; rfl)
  · obtain ⟨h1, h2, h3, h4⟩ := hs
    simp only [lt_no, cond_false, List.drop_length, List.foldl_nil, bindO_some', hg31, shl_31]
    rw [i64_in (s.1 * 2147483648) (by omega), i64_in (s.1 * 2147483648 + s.2) (by omega)]
  · have hm := hL L[i] (List.getElem_mem hi)
    obtain ⟨h1, h2, h3, h4⟩ := hs
    have hb : 0 ≤ L[i] % 2147483648 ∧ L[i] % 2147483648 < 2147483648 := by omega
    have ha : 0 ≤ L[i] / 2147483648 ∧ L[i] / 2147483648 < 2147483648 := by omega
    have r1 := hstep_range 48271 s.1 (L[i] % 2147483648)
    have r2 := hstep_range 69621 s.2 (L[i] % 2147483648)
    simp only [lt_yes hi, cond_true, getI_nat, List.getElem?_eq_getElem hi, bindO_some', hg31, hg2, shr_31, bits_mask hm.1 (by omega), hstep_walk (.inl rfl) ⟨h1, h2⟩ hb, hstep_walk (.inr rfl) ⟨h3, h4⟩ hb,
      hstep_walk (.inl rfl) (⟨r1.1, by omega⟩ : 0 ≤ hstep 48271 s.1 (L[i] % 2147483648) ∧ _) ha, hstep_walk (.inr rfl) (⟨r2.1, by omega⟩ : 0 ≤ hstep 69621 s.2 (L[i] % 2147483648) ∧ _) ha, i64_succ (show i < 2 ^ 62 by omega)]
    rw [List.drop_eq_getElem_cons hi, List.foldl_cons, ← ih (absorb s L[i]) (absorb_ok _ _)]
    rfl

def lab (s : ByteArray) (l : List Int) : List Int := (s.size : Int) :: (ofStr s ++ l)

theorem ofStr_length (s : ByteArray) : (ofStr s).length = s.size := by
  unfold ofStr
  rw [List.length_map, Array.length_toList]
  rfl

theorem ofStr_get {s : ByteArray} {i : Nat} (h : i < s.size) : ∃ b : UInt8, s[i]? = some b ∧ (ofStr s)[i]? = some ((b.toNat : Nat) : Int) := by
  refine ⟨s[i], by simp [h], ?_⟩
  have h' : i < s.data.size := h
  simp only [ofStr, List.getElem?_map]
  rw [List.getElem?_eq_getElem (by simpa using h')]
  rfl

theorem ofStr_range {s : ByteArray} {x : Int} (h : x ∈ ofStr s) : 0 ≤ x ∧ x ≤ 255 := by
  simp only [ofStr, List.mem_map] at h
  obtain ⟨b, _, rfl⟩ := h
  have := b.toNat_lt
  omega

theorem label_loop {s : ByteArray} {l : List Int} (hs : s.size < 2 ^ 30) (hl : l.length < 2 ^ 30) : M_S_l3With (s, l) = some (lab s l) := by
  unfold M_S_l3With
  refine (loopO_for (σ := List Int) (fun i a => (a, (i : Int))) s.size (fun i a => some (lab s l)) (fun i a => a = (s.size : Int) :: (ofStr s).take i) (fun again a ha => ?_) (fun again i a hi ha ih => ?_) (by omega) (i := 0) (s := [(s.size : Int)]) (Nat.zero_le _) (by simp)).trans rfl
  · subst ha
    have ht : (ofStr s).take s.size = ofStr s := by rw [← ofStr_length, List.take_length]
    have hlen := ofStr_length s
    simp only [lt_no, cond_false, ht]
    rw [guardO_of (lenOk_of (by simp [hlen]; omega))]
    rfl
  · subst ha
    obtain ⟨b, h1, h2⟩ := ofStr_get hi
    have hb := b.toNat_lt
    have hlen := ofStr_length s
    simp only [lt_yes hi, cond_true, Int.toNat_natCast, h1]
    rw [if_pos (by omega)]
    simp only [bindO_some', i64_in ((b.toNat : Nat) : Int) (by omega), i64_succ (show i < 2 ^ 62 by omega)]
    rw [guardO_of (lenOk_of (by simp; omega)), bindO_some']
    refine ih _ ?_
    rw [List.take_add_one, h2]
    simp

theorem labelled_eq (x : ByteArray × List Int) : M_I_labelled x = M_S_l3With x := rfl

/-- What can be hashed. -/
def okD (l : List Int) : Bool := l.all fun n => decide (0 ≤ n ∧ n ≤ 4611686018427387903)

theorem okD_spec {l : List Int} (h : okD l = true) : ∀ x ∈ l, 0 ≤ x ∧ x ≤ 4611686018427387903 := fun x hx => by
  simpa using List.all_eq_true.1 h x hx

theorem lab_range {s : ByteArray} {l : List Int} (hs : s.size < 2 ^ 30) (h : okD l = true) : ∀ x ∈ lab s l, 0 ≤ x ∧ x ≤ 4611686018427387903 := fun x hx => by
  rcases List.mem_cons.1 hx with rfl | hx
  · omega
  · rcases List.mem_append.1 hx with hx | hx
    · have := ofStr_range hx
      omega
    · exact okD_spec h x hx

theorem lab_okD {s : ByteArray} {l : List Int} (hs : s.size < 2 ^ 30) : okD (lab s l) = okD l := by
  have h1 : ∀ x ∈ ofStr s, decide (0 ≤ x ∧ x ≤ 4611686018427387903) = true := fun x hx => by
    have := ofStr_range hx
    simp only [decide_eq_true_eq]
    omega
  unfold okD lab
  rw [List.all_cons, List.all_append, List.all_eq_true.2 h1]
  have : decide (0 ≤ ((s.size : Nat) : Int) ∧ ((s.size : Nat) : Int) ≤ 4611686018427387903) = true := by
    simp only [decide_eq_true_eq]
    omega
  rw [this]
  rfl

/-- What HashLabelled answers. -/
def hashL (s : ByteArray) (l : List Int) : Int × Bool := if s.size ≤ 40 ∧ okD l = true ∧ 1 + s.size + l.length ≤ 400 then (digest (lab s l), true) else (0, false)

theorem hLabelled_eq {s : ByteArray} {l : List Int} (hs : s.size < 2 ^ 30) (hl : l.length < 2 ^ 30) (h : okD l = true) : M_S_hLabelled (s, l) = some (digest (lab s l)) := by
  unfold M_S_hLabelled
  have hlen : (lab s l).length < 2 ^ 40 := by simp [lab, ofStr_length]; omega
  simp only [label_loop hs hl, bindO_some', hInts_eq hlen (lab_range hs h)]

theorem areDigests_eq {l : List Int} : M_I_areDigests l = some (decide (l.length ≤ 400) && okD l) := by
  unfold M_I_areDigests
  by_cases h : l.length ≤ 400
  · have e1 : decide (((l.length : Nat) : Int) ≤ 400) = true := by simp; omega
    rw [e1, cond_true, areAll_eq (p := fun n => decide (0 ≤ n ∧ n ≤ 4611686018427387903)) (by omega) fun a _ => by simp [M_I_isDigest, within_eq], bindO_some']
    simp [h, okD]
  · have e1 : decide (((l.length : Nat) : Int) ≤ 400) = false := by simp; omega
    simp [e1, h]

theorem I_HashInts_eq {l : List Int} : M_I_HashInts l = some (if l.length ≤ 400 ∧ okD l = true then (digest l, true) else (0, false)) := by
  unfold M_I_HashInts
  rw [areDigests_eq, bindO_some']
  by_cases h : l.length ≤ 400 ∧ okD l = true
  · rw [if_pos h, hash_eq (by omega) (okD_spec h.2)]
    simp [h.1, h.2]
  · rw [if_neg h]
    have : (decide (l.length ≤ 400) && okD l) = false := by
      rw [Bool.and_eq_false_iff, decide_eq_false_iff_not]
      by_cases h1 : l.length ≤ 400
      · right
        cases h2 : okD l
        · rfl
        · exact absurd ⟨h1, h2⟩ h
      · exact .inl h1
    rw [this]
    rfl

theorem I_HashLabelled_eq {s : ByteArray} {l : List Int} : M_I_HashLabelled (s, l) = some (hashL s l) := by
  unfold M_I_HashLabelled hashL
  by_cases h1 : s.size ≤ 40
  · by_cases h2 : l.length ≤ 400
    · have e1 : decide (((s.size : Nat) : Int) > 40) = false := by simp; omega
      have e2 : decide (((l.length : Nat) : Int) > 400) = false := by simp; omega
      simp only [e1, e2, cond_false]
      rw [labelled_eq, label_loop (by omega) (by omega), bindO_some', I_HashInts_eq, bindO_some', lab_okD (by omega)]
      have e3 : ((lab s l).length ≤ 400 ∧ okD l = true) ↔ (s.size ≤ 40 ∧ okD l = true ∧ 1 + s.size + l.length ≤ 400) := by
        simp only [lab, List.length_cons, List.length_append, ofStr_length]
        constructor
        · rintro ⟨a, b⟩; exact ⟨h1, b, by omega⟩
        · rintro ⟨a, b, c⟩; exact ⟨by omega, b⟩
      simp only [e3]
    · have e1 : decide (((s.size : Nat) : Int) > 40) = false := by simp; omega
      have e2 : decide (((l.length : Nat) : Int) > 400) = true := by simp; omega
      rw [if_neg (fun h => by omega)]
      simp only [e1, e2, cond_false, cond_true]
  · have e1 : decide (((s.size : Nat) : Int) > 40) = true := by simp; omega
    rw [if_neg (fun h => h1 h.1)]
    simp only [e1, cond_true]

theorem gInv_eq {p q g x : Int} (h : Gr p q g) (hx : 0 ≤ x) (hx2 : x ≤ p) : M_S_gInv ((p, q, g), x) = some (x ^ (q - 1).toNat % p) := by
  unfold M_S_gInv
  have := h.p3; have := h.pm; have := h.q2; have := h.qp
  dsimp only
  rw [i64_in (q - 1) (by omega), bindO_some', nPower_eq hx (by omega) (by omega) (by omega) (by omega) (by omega), bindO_some']

theorem Group_inv_eq {p q g x : Int} (h : Gr p q g) (hx : 0 ≤ x) (hx2 : x ≤ p) : M_I_Group_inv ((p, q, g), x) = some (x ^ (q - 1).toNat % p) := by
  unfold M_I_Group_inv
  have := h.q2
  have e : (-1 : Int) % q = q - 1 := by
    rw [Int.emod_def]
    have : (-1 : Int) / q = -1 := by
      rw [Int.ediv_eq_iff_of_pos (by omega)]
      omega
    rw [this]
    omega
  dsimp only
  rw [Group_pow_eq h hx hx2, bindO_some', e]

theorem inv_range {p q x : Int} (hp : 1 ≤ p) : 0 ≤ x ^ (q - 1).toNat % p ∧ x ^ (q - 1).toNat % p < p :=
  ⟨Int.emod_nonneg _ (by omega), Int.emod_lt_of_pos _ (by omega)⟩

theorem pow_range {p x : Int} {k : Nat} (hp : 1 ≤ p) : 0 ≤ x ^ k % p ∧ x ^ k % p < p :=
  ⟨Int.emod_nonneg _ (by omega), Int.emod_lt_of_pos _ (by omega)⟩

/-- Is a cipher one of elements? -/
def isCi (p q : Int) (c : Int × Int) : Bool := isEl p q c.1 && isEl p q c.2

theorem hasCipher_eq {p q g : Int} {c : Int × Int} (h : Gr p q g) : M_I_Group_hasCipher ((p, q, g), c) = some (isCi p q c) := by
  unfold M_I_Group_hasCipher isCi
  simp only [has_eq' h, bindO_some']
  cases isEl p q c.1 <;> simp

theorem eGood_eq {p q g : Int} {l : List (Int × Int)} (h : Gr p q g) : M_S_eGood ((p, q, g), l) = some (decide (l.length ≤ 24) && l.all (isCi p q)) := by
  unfold M_S_eGood
  by_cases hl : l.length ≤ 24
  · have e1 : decide (((l.length : Nat) : Int) > 24) = false := by simp; omega
    dsimp only
    rw [e1, cond_false]
    simp only [hl, decide_true, Bool.true_and]
    refine (loop_walk l (fun _ a k => if (isCi p q a) = true then k else some false) (some true) (fun again i a ha hi' => ?_) (fun again => ?_) (by omega)).trans (walk_all (isCi p q) l 0)
    · simp only [getI_nat, ha, bindO_some', i64_succ (show i < 2 ^ 62 by omega), lt_yes hi', cond_true, gIs_eq h (show [a.1, a.2].length < 2 ^ 62 by show (2 : Nat) < _; omega)]
      have : [a.1, a.2].all (isEl p q) = isCi p q a := by simp [isCi]
      rw [this]
      cases isCi p q a <;> rfl
    · simp
  · have e1 : decide (((l.length : Nat) : Int) > 24) = true := by simp; omega
    simp [e1, hl]

/-- a over b. -/
def over (p q a b : Int) : Int := prodM p 1 [a, b ^ (q - 1).toNat % p]

theorem over_eq {p q g a b : Int} (h : Gr p q g) (ha : 0 ≤ a ∧ a ≤ p) (hb : 0 ≤ b ∧ b ≤ p) : M_I_Group_over ((p, q, g), a, b) = some (over p q a b) := by
  unfold M_I_Group_over over
  have := h.p3; have := h.pm
  have hr := inv_range (q := q) (x := b) (show 1 ≤ p by omega)
  simp only [Group_inv_eq h hb.1 hb.2, bindO_some']
  rw [Group_mul_eq h (fun x hx => ?_) (by show (2 : Nat) < _; omega)]
  · rfl
  · simp only [List.mem_cons, List.not_mem_nil, or_false] at hx
    rcases hx with rfl | rfl <;> omega

theorem mul2 {p q g a b : Int} (h : Gr p q g) (ha : 0 ≤ a ∧ a ≤ p) (hb : 0 ≤ b ∧ b ≤ p) : M_S_gMul ((p, q, g), [a, b]) = some (prodM p 1 [a, b]) := by
  have := h.p3; have := h.pm
  refine gMul_eq h (fun x hx => ?_) (by show (2 : Nat) < _; omega)
  simp only [List.mem_cons, List.not_mem_nil, or_false] at hx
  rcases hx with rfl | rfl <;> omega

theorem mul2' {p q g a b : Int} (h : Gr p q g) (ha : 0 ≤ a ∧ a ≤ p) (hb : 0 ≤ b ∧ b ≤ p) : M_I_Group_mul ((p, q, g), [a, b]) = some (prodM p 1 [a, b]) := by
  have := h.p3; have := h.pm
  refine Group_mul_eq h (fun x hx => ?_) (by show (2 : Nat) < _; omega)
  simp only [List.mem_cons, List.not_mem_nil, or_false] at hx
  rcases hx with rfl | rfl <;> omega

theorem prod_range {p : Int} {l : List Int} (hp : 2 ≤ p) : 0 ≤ prodM p 1 l ∧ prodM p 1 l < p := prodM_range (by omega) l 1 (by omega) (.inl (by omega))

theorem qQuo_eq {p q g : Int} {a b : Int × Int} (h : Gr p q g) (ha : isCi p q a = true) (hb : isCi p q b = true) : M_S_qQuo ((p, q, g), a, b) = some (over p q a.1 b.1, over p q a.2 b.2) := by
  unfold M_S_qQuo
  have := h.p3
  simp only [isCi, Bool.and_eq_true] at ha hb
  have a1 := isEl_range ha.1; have a2 := isEl_range ha.2; have b1 := isEl_range hb.1; have b2 := isEl_range hb.2
  have r1 := inv_range (q := q) (x := b.1) (show 1 ≤ p by omega)
  have r2 := inv_range (q := q) (x := b.2) (show 1 ≤ p by omega)
  simp only [gInv_eq h (show 0 ≤ b.1 by omega) (by omega), gInv_eq h (show 0 ≤ b.2 by omega) (by omega), bindO_some', mul2 h (show 0 ≤ a.1 ∧ a.1 ≤ p by omega) (show 0 ≤ b.1 ^ (q - 1).toNat % p ∧ _ ≤ p by omega), mul2 h (show 0 ≤ a.2 ∧ a.2 ≤ p by omega) (show 0 ≤ b.2 ^ (q - 1).toNat % p ∧ _ ≤ p by omega)]
  rfl

theorem quotient_eq {p q g : Int} {a b : Int × Int} (h : Gr p q g) (ha : isCi p q a = true) (hb : isCi p q b = true) : M_I_Group_quotient ((p, q, g), a, b) = some (over p q a.1 b.1, over p q a.2 b.2) := by
  unfold M_I_Group_quotient
  simp only [isCi, Bool.and_eq_true] at ha hb
  have a1 := isEl_range ha.1; have a2 := isEl_range ha.2; have b1 := isEl_range hb.1; have b2 := isEl_range hb.2
  simp only [over_eq h (show 0 ≤ a.1 ∧ a.1 ≤ p by omega) (show 0 ≤ b.1 ∧ b.1 ≤ p by omega), over_eq h (show 0 ≤ a.2 ∧ a.2 ≤ p by omega) (show 0 ≤ b.2 ∧ b.2 ≤ p by omega), bindO_some']

theorem toGroup_eq (x : Int × Int × Int) : M_L_toGroup x = some x := rfl

theorem toCipher_eq (x : Int × Int) : M_L_toCipher x = some x := rfl

theorem set_take_succ {α : Type} {x s : List α} {i : Nat} {a : α} (hx : x[i]? = some a) (hs : s.length = x.length) (ht : s.take i = x.take i) : (s.set i a).take (i + 1) = x.take (i + 1) := by
  have hi : i < x.length := (List.getElem?_eq_some_iff.1 hx).1
  rw [List.take_add_one, List.take_add_one, hx, List.take_set, List.getElem?_set_self (by omega), ← ht]
  congr 1
  rw [List.set_eq_of_length_le (by rw [List.length_take]; omega)]

/-- A list is written anew, element by element. -/
theorem copy_loop {α : Type} (x : List α) (z : α) {body : (Int × List α → Option (List α)) → Int × List α → Option (List α)}
    (h : ∀ (again : Int × List α → Option (List α)) (i : Nat) a (s : List α), x[i]? = some a → i < x.length → s.length = x.length → body again ((i : Int), s) = again (((i + 1 : Nat) : Int), s.set i a))
    (hend : ∀ (again : Int × List α → Option (List α)) (s : List α), s.length = x.length → body again ((x.length : Int), s) = some s) (hl : x.length < 2 ^ 62) : loopO body (0, List.replicate x.length z) = some x := by
  refine (loopO_for (σ := List α) (fun i s => ((i : Int), s)) x.length (fun i s => some x) (fun i s => s.length = x.length ∧ s.take i = x.take i) (fun again s hs => ?_) (fun again i s hi hs ih => ?_) (by omega) (i := 0) (s := List.replicate x.length z) (Nat.zero_le _) (by simp)).trans rfl
  · rw [hend again s hs.1]
    have := hs.2
    rw [List.take_length, ← hs.1, List.take_length] at this
    rw [this]
  · have ha := List.getElem?_eq_getElem hi
    rw [h again i x[i] s ha hi hs.1]
    exact ih _ ⟨by simp [hs.1], set_take_succ ha hs.1 hs.2⟩

/-- Two lists are compared, element by element. -/
theorem eq_loop {α : Type} [DecidableEq α] (a b : List α) (hab : a.length = b.length) {body : (Int → Option Bool) → Int → Option Bool}
    (h : ∀ (again : Int → Option Bool) (i : Nat) x y, a[i]? = some x → b[i]? = some y → i < a.length → body again (i : Int) = if x = y then again ((i + 1 : Nat) : Int) else some false)
    (hend : ∀ (again : Int → Option Bool), body again (a.length : Int) = some true) (hl : a.length < 2 ^ 62) : loopO body 0 = some (decide (a = b)) := by
  refine (loopO_for (σ := Unit) (fun i _ => (i : Int)) a.length (fun i _ => some (decide (a.drop i = b.drop i))) (fun _ _ => True) (fun again _ _ => ?_) (fun again i _ hi _ ih => ?_) (by omega) (i := 0) (s := ()) (Nat.zero_le _) trivial).trans (by simp)
  · rw [hend]; simp [hab]
  · have hi' : i < b.length := by omega
    rw [h again i a[i] b[i] (List.getElem?_eq_getElem hi) (List.getElem?_eq_getElem hi') hi, ih () trivial, List.drop_eq_getElem_cons hi, List.drop_eq_getElem_cons hi']
    by_cases he : a[i] = b[i] <;> simp [he, -List.getElem_cons_drop]

theorem szIntS_eq {a : List Int} {left : Int} (h0 : 0 ≤ left) (h1 : left ≤ 1048576) (hl : a.length < 2 ^ 63) : M_L_szIntS (a, left) = some (if left < a.length then -1 else left - a.length) := by
  unfold M_L_szIntS
  simp only [i64_in (left - (a.length : Int)) (by omega), bindO_some']
  by_cases h : left < a.length
  · rw [if_pos h]
    have : left - (a.length : Int) < 0 := by omega
    simp [this]
  · rw [if_neg h]
    have : ¬ left - (a.length : Int) < 0 := by omega
    simp [this]

theorem containsFuncS_eq {l : List (List Int)} {f : List Int → Option Bool} {p : List Int → Bool} (hl : l.length < 2 ^ 62) (hf : ∀ a ∈ l, f a = some (p a)) : M_slices_ContainsFunc_ssint_sint (l, f) = some (l.any p) := by
  obtain ⟨j, h1, h2⟩ := walk_index_mem p f l 0 hf
  unfold M_slices_ContainsFunc_ssint_sint
  have : M_slices_IndexFunc_ssint_sint (l, f) = some j := by
    unfold M_slices_IndexFunc_ssint_sint
    refine (loop_walk l _ _ (fun again i a ha hi => ?_) (fun again => ?_) (by omega)).trans h1
    · simp only [getI_nat, ha, bindO_some', i64_succ (show i < 2 ^ 62 by omega), lt_yes hi, cond_true]
    · simp
  dsimp only
  rw [this, bindO_some', h2]

theorem all_not_any {α : Type} {p q : α → Bool} {l : List α} (h : ∀ a ∈ l, q a = !p a) : l.all p = !l.any q := by
  induction l with
  | nil => rfl
  | cons a l ih =>
    rw [List.all_cons, List.any_cons, ih fun b hb => h b (List.mem_cons_of_mem _ hb), h a (List.mem_cons_self ..)]
    cases p a <;> simp

theorem Nat.beq_eq_decide_eq' (a b : Nat) : (a == b) = decide (a = b) := rfl

/-- A list is put together, element by element. -/
theorem append_loop {α β : Type} (y : List α) (fin : List α → Option β) {body : (List α × Int → Option β) → List α × Int → Option β}
    (h : ∀ (again : List α × Int → Option β) (i : Nat) a (s : List α), y[i]? = some a → i < y.length → s.length = i → body again (s, (i : Int)) = again (s ++ [a], ((i + 1 : Nat) : Int)))
    (hend : ∀ (again : List α × Int → Option β) (s : List α), s.length = y.length → body again (s, (y.length : Int)) = fin s) (hl : y.length < 2 ^ 62) : loopO body ([], 0) = fin y := by
  refine (loopO_for (σ := List α) (fun i s => (s, (i : Int))) y.length (fun i s => fin y) (fun i s => s = y.take i) (fun again s hs => ?_) (fun again i s hi hs ih => ?_) (by omega) (i := 0) (s := []) (Nat.zero_le _) (by simp)).trans rfl
  · subst hs
    rw [List.take_length]
    exact hend again y rfl
  · subst hs
    have ha := List.getElem?_eq_getElem hi
    rw [h again i y[i] _ ha hi (by simp; omega)]
    refine ih _ ?_
    rw [List.take_add_one, ha]
    rfl

theorem clone_eq {l : List Int} (hl : l.length ≤ 1048576) : M_slices_Clone_sint_int l = some l := by
  unfold M_slices_Clone_sint_int
  rw [guardO_of (lenOk_of (by simp; omega))]
  simp only [bindO_some', List.nil_append, Bool.not_true, cond_false]
  cases l with
  | nil => simp [ambO]
  | cons a l => rfl

def pw (p q x e : Int) : Int := x ^ (e % q).toNat % p

theorem pw_range {p q x e : Int} (hp : 1 ≤ p) : 0 ≤ pw p q x e ∧ pw p q x e < p := pow_range hp

theorem gExp_pw {p q g x e : Int} (h : Gr p q g) (hx : 0 ≤ x) (hx2 : x ≤ p) : M_S_gExp ((p, q, g), x, e) = some (pw p q x e) := gExp_eq h hx hx2

theorem pow_pw {p q g x e : Int} (h : Gr p q g) (hx : 0 ≤ x) (hx2 : x ≤ p) : M_I_Group_pow ((p, q, g), x, e) = some (pw p q x e) := Group_pow_eq h hx hx2

def inv (p q x : Int) : Int := x ^ (q - 1).toNat % p

theorem areExps_eq {p q g : Int} {l : List Int} (h : Gr p q g) (hl : l.length < 2 ^ 62) : M_I_Group_areExps ((p, q, g), l) = some (l.all fun e => decide (0 ≤ e ∧ e ≤ q - 1)) := by
  unfold M_I_Group_areExps
  dsimp only
  rw [areAll_eq (p := fun e => decide (0 ≤ e ∧ e ≤ q - 1)) hl fun a _ => by rw [isExp_eq h]; rfl]
  rfl

theorem eqCipher_eq (a b : Int × Int) : M_L_eqCipher (a, b) = some (decide (a = b)) := by
  obtain ⟨a1, a2⟩ := a
  obtain ⟨b1, b2⟩ := b
  unfold M_L_eqCipher
  by_cases h1 : a1 = b1 <;> by_cases h2 : a2 = b2 <;> simp [h1, h2, bne_dec]

def small (q : Int) (l : List Int) (i : Nat) : Int := 1 + digest (lab (bytesOf [115, 109, 97, 108, 108]) (l ++ [(i : Int)])) % (if 65535 < q - 1 then 65535 else q - 1)

/-- The challenge of a proof. -/
def chal (p q g : Int) (s : ByteArray) (l : List Int) : Int := digest (lab s ([p, q, g] ++ l)) % q

theorem okD_gr {p q g : Int} (h : Gr p q g) {l : List Int} (hl : okD l = true) : okD ([p, q, g] ++ l) = true := by
  have := h.p3; have := h.pm; have := h.q2; have := h.qp; have := h.g2; have := h.gp
  unfold okD at hl ⊢
  rw [List.all_append, hl]
  simp
  omega

theorem hChallenge_eq {p q g : Int} {s : ByteArray} {l : List Int} (h : Gr p q g) (hs : s.size < 2 ^ 30) (hl : okD l = true) (hn : l.length < 2 ^ 20) : M_S_hChallenge ((p, q, g), s, l) = some (chal p q g s l) := by
  unfold M_S_hChallenge
  have := h.q2
  have hr := digest_range (lab s ([p, q, g] ++ l))
  dsimp only
  rw [guardO_of (lenOk_of (by simp; omega)), bindO_some', bindO_some', hLabelled_eq hs (by simp; omega) (okD_gr h hl), bindO_some', guardO_of (by simp; omega), bindO_some', bindO_some', tmod_nn hr.1]
  rfl

theorem challenge_eq {p q g : Int} {s : ByteArray} {l : List Int} (h : Gr p q g) (hs : s.size ≤ 40) (hl : okD l = true) (hn : s.size + l.length ≤ 396) : M_I_Group_challenge ((p, q, g), s, l) = some (chal p q g s l, true) := by
  unfold M_I_Group_challenge
  have := h.q2
  have hr := digest_range (lab s ([p, q, g] ++ l))
  dsimp only
  rw [guardO_of (lenOk_of (by simp; omega)), bindO_some', bindO_some', I_HashLabelled_eq, hashL, if_pos ⟨hs, okD_gr h hl, by simp; omega⟩, bindO_some']
  simp only [Bool.not_true, cond_false]
  rw [guardO_of (by simp; omega), bindO_some', bindO_some', tmod_nn hr.1]
  rfl

theorem exp_eq {p q g n : Int} (h : Gr p q g) : M_I_Group_exp ((p, q, g), n) = some (n % q) := by
  have := h.q2; have := h.qp; have := h.pm
  unfold M_I_Group_exp
  dsimp only
  rw [mod_eq, nMod_eq (by omega) (by omega)]
  rfl

abbrev Pf := List Int × List Int × List Int

def Pf.small (a : Pf) (n : Nat) : Prop := a.1.length ≤ n ∧ a.2.1.length ≤ n ∧ a.2.2.length ≤ n

theorem eqProof_eq {a b : Pf} (h : a.small (2 ^ 40)) : M_L_eqProof (a, b) = some (decide (a = b)) := by
  obtain ⟨a1, a2, a3⟩ := a
  obtain ⟨b1, b2, b3⟩ := b
  obtain ⟨h1, h2, h3⟩ := h
  dsimp only at h1 h2 h3
  unfold M_L_eqProof
  dsimp only
  rw [eqIntS_eq (by omega), bindO_some', eqIntS_eq (by omega), eqIntS_eq (by omega)]
  by_cases e1 : a1 = b1 <;> by_cases e2 : a2 = b2 <;> by_cases e3 : a3 = b3 <;> simp [e1, e2, e3]

theorem toProof_eq {a : Pf} (h : a.small 1048576) : M_L_toProof a = some a := by
  obtain ⟨a1, a2, a3⟩ := a
  obtain ⟨g1, g2, g3⟩ := h
  dsimp only at g1 g2 g3
  unfold M_L_toProof
  dsimp only
  rw [toIntS_eq g1, bindO_some', toIntS_eq g2, bindO_some', toIntS_eq g3, bindO_some']

theorem szProof_eq {a : Pf} {left : Int} (h0 : 0 ≤ left) (h1 : left ≤ 1048576) (hl : a.small (2 ^ 63 - 1)) : ∃ k, M_L_szProof (a, left) = some k ∧ k ≤ left ∧ (0 ≤ k → k = left - (a.1.length + a.2.1.length + a.2.2.length)) := by
  obtain ⟨a1, a2, a3⟩ := a
  obtain ⟨g1, g2, g3⟩ := hl
  dsimp only at g1 g2 g3 ⊢
  unfold M_L_szProof
  dsimp only
  rw [szIntS_eq h0 h1 (by omega), bindO_some']
  by_cases e1 : left < a1.length
  · rw [if_pos e1]
    exact ⟨-1, rfl, by omega, by omega⟩
  · rw [if_neg e1]
    have d1 : decide (left - (a1.length : Int) < 0) = false := by simp; omega
    rw [d1, cond_false, szIntS_eq (by omega) (by omega) (by omega), bindO_some']
    by_cases e2 : left - a1.length < a2.length
    · rw [if_pos e2]
      exact ⟨-1, rfl, by omega, by omega⟩
    · rw [if_neg e2]
      have d2 : decide (left - (a1.length : Int) - a2.length < 0) = false := by simp; omega
      rw [d2, cond_false, szIntS_eq (by omega) (by omega) (by omega), bindO_some']
      by_cases e3 : left - a1.length - a2.length < a3.length
      · rw [if_pos e3]
        exact ⟨-1, rfl, by omega, by omega⟩
      · rw [if_neg e3]
        have d3 : decide (left - (a1.length : Int) - a2.length - a3.length < 0) = false := by simp; omega
        rw [d3, cond_false]
        exact ⟨_, rfl, by omega, by omega⟩

theorem hasAll_eq {p q g : Int} {l : List Int} (h : Gr p q g) (hl : l.length < 2 ^ 62) : M_I_Group_hasAll ((p, q, g), l) = some (l.all (isEl p q)) := by
  unfold M_I_Group_hasAll
  dsimp only
  rw [areAll_eq (p := isEl p q) hl fun a _ => by rw [has_eq' h]; rfl]
  rfl

theorem okD_el {p q g : Int} (h : Gr p q g) {l : List Int} (hl : l.all (isEl p q) = true) : okD l = true := by
  have := h.pm
  refine List.all_eq_true.2 fun x hx => ?_
  have := isEl_range (List.all_eq_true.1 hl x hx)
  rw [decide_eq_true_eq]
  omega

theorem isP_spec {n : Int} (h : isP n = true) : IsP n := by
  unfold isP at h
  exact @of_decide_eq_true _ (Classical.propDecidable _) h

def gpf (p q : Int) (l es : List Int) : Int := (l.zip es).foldl (fun o c => o * pw p q c.1 c.2 % p) 1

def gpStep (p q : Int) (_ : Nat) (a : Int × Int) (s : Int) (k : Int → Option Int) : Option Int := k (s * pw p q a.1 a.2 % p)

theorem gpWalk (p q : Int) : ∀ (z : List (Int × Int)) (i : Nat) (s : Int), walkS (gpStep p q) some i z s = some (z.foldl (fun o c => o * pw p q c.1 c.2 % p) s)
  | [], _, _ => rfl
  | a :: z, i, s => by
    rw [walkS, gpStep, gpWalk p q z (i + 1), List.foldl_cons]

theorem foldl_range {p q : Int} (hp : 2 ≤ p) : ∀ (z : List (Int × Int)) (s : Int), 0 ≤ s ∧ s < p → 0 ≤ z.foldl (fun o c => o * pw p q c.1 c.2 % p) s ∧ z.foldl (fun o c => o * pw p q c.1 c.2 % p) s < p
  | [], _, h => h
  | a :: z, s, _ => by
    rw [List.foldl_cons]
    exact foldl_range hp z _ ⟨Int.emod_nonneg _ (by omega), Int.emod_lt_of_pos _ (by omega)⟩

theorem gpf_range {p q : Int} (hp : 2 ≤ p) (l es : List Int) : 0 ≤ gpf p q l es ∧ gpf p q l es < p := foldl_range hp _ 1 (by omega)

theorem zip_get {l es : List Int} {i : Nat} {a : Int × Int} (ha : (l.zip es)[i]? = some a) : l[i]? = some a.1 ∧ es[i]? = some a.2 := by
  obtain ⟨c, e⟩ := a
  rw [List.getElem?_zip_eq_some] at ha
  exact ha

theorem zip_len {α β : Type} {l : List α} {es : List β} (h : es.length = l.length) : (l.zip es).length = l.length := by simp [h]

theorem gProd_eq {p q g : Int} {l es : List Int} (h : Gr p q g) (hl : es.length = l.length) (hx : ∀ x ∈ l, 0 ≤ x ∧ x ≤ p) (hn : l.length < 2 ^ 60) : M_S_gProd ((p, q, g), l, es) = some (gpf p q l es) := by
  unfold M_S_gProd
  dsimp only
  have h3 := h.p3; have hpm := h.pm
  have hz := zip_len hl
  have hg0 : guardO (p != 0) = some () := guardO_of (by simp; omega)
  refine (loop_walkI (fun i (s : Int) => (s, i)) (l.zip es) (gpStep p q) some (fun _ s => 0 ≤ s ∧ s < p) (fun i a s k k' ha hi hk => ?_) (fun again i a s ha hi hs => ?_) (fun again s hs => ?_) (by omega) 1 (by omega)).trans (gpWalk p q _ 0 1)
  · exact hk _ ⟨Int.emod_nonneg _ (by omega), Int.emod_lt_of_pos _ (by omega)⟩
  · obtain ⟨h1, h2⟩ := zip_get ha
    have hxa := hx a.1 (List.mem_of_getElem? h1)
    have r := pw_range (q := q) (x := a.1) (e := a.2) (show 1 ≤ p by omega)
    have e3 : 0 ≤ s * pw p q a.1 a.2 := Int.mul_nonneg hs.1 r.1
    have e4 : s * pw p q a.1 a.2 ≤ 2000000000 * 2000000000 := Int.mul_le_mul (by omega) (by omega) r.1 (by omega)
    simp only [lt_yes (show i < l.length by omega), cond_true, getI_nat, h1, h2, bindO_some', gExp_pw h hxa.1 hxa.2, i64_in (s * pw p q a.1 a.2) (by omega), hg0, tmod_nn e3, i64_succ (show i < 2 ^ 62 by omega)]
    rfl
  · rw [hz]
    simp only [lt_no, cond_false]

theorem mul_out {p s b : Int} (hs : 0 ≤ s ∧ s < p) : prodM p 1 [s, b] = s * b % p := by
  simp only [prodM]
  rw [Int.one_mul, Int.emod_eq_of_lt hs.1 hs.2]

theorem powers_eq {p q g : Int} {l es : List Int} (h : Gr p q g) (hl : es.length = l.length) (hx : ∀ x ∈ l, 0 ≤ x ∧ x ≤ p) (hn : l.length < 2 ^ 60) : M_I_Group_powers ((p, q, g), l, es) = some (gpf p q l es) := by
  unfold M_I_Group_powers
  dsimp only
  have h3 := h.p3; have hpm := h.pm
  have hz := zip_len hl
  refine (loop_walkI (fun i (s : Int) => (s, i)) (l.zip es) (gpStep p q) some (fun _ s => 0 ≤ s ∧ s < p) (fun i a s k k' ha hi hk => ?_) (fun again i a s ha hi hs => ?_) (fun again s hs => ?_) (by omega) 1 (by omega)).trans (gpWalk p q _ 0 1)
  · exact hk _ ⟨Int.emod_nonneg _ (by omega), Int.emod_lt_of_pos _ (by omega)⟩
  · obtain ⟨h1, h2⟩ := zip_get ha
    have hxa := hx a.1 (List.mem_of_getElem? h1)
    have r := pw_range (q := q) (x := a.1) (e := a.2) (show 1 ≤ p by omega)
    simp only [lt_yes (show i < l.length by omega), cond_true, getI_nat, h1, h2, bindO_some', pow_pw h hxa.1 hxa.2, mul2' h (show 0 ≤ s ∧ s ≤ p by omega) (show 0 ≤ pw p q a.1 a.2 ∧ pw p q a.1 a.2 ≤ p by omega), mul_out hs, i64_succ (show i < 2 ^ 62 by omega)]
    rfl
  · rw [hz]
    simp only [lt_no, cond_false]

theorem ne_dec (a b : Nat) : (((a : Nat) : Int) != ((b : Nat) : Int)) = !(a == b) := by
  rw [bne_dec, Nat.beq_eq_decide_eq', ← decide_not, decide_eq_decide]
  omega

def lens (x : List (List Int)) : Nat := (x.map List.length).sum

theorem lens_flat (x : List (List Int)) : x.flatten.length = lens x := by simp [lens, List.length_flatten]

theorem lens_take_le (x : List (List Int)) (i : Nat) : lens (x.take i) ≤ lens x := by
  have h : lens x = lens (x.take i ++ x.drop i) := by rw [List.take_append_drop]
  rw [h]
  simp only [lens, List.map_append, List.sum_append]
  exact Nat.le_add_right _ _

theorem lens_take_succ {x : List (List Int)} {i : Nat} {a : List Int} (h : x[i]? = some a) : lens (x.take (i + 1)) = lens (x.take i) + a.length := by
  rw [List.take_add_one, h]
  simp [lens]

theorem flat_take_succ {x : List (List Int)} {i : Nat} {a : List Int} (h : x[i]? = some a) : (x.take (i + 1)).flatten = (x.take i).flatten ++ a := by
  rw [List.take_add_one, h]
  simp

theorem concat_eq {x : List (List Int)} (hx : x.length < 2 ^ 30) (ht : lens x ≤ 1073741824) : M_slices_Concat_sint_int x = some x.flatten := by
  unfold M_slices_Concat_sint_int
  refine (loopO_for (σ := Int) (fun i s => (s, (i : Int))) x.length (fun i s => some x.flatten) (fun i s => s = (lens (x.take i) : Int)) (fun again s hs => ?_) (fun again i s hi hs ih => ?_) (by omega) (i := 0) (s := 0) (Nat.zero_le _) (by simp [lens])).trans rfl
  · rw [List.take_length] at hs
    subst hs
    simp only [lt_no, cond_false]
    have hgrow : M_slices_Grow_sint_int ([], (lens x : Int)) = some [] := by
      unfold M_slices_Grow_sint_int
      dsimp only
      rw [if_pos]
      simp only [List.length_nil]
      omega
    rw [hgrow, bindO_some']
    refine (loopO_for (σ := List Int) (fun i s => (s, (i : Int))) x.length (fun i s => some x.flatten) (fun i s => s = (x.take i).flatten) (fun again s hs => ?_) (fun again i s hi hs ih => ?_) (by omega) (i := 0) (s := []) (Nat.zero_le _) (by simp)).trans rfl
    · subst hs
      simp only [lt_no, cond_false, List.take_length]
    · subst hs
      have ha := List.getElem?_eq_getElem hi
      have h1 : (x.take i).flatten.length + x[i].length ≤ 68719476736 := by
        have := lens_take_succ ha
        have := lens_take_le x (i + 1)
        rw [lens_flat]
        omega
      simp only [lt_yes hi, cond_true, getI_nat, ha, bindO_some', guardO_of (lenOk_of h1), i64_succ (show i < 2 ^ 62 by omega)]
      exact ih _ (flat_take_succ ha).symm
  · subst hs
    have ha := List.getElem?_eq_getElem hi
    have h1 := lens_take_succ ha
    have h2 := lens_take_le x (i + 1)
    have h3 : ((lens (x.take i) : Int) + (x[i].length : Int)) = ((lens (x.take (i + 1)) : Nat) : Int) := by omega
    simp only [lt_yes hi, cond_true, getI_nat, ha, bindO_some', h3, i64_in ((lens (x.take (i + 1)) : Nat) : Int) (by omega), i64_succ (show i < 2 ^ 62 by omega)]
    rw [show decide (((lens (x.take (i + 1)) : Nat) : Int) < 0) = false from decide_eq_false (by omega)]
    exact ih _ rfl

theorem concat3_eq {a b c : List Int} (h : a.length + b.length + c.length ≤ 1073741824) : M_slices_Concat_sint_int [a, b, c] = some (a ++ (b ++ c)) := by
  rw [concat_eq (by simp) (by simp only [lens, List.map_cons, List.map_nil, List.sum_cons, List.sum_nil]; omega)]
  simp

theorem sStatement_eq {x : List (List Int)} {a b : List Int} (hx : x.length < 2 ^ 30) (ht : lens x + a.length + b.length ≤ 1073741824) : M_S_sStatement (x, a, b) = some (x.flatten ++ (a ++ b)) := by
  unfold M_S_sStatement
  dsimp only
  refine (loopO_for (σ := List Int) (fun i s => (s, (i : Int))) x.length (fun i s => some (x.flatten ++ (a ++ b))) (fun i s => s = (x.take i).flatten) (fun again s hs => ?_) (fun again i s hi hs ih => ?_) (by omega) (i := 0) (s := []) (Nat.zero_le _) (by simp)).trans rfl
  · subst hs
    have hf := lens_flat x
    simp only [lt_no, cond_false, List.take_length, guardO_of (lenOk_of (show x.flatten.length + a.length ≤ 68719476736 by omega)), bindO_some', guardO_of (lenOk_of (show (x.flatten ++ a).length + b.length ≤ 68719476736 by rw [List.length_append]; omega)), List.append_assoc]
  · subst hs
    have ha := List.getElem?_eq_getElem hi
    have h1 : (x.take i).flatten.length + x[i].length ≤ 68719476736 := by
      have := lens_take_succ ha
      have := lens_take_le x (i + 1)
      rw [lens_flat]
      omega
    simp only [lt_yes hi, cond_true, getI_nat, ha, bindO_some', guardO_of (lenOk_of h1), i64_succ (show i < 2 ^ 62 by omega)]
    exact ih _ (flat_take_succ ha).symm

/-- Rows of n bases each, of the group. -/
def goodB (p q : Int) (n : Nat) (rows : List (List Int)) : Prop := ∀ r ∈ rows, r.length = n ∧ r.all (isEl p q) = true

theorem isEl_in {p q x : Int} (hx : isEl p q x = true) : 0 ≤ x ∧ x ≤ p := by
  have := isEl_range hx
  omega

theorem all_in {p q : Int} {l : List Int} (hl : l.all (isEl p q) = true) : ∀ x ∈ l, 0 ≤ x ∧ x ≤ p := fun x hx => isEl_in (List.all_eq_true.1 hl x hx)

theorem images_eq {p q g : Int} {rows : List (List Int)} {es : List Int} (h : Gr p q g) (hr : goodB p q es.length rows) (hn : rows.length < 2 ^ 30) (he : es.length < 2 ^ 30) :
    M_I_Group_images ((p, q, g), rows, es) = some (rows.map fun r => gpf p q r es) := by
  unfold M_I_Group_images
  dsimp only
  have hm : (rows.map fun r => gpf p q r es).length = rows.length := List.length_map ..
  refine append_loop (rows.map fun r => gpf p q r es) some (fun again i a s ha hi hs => ?_) (fun again s hs => ?_) (by omega)
  · rw [hm] at hi
    have hg := List.getElem?_eq_getElem hi
    rw [List.getElem?_map, hg] at ha
    cases ha
    obtain ⟨h1, h2⟩ := hr _ (List.getElem_mem hi)
    have h3 : s.length + [gpf p q rows[i] es].length ≤ 68719476736 := by simp; omega
    simp only [lt_yes hi, cond_true, getI_nat, hg, bindO_some', powers_eq h h1.symm (all_in h2) (by omega), guardO_of (lenOk_of h3), i64_succ (show i < 2 ^ 62 by omega)]
  · rw [hm]
    simp only [lt_no, cond_false]

theorem range_loop {n : Nat} (c : Nat → Bool) {body : (Int → Option Bool) → Int → Option Bool} (hn : n < 2 ^ 62)
    (h : ∀ (again : Int → Option Bool) (i : Nat), i < n → body again (i : Int) = bif c i then again ((i + 1 : Nat) : Int) else some false)
    (hend : ∀ again : Int → Option Bool, body again (n : Int) = some true) : loopO body 0 = some ((List.range n).all c) := by
  have hlen : (List.range n).length = n := List.length_range
  refine (loop_walk (List.range n) (fun _ a k => if c a = true then k else some false) (some true) (fun again i a ha hi => ?_) (fun again => ?_) (by omega)).trans (walk_all c _ 0)
  · rw [hlen] at hi
    rw [List.getElem?_range hi] at ha
    cases ha
    rw [h again i hi]
    cases c i <;> rfl
  · rw [hlen]
    exact hend again

def linC (p q g : Int) (s : ByteArray) (rows : List (List Int)) (ims : List Int) (cs : List Int) : Int := chal p q g s (rows.flatten ++ (ims ++ cs))

def linB (p q g : Int) (s : ByteArray) (rows : List (List Int)) (ims : List Int) (pf : Pf) : Bool :=
  (pf.1.length == rows.length) && ((pf.2.1.length == 1) && ((pf.2.2.length == (rows.getD 0 []).length) && (pf.1.all (isEl p q) && ((pf.2.2.all fun e => decide (0 ≤ e ∧ e ≤ q - 1)) && ((pf.2.1.getD 0 0 == linC p q g s rows ims pf.1) &&
    (List.range rows.length).all fun i => gpf p q (rows.getD i []) pf.2.2 == prodM p 1 [pf.1.getD i 0, pw p q (ims.getD i 0) (linC p q g s rows ims pf.1)])))))

theorem getD_at {α : Type} {l : List α} {i : Nat} {d : α} (h : i < l.length) : l[i]? = some (l.getD i d) := by
  rw [List.getElem?_eq_getElem h, List.getD_eq_getElem?_getD, List.getElem?_eq_getElem h]
  rfl

/-- Rows that a proof may be asked of. -/
structure LinOK (p q : Int) (rows : List (List Int)) (ims : List Int) : Prop where
  n1 : 1 ≤ rows.length
  n8 : rows.length ≤ 8
  m1 : 1 ≤ (rows.getD 0 []).length
  m8 : (rows.getD 0 []).length ≤ 8
  good : goodB p q (rows.getD 0 []).length rows
  len : ims.length = rows.length
  ims : ims.all (isEl p q) = true

theorem lens_good {p q : Int} {n : Nat} : ∀ {rows : List (List Int)}, goodB p q n rows → lens rows = rows.length * n
  | [], _ => by simp [lens]
  | r :: rows, h => by
    have ih := lens_good (rows := rows) fun x hx => h x (List.mem_cons_of_mem _ hx)
    have h1 := (h r List.mem_cons_self).1
    simp only [lens, List.map_cons, List.sum_cons, List.length_cons] at ih ⊢
    rw [ih, h1, Nat.add_mul, Nat.one_mul, Nat.add_comm]

theorem okD_append {a b : List Int} : okD (a ++ b) = (okD a && okD b) := by simp [okD]

theorem okD_flat {p q g : Int} (h : Gr p q g) {n : Nat} {rows : List (List Int)} (hr : goodB p q n rows) : okD rows.flatten = true := by
  simp only [okD, List.all_eq_true]
  intro x hx
  obtain ⟨r, h1, h2⟩ := List.mem_flatten.1 hx
  have := okD_el h (hr r h1).2
  simp only [okD, List.all_eq_true] at this
  exact this x h2

theorem lin_okD {p q g : Int} (h : Gr p q g) {rows : List (List Int)} {ims cs : List Int} (hL : LinOK p q rows ims) (hc : cs.all (isEl p q) = true) : okD (rows.flatten ++ (ims ++ cs)) = true := by
  rw [okD_append, okD_append, okD_flat h hL.good, okD_el h hL.ims, okD_el h hc]
  rfl

theorem lin_len {p q : Int} {rows : List (List Int)} {ims cs : List Int} (hL : LinOK p q rows ims) (hc : cs.length = rows.length) : lens rows ≤ 64 ∧ (rows.flatten ++ (ims ++ cs)).length ≤ 80 := by
  have h1 := lens_good hL.good
  have h2 : rows.length * (rows.getD 0 []).length ≤ 8 * 8 := Nat.mul_le_mul hL.n8 hL.m8
  have h3 := hL.len; have h4 := hL.n8
  simp only [List.length_append, lens_flat]
  omega

theorem lin_challenge {p q g : Int} {s : ByteArray} (h : Gr p q g) (hs : s.size ≤ 40) {rows : List (List Int)} {ims cs : List Int} (hL : LinOK p q rows ims) (hc : cs.all (isEl p q) = true) (hlen : cs.length = rows.length) :
    M_S_hChallenge ((p, q, g), s, rows.flatten ++ (ims ++ cs)) = some (linC p q g s rows ims cs) ∧ M_I_Group_challenge ((p, q, g), s, rows.flatten ++ (ims ++ cs)) = some (linC p q g s rows ims cs, true) := by
  have h1 := lin_okD h hL hc
  have h2 := (lin_len hL hlen).2
  exact ⟨hChallenge_eq h (by omega) h1 (by omega), challenge_eq h hs h1 (by omega)⟩

theorem sVerify_eq {p q g : Int} {s : ByteArray} {rows : List (List Int)} {ims : List Int} {pf : Pf} (h : Gr p q g) (hs : s.size ≤ 40) (hL : LinOK p q rows ims) (hp : pf.small 1048576) :
    M_S_sVerify ((p, q, g), s, rows, ims, pf) = some (linB p q g s rows ims pf) := by
  obtain ⟨cs, ch, rs⟩ := pf
  obtain ⟨p1, p2, p3⟩ := hp
  dsimp only at p1 p2 p3
  unfold M_S_sVerify linB
  have h0 : rows[0]? = some (rows.getD 0 []) := getD_at (by have := hL.n1; omega)
  simp only [getI_zero, h0, bindO_some', ne_dec, gIs_eq h (show cs.length < 2 ^ 62 by omega), gExps_eq h (show rs.length < 2 ^ 62 by omega)]
  rw [show (((ch.length : Nat) : Int) != 1) = !(ch.length == 1) from ne_dec ch.length 1]
  cases e1 : cs.length == rows.length
  · rfl
  cases e2 : ch.length == 1
  · rfl
  cases e3 : rs.length == (rows.getD 0 []).length
  · rfl
  cases e4 : cs.all (isEl p q)
  · rfl
  cases e5 : rs.all fun e => decide (0 ≤ e ∧ e ≤ q - 1)
  · rfl
  have e1' : cs.length = rows.length := by simpa using e1
  have e2' : ch.length = 1 := by simpa using e2
  have e3' : rs.length = (rows.getD 0 []).length := by simpa using e3
  have hl := lin_len hL e1'
  have hn := hL.n8; have hi := hL.len
  simp only [Bool.not_true, cond_false, getD_at (d := (0 : Int)) (show 0 < ch.length by omega), bindO_some', sStatement_eq (show rows.length < 2 ^ 30 by omega) (show lens rows + ims.length + cs.length ≤ 1073741824 by omega), (lin_challenge h hs hL e4 e1').1]
  cases e6 : ch.getD 0 0 == linC p q g s rows ims cs
  · simp only [bne, e6]
    rfl
  have e6' : ch.getD 0 0 = linC p q g s rows ims cs := by simpa using e6
  simp only [bne, e6, Bool.not_true, cond_false, Bool.true_and]
  refine range_loop _ (by omega) (fun again i hi => ?_) (fun again => ?_)
  · have hm := hL.good (rows.getD i []) (List.mem_of_getElem? (getD_at hi))
    have hci := isEl_in (List.all_eq_true.1 e4 _ (List.mem_of_getElem? (getD_at (d := (0 : Int)) (show i < cs.length by omega))))
    have hii := isEl_in (List.all_eq_true.1 hL.ims _ (List.mem_of_getElem? (getD_at (d := (0 : Int)) (show i < ims.length by omega))))
    have r := pw_range (q := q) (x := ims.getD i 0) (e := linC p q g s rows ims cs) (show 1 ≤ p by have := h.p3; omega)
    simp only [lt_yes hi, cond_true, getI_nat, getD_at (d := ([] : List Int)) hi, getD_at (d := (0 : Int)) (show i < cs.length by omega), getD_at (d := (0 : Int)) (show i < ims.length by omega), bindO_some', gProd_eq h (e3'.trans hm.1.symm) (all_in hm.2) (by rw [hm.1]; have := hL.m8; omega), e6',
      gExp_pw h hii.1 hii.2, mul2 h hci (show 0 ≤ pw p q (ims.getD i 0) (linC p q g s rows ims cs) ∧ pw p q (ims.getD i 0) (linC p q g s rows ims cs) ≤ p by omega), i64_succ (show i < 2 ^ 62 by omega), bne]
    cases gpf p q (rows.getD i []) rs == prodM p 1 [cs.getD i 0, pw p q (ims.getD i 0) (linC p q g s rows ims cs)] <;> rfl
  · simp only [lt_no, cond_false]

theorem verifyLinear_eq {p q g : Int} {s : ByteArray} {rows : List (List Int)} {ims : List Int} {pf : Pf} (h : Gr p q g) (hs : s.size ≤ 40) (hL : LinOK p q rows ims) (hp : pf.small 1048576) :
    M_I_Group_verifyLinear ((p, q, g), s, rows, ims, pf) = some (linB p q g s rows ims pf) := by
  obtain ⟨cs, ch, rs⟩ := pf
  obtain ⟨p1, p2, p3⟩ := hp
  dsimp only at p1 p2 p3
  unfold M_I_Group_verifyLinear linB
  have h0 : rows[0]? = some (rows.getD 0 []) := getD_at (by have := hL.n1; omega)
  simp only [getI_zero, h0, bindO_some', ne_dec, hasAll_eq h (show cs.length < 2 ^ 62 by omega), areExps_eq h (show rs.length < 2 ^ 62 by omega)]
  rw [show (((ch.length : Nat) : Int) != 1) = !(ch.length == 1) from ne_dec ch.length 1]
  cases e1 : cs.length == rows.length
  · rfl
  cases e2 : ch.length == 1
  · rfl
  cases e3 : rs.length == (rows.getD 0 []).length
  · rfl
  cases e4 : cs.all (isEl p q)
  · rfl
  cases e5 : rs.all fun e => decide (0 ≤ e ∧ e ≤ q - 1)
  · rfl
  have e1' : cs.length = rows.length := by simpa using e1
  have e2' : ch.length = 1 := by simpa using e2
  have e3' : rs.length = (rows.getD 0 []).length := by simpa using e3
  have hl := lin_len hL e1'
  have hf := lens_flat rows
  have hn := hL.n8; have hi := hL.len; have hm8 := hL.m8
  simp only [Bool.not_true, cond_false, concat_eq (show rows.length < 2 ^ 30 by omega) (show lens rows ≤ 1073741824 by omega), bindO_some', concat3_eq (show rows.flatten.length + ims.length + cs.length ≤ 1073741824 by omega), (lin_challenge h hs hL e4 e1').2,
    getD_at (d := (0 : Int)) (show 0 < ch.length by omega), images_eq h (show goodB p q rs.length rows by rw [e3']; exact hL.good) (show rows.length < 2 ^ 30 by omega) (show rs.length < 2 ^ 30 by omega)]
  cases e6 : ch.getD 0 0 == linC p q g s rows ims cs
  · simp only [bne, e6]
    rfl
  simp only [bne, e6, Bool.not_true, cond_false, Bool.true_and, List.length_map]
  refine range_loop _ (by omega) (fun again i hi => ?_) (fun again => ?_)
  · have hci := isEl_in (List.all_eq_true.1 e4 _ (List.mem_of_getElem? (getD_at (d := (0 : Int)) (show i < cs.length by omega))))
    have hii := isEl_in (List.all_eq_true.1 hL.ims _ (List.mem_of_getElem? (getD_at (d := (0 : Int)) (show i < ims.length by omega))))
    have r := pw_range (q := q) (x := ims.getD i 0) (e := linC p q g s rows ims cs) (show 1 ≤ p by have := h.p3; omega)
    simp only [lt_yes hi, cond_true, getI_nat, List.getElem?_map, getD_at (d := ([] : List Int)) hi, Option.map_some, getD_at (d := (0 : Int)) (show i < cs.length by omega), getD_at (d := (0 : Int)) (show i < ims.length by omega), bindO_some',
      pow_pw h hii.1 hii.2, mul2' h hci (show 0 ≤ pw p q (ims.getD i 0) (linC p q g s rows ims cs) ∧ pw p q (ims.getD i 0) (linC p q g s rows ims cs) ≤ p by omega), i64_succ (show i < 2 ^ 62 by omega)]
    cases gpf p q (rows.getD i []) rs == prodM p 1 [cs.getD i 0, pw p q (ims.getD i 0) (linC p q g s rows ims cs)] <;> rfl
  · simp only [lt_no, cond_false]

theorem isEl_of {p q g t : Int} (h : Gr p q g) (ht : t ^ q.toNat % p = 1) : isEl p q (t % p) = true := by
  have h3 := h.p3; have h2 := h.q2
  have e1 : (t % p) ^ q.toNat % p = 1 := by rw [pow_mod, ht]
  have e2 := Int.emod_nonneg t (show p ≠ 0 by omega)
  have e3 := Int.emod_lt_of_pos t (show 0 < p by omega)
  have e4 : t % p ≠ 0 := by
    intro h0
    rw [h0, Int.zero_pow (show q.toNat ≠ 0 by omega)] at e1
    simp at e1
  unfold isEl
  rw [e1]
  simp only [BEq.rfl, Bool.and_true, decide_eq_true_eq]
  omega

theorem pow_one_mod {p t : Int} {k n : Nat} (hp : 3 ≤ p) (h : t ^ n % p = 1) : (t ^ k) ^ n % p = 1 := by
  rw [← Int.pow_mul, Nat.mul_comm, Int.pow_mul, ← pow_mod, h, Int.one_pow]
  exact Int.emod_eq_of_lt (by omega) (by omega)

theorem isEl_pow {p q g x : Int} (h : Gr p q g) (hx : isEl p q x = true) (k : Nat) : isEl p q (x ^ k % p) = true := isEl_of h (pow_one_mod h.p3 (isEl_range hx).2.2)

theorem isEl_pw {p q g x e : Int} (h : Gr p q g) (hx : isEl p q x = true) : isEl p q (pw p q x e) = true := isEl_pow h hx _

theorem isEl_mulm {p q g a b : Int} (h : Gr p q g) (ha : isEl p q a = true) (hb : isEl p q b = true) : isEl p q (a * b % p) = true := by
  refine isEl_of h ?_
  have h3 := h.p3
  rw [Int.mul_pow, Int.mul_emod, (isEl_range ha).2.2, (isEl_range hb).2.2]
  exact Int.emod_eq_of_lt (by omega) (by omega)

theorem isEl_mul {p q g a b : Int} (h : Gr p q g) (ha : isEl p q a = true) (hb : isEl p q b = true) : isEl p q (prodM p 1 [a, b]) = true := by
  have h1 := isEl_range ha
  rw [mul_out (by omega)]
  exact isEl_mulm h ha hb

theorem isEl_g {p q g : Int} (h : Gr p q g) : isEl p q g = true := by
  have := h.g2; have := h.gp
  unfold isEl
  rw [h.gq]
  simp only [BEq.rfl, Bool.and_true, decide_eq_true_eq]
  omega

def rowsB (p q : Int) (rows : List (List Int)) : Bool := decide (1 ≤ rows.length ∧ rows.length ≤ 8) && (decide (1 ≤ (rows.getD 0 []).length ∧ (rows.getD 0 []).length ≤ 8) && rows.all fun r => (r.length == (rows.getD 0 []).length) && r.all (isEl p q))

theorem cast_in8 (n : Nat) : decide ((1 : Int) ≤ (n : Int) ∧ (n : Int) ≤ 8) = decide (1 ≤ n ∧ n ≤ 8) := decide_eq_decide.2 (by omega)

theorem areRows_eq {p q g : Int} {rows : List (List Int)} (h : Gr p q g) (hr : ∀ r ∈ rows, r.length < 2 ^ 62) : M_I_Group_areRows ((p, q, g), rows) = some (rowsB p q rows) := by
  unfold M_I_Group_areRows rowsB
  dsimp only
  rw [within_eq, bindO_some', cast_in8]
  by_cases hn : 1 ≤ rows.length ∧ rows.length ≤ 8
  · have h0 : rows[0]? = some (rows.getD 0 []) := getD_at (by omega)
    rw [decide_eq_true hn]
    simp only [Bool.not_true, cond_false, getI_zero, h0, bindO_some', within_eq, Bool.true_and]
    rw [cast_in8]
    cases hm : decide (1 ≤ (rows.getD 0 []).length ∧ (rows.getD 0 []).length ≤ 8)
    · rfl
    simp only [Bool.not_true, cond_false, Bool.true_and]
    rw [containsFuncS_eq (p := fun r => !((r.length == (rows.getD 0 []).length) && r.all (isEl p q))) (by omega) (fun r hrm => ?_), bindO_some', ← all_not_any (l := rows) (p := fun r : List Int => (r.length == (rows.getD 0 []).length) && r.all (isEl p q)) (q := fun r : List Int => !((r.length == (rows.getD 0 []).length) && r.all (isEl p q))) (fun a _ => rfl)]
    unfold M_I_Group_areRows_1
    dsimp only
    simp only [getI_zero, h0, bindO_some', ne_dec, hasAll_eq h (hr r hrm)]
    cases r.length == (rows.getD 0 []).length <;> rfl
  · rw [decide_eq_false hn]
    rfl

theorem LinOK_rowsB {p q : Int} {rows : List (List Int)} {ims : List Int} (hL : LinOK p q rows ims) : rowsB p q rows = true := by
  unfold rowsB
  rw [decide_eq_true ⟨hL.n1, hL.n8⟩, decide_eq_true ⟨hL.m1, hL.m8⟩, Bool.true_and, Bool.true_and, List.all_eq_true]
  intro r hr
  obtain ⟨h1, h2⟩ := hL.good r hr
  rw [h1, h2, BEq.rfl]
  rfl

theorem isLabel_eq {s : ByteArray} (hs : s.size ≤ 40) : M_I_isLabel s = some true := by
  unfold M_I_isLabel
  rw [decide_eq_true (by omega)]

theorem VerifyLinear_eq {p q g : Int} {s : ByteArray} {rows : List (List Int)} {ims : List Int} {pf : Pf} (hok : okG p q g = true) (hs : s.size ≤ 40) (hL : LinOK p q rows ims) (hp : pf.small 1048576) :
    M_I_VerifyLinear ((p, q, g), s, rows, ims, pf) = some (linB p q g s rows ims pf, true) := by
  have h := okG_spec hok
  unfold M_I_VerifyLinear
  dsimp only
  have hrl : ∀ r ∈ rows, r.length < 2 ^ 62 := fun r hr => by rw [(hL.good r hr).1]; have := hL.m8; omega
  have hn := hL.n8
  rw [IsValidGroup_eq, hok, bindO_some', isLabel_eq hs, bindO_some', areRows_eq h hrl, LinOK_rowsB hL, bindO_some', ne_dec, hL.len, hasAll_eq h (by rw [hL.len]; omega), hL.ims, bindO_some', verifyLinear_eq h hs hL hp, bindO_some', BEq.rfl]
  rfl

theorem eqRows_ok {p q g1 y1 g2 y2 : Int} (h1 : isEl p q g1 = true) (h2 : isEl p q y1 = true) (h3 : isEl p q g2 = true) (h4 : isEl p q y2 = true) : LinOK p q [[g1], [g2]] [y1, y2] where
  n1 := by simp
  n8 := by simp
  m1 := by simp
  m8 := by simp
  good := by
    intro r hr
    simp only [List.mem_cons, List.not_mem_nil, or_false] at hr
    rcases hr with rfl | rfl <;> exact ⟨rfl, by simp [*]⟩
  len := rfl
  ims := by simp [*]

theorem sVerifyEq_eq {p q g : Int} {s : ByteArray} {g1 y1 g2 y2 : Int} {pf : Pf} (h : Gr p q g) (hs : s.size ≤ 40) (hL : LinOK p q [[g1], [g2]] [y1, y2]) (hp : pf.small 1048576) :
    M_S_sVerifyEq ((p, q, g), s, (g1, y1, g2, y2), pf) = some (linB p q g s [[g1], [g2]] [y1, y2] pf) := by
  unfold M_S_sVerifyEq
  rw [show M_S_sVerify ((p, q, g), s, [[g1], [g2]], [y1, y2], pf) = _ from sVerify_eq h hs hL hp, bindO_some']

theorem VerifyEqual_eq {p q g : Int} {s : ByteArray} {g1 y1 g2 y2 : Int} {pf : Pf} (hok : okG p q g = true) (hs : s.size ≤ 40) (hL : LinOK p q [[g1], [g2]] [y1, y2]) (hp : pf.small 1048576) :
    M_I_VerifyEqual ((p, q, g), s, (g1, y1, g2, y2), pf) = some (linB p q g s [[g1], [g2]] [y1, y2] pf, true) := by
  unfold M_I_VerifyEqual M_I_equalRows
  rw [bindO_some', show M_I_VerifyLinear ((p, q, g), s, [[g1], [g2]], [y1, y2], pf) = _ from VerifyLinear_eq hok hs hL hp, bindO_some']

theorem mul_one {p x : Int} (hp : 2 ≤ p) (hx : 0 ≤ x ∧ x < p) : prodM p 1 [1, x] = x := by
  rw [mul_out (by omega), Int.one_mul, Int.emod_eq_of_lt hx.1 hx.2]

def mulC (p : Int) (a b : Int × Int) : Int × Int := (prodM p 1 [a.1, b.1], prodM p 1 [a.2, b.2])

theorem eMul_eq {p q g : Int} {l : List (Int × Int)} (h : Gr p q g) (hl : l.length < 2 ^ 60) (hx : ∀ c ∈ l, (0 ≤ c.1 ∧ c.1 ≤ p) ∧ 0 ≤ c.2 ∧ c.2 ≤ p) : M_S_eMul ((p, q, g), l) = some (l.foldl (mulC p) (1, 1)) := by
  have h3 := h.p3
  unfold M_S_eMul
  dsimp only
  refine (loopO_for (σ := Int × Int) (fun i s => ((i : Int), s)) l.length (fun i s => some ((l.drop i).foldl (mulC p) s)) (fun _ s => (0 ≤ s.1 ∧ s.1 < p) ∧ 0 ≤ s.2 ∧ s.2 < p) (fun again s hs => ?_) (fun again i s hi hs ih => ?_) (by omega) (i := 0) (s := (1, 1)) (Nat.zero_le _) ⟨⟨by omega, by omega⟩, by omega, by omega⟩).trans ?_
  · simp only [lt_no, cond_false, List.drop_length, List.foldl_nil]
  · have ha := List.getElem?_eq_getElem hi
    obtain ⟨x1, x2⟩ := hx _ (List.getElem_mem hi)
    simp only [lt_yes hi, cond_true, getI_nat, ha, bindO_some', mul2 h (show 0 ≤ s.1 ∧ s.1 ≤ p by omega) x1, mul2 h (show 0 ≤ s.2 ∧ s.2 ≤ p by omega) x2, i64_succ (show i < 2 ^ 62 by omega)]
    rw [List.drop_eq_getElem_cons hi, List.foldl_cons]
    exact ih (mulC p s l[i]) ⟨prod_range (by omega), prod_range (by omega)⟩
  · rfl

theorem mulTwo_eq {p q g : Int} {a b : Int × Int} (h : Gr p q g) (ha : (0 ≤ a.1 ∧ a.1 ≤ p) ∧ 0 ≤ a.2 ∧ a.2 ≤ p) (hb : (0 ≤ b.1 ∧ b.1 ≤ p) ∧ 0 ≤ b.2 ∧ b.2 ≤ p) : M_I_Group_mulTwo ((p, q, g), a, b) = some (mulC p a b) := by
  unfold M_I_Group_mulTwo
  dsimp only
  rw [mul2' h ha.1 hb.1, bindO_some', mul2' h ha.2 hb.2, bindO_some']
  rfl

theorem isCi_in {p q : Int} {c : Int × Int} (h : isCi p q c = true) : (0 ≤ c.1 ∧ c.1 ≤ p) ∧ 0 ≤ c.2 ∧ c.2 ≤ p := by
  simp only [isCi, Bool.and_eq_true] at h
  exact ⟨isEl_in h.1, isEl_in h.2⟩

theorem isCi_mulC {p q g : Int} {a b : Int × Int} (h : Gr p q g) (ha : isCi p q a = true) (hb : isCi p q b = true) : isCi p q (mulC p a b) = true := by
  simp only [isCi, Bool.and_eq_true] at ha hb ⊢
  exact ⟨isEl_mul h ha.1 hb.1, isEl_mul h ha.2 hb.2⟩

abbrev Bl := Int × (Int × Int) × Pf

def lBlind : ByteArray := bytesOf [98, 108, 105, 110, 100]

def oneC (c : Int × Int) : Bool := c.1 == 1 && c.2 == 1

theorem qOne_eq (c : Int × Int) : M_S_qOne c = some (oneC c) := by
  unfold M_S_qOne oneC
  cases h : c.1 == 1 <;> simp

theorem isTrustee_eq (i : Int) : M_I_isTrustee i = some (decide (1 ≤ i ∧ i ≤ 7)) := by
  unfold M_I_isTrustee
  rw [within_eq, bindO_some']

def blindB (p q g : Int) (c : Int × Int) (b : Bl) : Bool := decide (1 ≤ b.1 ∧ b.1 ≤ 7) && (isCi p q b.2.1 && (!(oneC b.2.1 && !oneC c) && linB p q g lBlind [[c.1], [c.2]] [b.2.1.1, b.2.1.2] b.2.2))

theorem blind_ok {p q : Int} {c v : Int × Int} (hc : isCi p q c = true) (hv : isCi p q v = true) : LinOK p q [[c.1], [c.2]] [v.1, v.2] := by
  simp only [isCi, Bool.and_eq_true] at hc hv
  exact eqRows_ok hc.1 hv.1 hc.2 hv.2

theorem eGood1_eq {p q g : Int} {c : Int × Int} (h : Gr p q g) : M_S_eGood ((p, q, g), [c]) = some (isCi p q c) := by
  rw [eGood_eq h]
  simp

theorem qVerify_eq {p q g : Int} {c : Int × Int} {b : Bl} (h : Gr p q g) (hc : isCi p q c = true) (hp : Pf.small b.2.2 1048576) : M_S_qVerify ((p, q, g), c, b) = some (blindB p q g c b) := by
  obtain ⟨i, v, pf⟩ := b
  unfold M_S_qVerify blindB
  dsimp only
  rw [in_eq, bindO_some', show M_S_eGood ((p, q, g), [(v.1, v.2)]) = some (isCi p q v) from eGood1_eq h, bindO_some', qOne_eq, bindO_some', qOne_eq, bindO_some']
  cases decide (1 ≤ i ∧ i ≤ 7)
  · rfl
  cases hv : isCi p q v
  · rfl
  rw [show M_S_sVerifyEq ((p, q, g), bytesOf [98, 108, 105, 110, 100], (c.1, v.1, c.2, v.2), pf.1, pf.2.1, pf.2.2) = _ from sVerifyEq_eq h (by decide) (blind_ok hc hv) hp, bindO_some']
  cases h1 : oneC v <;> cases h2 : oneC c <;> simp [oneC] at h1 h2 ⊢ <;> first | rfl | simp [*] <;> rfl

theorem isBlind_eq {p q g : Int} {c : Int × Int} {b : Bl} (hok : okG p q g = true) (hc : isCi p q c = true) (hp : Pf.small b.2.2 1048576) : M_I_Group_isBlind ((p, q, g), c, b) = some (blindB p q g c b) := by
  have h := okG_spec hok
  obtain ⟨i, v, pf⟩ := b
  unfold M_I_Group_isBlind blindB M_I_blindStatement
  dsimp only
  rw [isTrustee_eq, bindO_some', show M_I_Group_hasCipher ((p, q, g), v.1, v.2) = some (isCi p q v) from hasCipher_eq h, bindO_some', bindO_some']
  cases decide (1 ≤ i ∧ i ≤ 7)
  · rfl
  cases hv : isCi p q v
  · rfl
  rw [show M_I_VerifyEqual ((p, q, g), bytesOf [98, 108, 105, 110, 100], (c.1, v.1, c.2, v.2), pf.1, pf.2.1, pf.2.2) = _ from VerifyEqual_eq hok (by decide) (blind_ok hc hv) hp, bindO_some']
  rw [show (v.1 == 1 && v.2 == 1) = oneC v from rfl, show (c.1 == 1 && c.2 == 1) = oneC c from rfl]
  dsimp only
  change cond (not true) _ (cond (not true) _ (cond (oneC v) (cond (not (oneC c)) _ (cond (linB p q g lBlind [[c.1], [c.2]] [v.1, v.2] pf) _ _)) (cond (linB p q g lBlind [[c.1], [c.2]] [v.1, v.2] pf) _ _))) = _
  cases oneC v <;> cases oneC c <;> cases linB p q g lBlind [[c.1], [c.2]] [v.1, v.2] pf <;> rfl

theorem toBlind_eq {b : Bl} (h : Pf.small b.2.2 1048576) : M_L_toBlind b = some b := by
  unfold M_L_toBlind
  rw [toCipher_eq, bindO_some', show M_L_toProof (b.2.2.1, b.2.2.2.1, b.2.2.2.2) = some b.2.2 from toProof_eq h, bindO_some']

theorem eqBlind_eq {a b : Bl} (h : Pf.small a.2.2 (2 ^ 40)) : M_L_eqBlind (a, b) = some (decide (a = b)) := by
  obtain ⟨i, v, pf⟩ := a
  obtain ⟨j, u, pg⟩ := b
  unfold M_L_eqBlind
  dsimp only
  rw [show M_L_eqCipher ((v.1, v.2), u.1, u.2) = some (decide (v = u)) from eqCipher_eq v u, bindO_some', show M_L_eqProof ((pf.1, pf.2.1, pf.2.2), pg.1, pg.2.1, pg.2.2) = some (decide (pf = pg)) from eqProof_eq h, bindO_some']
  by_cases h1 : i = j <;> by_cases h2 : v = u <;> by_cases h3 : pf = pg <;> simp [bne_dec, h1, h2, h3]

def wsum {α : Type} (w : α → Nat) (x : List α) : Nat := (x.map w).sum

theorem wsum_drop {α : Type} {w : α → Nat} {x : List α} {i : Nat} {a : α} (h : x[i]? = some a) : wsum w (x.drop i) = w a + wsum w (x.drop (i + 1)) := by
  obtain ⟨hi, rfl⟩ := List.getElem?_eq_some_iff.1 h
  rw [List.drop_eq_getElem_cons hi]
  simp only [wsum, List.map_cons, List.sum_cons]

theorem wsum_mem {α : Type} {w : α → Nat} {x : List α} {a : α} (h : a ∈ x) : w a ≤ wsum w x := by
  induction x with
  | nil => simp at h
  | cons b x ih =>
    simp only [wsum, List.map_cons, List.sum_cons] at ih ⊢
    rcases List.mem_cons.1 h with rfl | h
    · omega
    · have := ih h
      omega

theorem sz_loop {α : Type} (w : α → Nat) (x : List α) {left : Int} {body : (Int × Int → Option Int) → Int × Int → Option Int} (h0 : 0 ≤ left) (h1 : left ≤ 1048576) (hn : x.length ≤ 1048576)
    (h : ∀ (again : Int × Int → Option Int) (i : Nat) a (l : Int), x[i]? = some a → i < x.length → 0 ≤ l → l ≤ 1048576 → ∃ k, k ≤ l ∧ (0 ≤ k → k = l - w a) ∧ body again (l, (i : Int)) = if k < 0 then some (-1) else again (k, ((i + 1 : Nat) : Int)))
    (hend : ∀ (again : Int × Int → Option Int) (l : Int), body again (l, (x.length : Int)) = some l) : ∃ k, loopO body (left, 0) = some k ∧ k ≤ left ∧ (0 ≤ k → k = left - wsum w x) := by
  have := loopO_ind (body := body) (fun s (y : Option Int) => ∃ k, y = some k ∧ k ≤ s.1 ∧ (0 ≤ k → k = s.1 - wsum w (x.drop s.2.toNat))) (fun s => (0 ≤ s.1 ∧ s.1 ≤ 1048576) ∧ 0 ≤ s.2 ∧ s.2 ≤ x.length) (fun s => x.length - s.2.toNat)
    (fun again s hs ih => ?_) (s := (left, 0)) ⟨⟨h0, h1⟩, by omega, by omega⟩ (by simp only; omega)
  · obtain ⟨k, e1, e2, e3⟩ := this
    exact ⟨k, e1, e2, by simpa using e3⟩
  · obtain ⟨l, j⟩ := s
    obtain ⟨⟨g1, g2⟩, g3, g4⟩ := hs
    dsimp only at g1 g2 g3 g4 ih ⊢
    obtain ⟨i, rfl⟩ : ∃ i : Nat, j = (i : Int) := ⟨j.toNat, (Int.toNat_of_nonneg g3).symm⟩
    rcases Nat.lt_or_ge i x.length with hi | hi
    · have ha := List.getElem?_eq_getElem hi
      obtain ⟨k, k1, k2, k3⟩ := h again i x[i] l ha hi g1 g2
      rw [k3]
      by_cases hk : k < 0
      · rw [if_pos hk]
        exact ⟨-1, rfl, by omega, fun h => by omega⟩
      · rw [if_neg hk]
        obtain ⟨m, m1, m2, m3⟩ := ih (k, ((i + 1 : Nat) : Int)) ⟨⟨by dsimp only; omega, by dsimp only; omega⟩, by dsimp only; omega, by dsimp only; omega⟩ (by dsimp only; omega)
        dsimp only at m1 m2 m3
        refine ⟨m, m1, by omega, fun hm => ?_⟩
        have e := wsum_drop (w := w) ha
        have := m3 hm
        have := k2 (by omega)
        simp only [Int.toNat_natCast] at *
        omega
    · obtain rfl : i = x.length := by omega
      rw [hend]
      refine ⟨l, rfl, by omega, fun _ => ?_⟩
      simp [wsum]

def wPf (a : Pf) : Nat := a.1.length + a.2.1.length + a.2.2.length

def wBl (a : Bl) : Nat := wPf a.2.2

theorem szBlindS_eq {x : List Bl} {left : Int} (h0 : 0 ≤ left) (h1 : left ≤ 1048576) (hx : x.length < 2 ^ 63) (hr : ∀ r ∈ x, Pf.small r.2.2 (2 ^ 63 - 1)) : ∃ k, M_L_szBlindS (x, left) = some k ∧ k ≤ left ∧ (0 ≤ k → k = left - x.length - wsum wBl x) := by
  unfold M_L_szBlindS M_L_szBlind
  simp only [i64_in (left - (x.length : Int)) (by omega), bindO_some']
  by_cases hk : left - (x.length : Int) < 0
  · rw [decide_eq_true hk]
    exact ⟨-1, rfl, by omega, fun h => by omega⟩
  · rw [decide_eq_false hk, cond_false]
    refine Exists.imp (fun k hk => ⟨hk.1, by have := hk.2.1; omega, hk.2.2⟩) (sz_loop wBl x (left := left - x.length) (by omega) (by omega) (by omega) (fun again i a l ha hi g0 g1 => ?_) (fun again l => ?_))
    · obtain ⟨k, e1, e2, e3⟩ := szProof_eq (a := a.2.2) (left := l) g0 g1 (hr a (List.mem_of_getElem? ha))
      refine ⟨k, e2, fun h => by have := e3 h; simp only [wBl, wPf]; omega, ?_⟩
      simp only [lt_yes hi, cond_true, getI_nat, ha, bindO_some', show M_L_szProof ((a.2.2.1, a.2.2.2.1, a.2.2.2.2), l) = some k from e1, i64_succ (show i < 2 ^ 62 by omega)]
      by_cases hk : k < 0 <;> simp [hk]
    · simp only [lt_no, cond_false]

theorem toBlindS_eq {x : List Bl} (h : x.length ≤ 1048576) (hr : ∀ r ∈ x, Pf.small r.2.2 1048576) : M_L_toBlindS x = some x := by
  unfold M_L_toBlindS
  have hx : (x.length : Int) ≤ ((lim : Nat) : Int) := by rw [lim_eq]; omega
  rw [guardO_of (by simpa using hx), bindO_some', Int.toNat_natCast]
  refine copy_loop x (0, (0, 0), [], [], []) (fun again i a s ha hi hs => ?_) (fun again s hs => ?_) (by omega)
  · have hsi := List.getElem?_eq_getElem (l := s) (show i < s.length by omega)
    simp only [lt_yes hi, cond_true, getI_nat, ha, hsi, bindO_some', show M_L_toBlind (a.1, (a.2.1.1, a.2.1.2), a.2.2.1, a.2.2.2.1, a.2.2.2.2) = some a from toBlind_eq (hr a (List.mem_of_getElem? ha)), Int.toNat_natCast, i64_succ (show i < 2 ^ 62 by omega)]
  · simp

theorem eqBlindS_eq {a : List Bl} (h : a.length < 2 ^ 62) (hr : ∀ r ∈ a, Pf.small r.2.2 (2 ^ 40)) : M_L_eqBlindS (a, a) = some true := by
  unfold M_L_eqBlindS
  have e1 : ((a.length : Int) != (a.length : Int)) = false := by simp
  dsimp only
  rw [e1, cond_false]
  refine (eq_loop a a rfl (fun again i x y hx hy hi => ?_) (fun again => by simp) h).trans (by simp)
  obtain rfl : x = y := by rw [hx] at hy; exact Option.some.inj hy
  simp only [lt_yes hi, cond_true, getI_nat, hx, bindO_some', show M_L_eqBlind ((x.1, (x.2.1.1, x.2.1.2), x.2.2.1, x.2.2.2.1, x.2.2.2.2), x.1, (x.2.1.1, x.2.1.2), x.2.2.1, x.2.2.2.1, x.2.2.2.2) = some (decide (x = x)) from eqBlind_eq (hr x (List.mem_of_getElem? hx)), i64_succ (show i < 2 ^ 62 by omega)]
  simp

def combS (p q g : Int) (c : Int × Int) (s : List Int × Int × Int) (b : Bl) : List Int × Int × Int := bif !(s.1.any (· == b.1)) && blindB p q g c b then (s.1 ++ [b.1], mulC p s.2 b.2.1) else s

def CombOK (p : Int) (i : Nat) (s : List Int × Int × Int) : Prop := s.1.length ≤ i ∧ (0 ≤ s.2.1 ∧ s.2.1 < p) ∧ 0 ≤ s.2.2 ∧ s.2.2 < p

theorem combS_ok {p q g : Int} {c : Int × Int} {s : List Int × Int × Int} {b : Bl} {i : Nat} (hp : 2 ≤ p) (h : CombOK p i s) : CombOK p (i + 1) (combS p q g c s b) := by
  unfold combS CombOK at *
  cases !(s.1.any (· == b.1)) && blindB p q g c b
  · exact ⟨by rw [cond_false]; omega, h.2⟩
  · refine ⟨by simp; omega, prod_range hp, prod_range hp⟩

theorem blind_value {p q g : Int} {c : Int × Int} {b : Bl} (h : blindB p q g c b = true) : isCi p q b.2.1 = true := by
  simp only [blindB, Bool.and_eq_true] at h
  exact h.2.1

theorem qCombine_eq {p q g : Int} {c : Int × Int} {l : List Bl} (h : Gr p q g) (hc : isCi p q c = true) (hl : l.length ≤ 1048576) (hr : ∀ r ∈ l, Pf.small r.2.2 1048576) :
    M_S_qCombine ((p, q, g), c, l) = some ((l.foldl (combS p q g c) ([], 1, 1)).2, (l.foldl (combS p q g c) ([], 1, 1)).1) := by
  have h3 := h.p3
  unfold M_S_qCombine
  dsimp only
  refine (loopO_for (σ := List Int × Int × Int) (fun i s => (s.1, (i : Int), s.2)) l.length (fun i s => some (((l.drop i).foldl (combS p q g c) s).2, ((l.drop i).foldl (combS p q g c) s).1)) (fun i s => CombOK p i s) (fun again s hs => ?_) (fun again i s hi hs ih => ?_) (by omega) (i := 0) (s := ([], 1, 1)) (Nat.zero_le _) ⟨by simp, by dsimp only; omega, by dsimp only; omega⟩).trans rfl
  · simp only [lt_no, cond_false, List.drop_length, List.foldl_nil]
  · have ha := List.getElem?_eq_getElem hi
    have hsm := hr _ (List.getElem_mem hi)
    generalize hb : l[i] = b at ha hsm
    have hg : (l.drop i).foldl (combS p q g c) s = (l.drop (i + 1)).foldl (combS p q g c) (combS p q g c s b) := by
      rw [List.drop_eq_getElem_cons hi, List.foldl_cons, hb]
    rw [hg, ← ih (combS p q g c s b) (combS_ok (by omega) hs)]
    obtain ⟨g1, g2, g3⟩ := hs
    have h1 : s.1.length + [b.1].length ≤ 68719476736 := by simp; omega
    simp only [lt_yes hi, cond_true, getI_nat, ha, bindO_some', has_eq (show s.1.length < 2 ^ 62 by omega), i64_succ (show i < 2 ^ 62 by omega),
      show M_S_qVerify ((p, q, g), (c.1, c.2), b.1, (b.2.1.1, b.2.1.2), b.2.2.1, b.2.2.2.1, b.2.2.2.2) = some (blindB p q g c b) from qVerify_eq h hc hsm]
    unfold combS
    cases hA : s.1.any (· == b.1)
    · cases hB : blindB p q g c b
      · rfl
      · have hv := blind_value hB
        have hm : M_S_eMul ((p, q, g), [(s.2.1, s.2.2), (b.2.1.1, b.2.1.2)]) = some (mulC p s.2 b.2.1) := by
          rw [eMul_eq h (by simp) (fun x hx => ?_)]
          · simp only [List.foldl_cons, List.foldl_nil]
            rw [show mulC p (1, 1) (s.2.1, s.2.2) = s.2 from Prod.ext (mul_one (by omega) g2) (mul_one (by omega) g3)]
          · simp only [List.mem_cons, List.not_mem_nil, or_false] at hx
            rcases hx with rfl | rfl
            · exact ⟨⟨g2.1, by dsimp only; omega⟩, g3.1, by dsimp only; omega⟩
            · exact isCi_in hv
        simp only [Bool.not_false, cond_true, hm, bindO_some', guardO_of (lenOk_of h1), Bool.and_self]
    · rfl

theorem I_comb_loop {p q g : Int} {c : Int × Int} {l : List Bl} (hok : okG p q g = true) (hc : isCi p q c = true) (hl : l.length ≤ 1048576) (hr : ∀ r ∈ l, Pf.small r.2.2 1048576) {β : Type} (fin : List Int × Int × Int → Option β)
    {body : (List Int × Int × Int × Int → Option β) → List Int × Int × Int × Int → Option β}
    (hin : ∀ (again : List Int × Int × Int × Int → Option β) (s : List Int × Int × Int × Int), s.2.1 < (l.length : Int) → body again s =
      bindO (getI l s.2.1) fun a4 => bindO (M_slices_Contains_sint_int (s.1, a4.1)) fun a5 => cond (not a5) (bindO (M_I_Group_isBlind ((p, q, g), (c.1, c.2), a4.1, (a4.2.1.1, a4.2.1.2), a4.2.2.1, a4.2.2.2.1, a4.2.2.2.2)) fun a6 => cond a6 (bindO (M_I_Group_mulTwo ((p, q, g), (s.2.2.1, s.2.2.2), (a4.2.1.1, a4.2.1.2))) fun a7 => bindO (guardO (lenOk (s.1.length + [a4.1].length))) fun _ => bindO (some (s.1 ++ [a4.1])) fun a9 => bindO (some (IntKind.wrap .i64 (s.2.1 + 1))) fun a10 => again (a9, a10, a7.1, a7.2))
          (bindO (some (IntKind.wrap .i64 (s.2.1 + 1))) fun a11 => again (s.1, a11, s.2.2.1, s.2.2.2))) (bindO (some (IntKind.wrap .i64 (s.2.1 + 1))) fun a12 => again (s.1, a12, s.2.2.1, s.2.2.2)))
    (hend : ∀ (again : List Int × Int × Int × Int → Option β) (s : List Int × Int × Int), body again (s.1, (l.length : Int), s.2) = fin s) :
    loopO body ([], 0, 1, 1) = fin (l.foldl (combS p q g c) ([], 1, 1)) := by
  have h := okG_spec hok
  have h3 := h.p3
  refine (loopO_for (σ := List Int × Int × Int) (fun i s => (s.1, (i : Int), s.2)) l.length (fun i s => fin ((l.drop i).foldl (combS p q g c) s)) (fun i s => CombOK p i s) (fun again s hs => ?_) (fun again i s hi hs ih => ?_) (by omega) (i := 0) (s := ([], 1, 1)) (Nat.zero_le _) ⟨by simp, by dsimp only; omega, by dsimp only; omega⟩).trans rfl
  · rw [hend]
    simp only [List.drop_length, List.foldl_nil]
  · have ha := List.getElem?_eq_getElem hi
    have hsm := hr _ (List.getElem_mem hi)
    generalize hb : l[i] = b at ha hsm
    have hg : (l.drop i).foldl (combS p q g c) s = (l.drop (i + 1)).foldl (combS p q g c) (combS p q g c s b) := by
      rw [List.drop_eq_getElem_cons hi, List.foldl_cons, hb]
    rw [hg, ← ih (combS p q g c s b) (combS_ok (by omega) hs), hin _ _ (by dsimp only; omega)]
    obtain ⟨g1, g2, g3⟩ := hs
    have h1 : s.1.length + [b.1].length ≤ 68719476736 := by simp; omega
    simp only [getI_nat, ha, bindO_some', contains_eq (show s.1.length < 2 ^ 62 by omega), i64_succ (show i < 2 ^ 62 by omega),
      show M_I_Group_isBlind ((p, q, g), (c.1, c.2), b.1, (b.2.1.1, b.2.1.2), b.2.2.1, b.2.2.2.1, b.2.2.2.2) = some (blindB p q g c b) from isBlind_eq hok hc hsm]
    unfold combS
    cases hA : s.1.any (· == b.1)
    · cases hB : blindB p q g c b
      · rfl
      · have hv := blind_value hB
        have hm : M_I_Group_mulTwo ((p, q, g), (s.2.1, s.2.2), b.2.1.1, b.2.1.2) = some (mulC p s.2 b.2.1) := mulTwo_eq h ⟨⟨g2.1, by dsimp only; omega⟩, g3.1, by dsimp only; omega⟩ (isCi_in hv)
        simp only [Bool.not_false, cond_true, hm, bindO_some', guardO_of (lenOk_of h1), Bool.and_self]
    · rfl

noncomputable def combine (p q g : Int) (c : Int × Int) (l : List Bl) : (Int × Int) × List Int × Bool :=
  bif okG p q g && (isCi p q c && (decide (l.length ≤ 14) && !(((l.foldl (combS p q g c) ([], 1, 1)).1.length : Int) == 0))) then ((l.foldl (combS p q g c) ([], 1, 1)).2, (l.foldl (combS p q g c) ([], 1, 1)).1, true) else ((0, 0), [], false)

theorem gt14 (n : Nat) : decide ((n : Int) > 14) = !decide (n ≤ 14) := by
  rw [Bool.eq_iff_iff]
  simp
  omega

theorem S_CombineBlinds_eq {p q g : Int} {c : Int × Int} {l : List Bl} (hr : ∀ r ∈ l, Pf.small r.2.2 1048576) : M_S_CombineBlinds ((p, q, g), c, l) = some (combine p q g c l) := by
  unfold M_S_CombineBlinds combine
  dsimp only
  rw [l2Good_eq, bindO_some']
  cases hok : okG p q g
  · rfl
  have h := okG_spec hok
  rw [show M_S_eGood ((p, q, g), [(c.1, c.2)]) = some (isCi p q c) from eGood1_eq h, bindO_some', gt14]
  cases hc : isCi p q c
  · rfl
  by_cases hl : l.length ≤ 14
  · rw [decide_eq_true hl, show M_S_qCombine ((p, q, g), (c.1, c.2), l) = _ from qCombine_eq h hc (by omega) hr, bindO_some']
    dsimp only
    cases ((l.foldl (combS p q g c) ([], 1, 1)).1.length : Int) == 0 <;> rfl
  · rw [decide_eq_false hl]
    rfl

theorem I_CombineBlinds_eq {p q g : Int} {c : Int × Int} {l : List Bl} (hr : ∀ r ∈ l, Pf.small r.2.2 1048576) : M_I_CombineBlinds ((p, q, g), c, l) = some (combine p q g c l) := by
  unfold M_I_CombineBlinds combine
  dsimp only
  rw [IsValidGroup_eq, bindO_some']
  cases hok : okG p q g
  · rfl
  have h := okG_spec hok
  rw [show M_I_Group_hasCipher ((p, q, g), c.1, c.2) = some (isCi p q c) from hasCipher_eq h, bindO_some', gt14]
  cases hc : isCi p q c
  · rfl
  by_cases hl : l.length ≤ 14
  · rw [decide_eq_true hl]
    simp only [Bool.not_true, cond_false, Bool.true_and]
    refine (I_comb_loop hok hc (by omega) hr (fun s => cond (((s.1.length : Nat) : Int) == 0) (some ((0, 0), [], false)) (some ((s.2.1, s.2.2), s.1, true))) (fun again s hs => ?_) (fun again s => ?_)).trans ?_
    · rw [decide_eq_true hs, cond_true]
    · simp only [lt_no, cond_false]
    · cases ((l.foldl (combS p q g c) ([], 1, 1)).1.length : Int) == 0 <;> rfl
  · rw [decide_eq_false hl]
    rfl

theorem wf_bl {l : List Bl} (h : WF (.sl (.cons (.int .i64) (.cons (.cons (.int .i64) (.one (.int .i64))) (.one (.cons (.sl (.int .i64)) (.cons (.sl (.int .i64)) (.one (.sl (.int .i64))))))))) l) : l.length < 2 ^ 63 ∧ ∀ r ∈ l, Pf.small r.2.2 (2 ^ 63 - 1) := by
  have hm : maxLen < 2 ^ 63 := by decide
  refine ⟨Nat.lt_of_le_of_lt h.1 hm, fun r hr => ?_⟩
  have hw : WF (.cons (.sl (.int .i64)) (.cons (.sl (.int .i64)) (.one (.sl (.int .i64))))) r.2.2 := (h.2 r hr).2.2
  have h1 := hw.1.1
  have h2 := hw.2.1.1
  have h3 := hw.2.2.1
  exact ⟨by omega, by omega, by omega⟩

def iterN {σ : Type} (f : Nat → σ → σ) (s0 : σ) : Nat → σ
  | 0 => s0
  | n + 1 => f n (iterN f s0 n)

theorem iterN_inv {σ : Type} {f : Nat → σ → σ} {s0 : σ} {Inv : Nat → σ → Prop} (h0 : Inv 0 s0) : ∀ n, (∀ i s, i < n → Inv i s → Inv (i + 1) (f i s)) → Inv n (iterN f s0 n)
  | 0, _ => h0
  | n + 1, h => h n _ (by omega) (iterN_inv h0 n fun i s hi => h i s (by omega))

theorem iter_loop {σ τ β : Type} (f : Nat → σ → σ) (s0 : σ) (n : Nat) (enc : Int → σ → τ) (fin : σ → Option β) (Inv : Nat → σ → Prop) {body : (τ → Option β) → τ → Option β} (hn : n < 2 ^ 62) (h0 : Inv 0 s0) (hs : ∀ i s, i < n → Inv i s → Inv (i + 1) (f i s))
    (h : ∀ (again : τ → Option β) (i : Nat) s, i < n → Inv i s → body again (enc (i : Int) s) = again (enc ((i + 1 : Nat) : Int) (f i s))) (hend : ∀ (again : τ → Option β) s, Inv n s → body again (enc (n : Int) s) = fin s) : loopO body (enc 0 s0) = fin (iterN f s0 n) := by
  refine (loopO_for (σ := σ) (fun i s => enc (i : Int) s) n (fun _ _ => fin (iterN f s0 n)) (fun i s => s = iterN f s0 i ∧ Inv i s) (fun again s hs => ?_) (fun again i s hi hv ih => ?_) (by omega) (i := 0) (s := s0) (Nat.zero_le _) ⟨rfl, h0⟩).trans rfl
  · obtain ⟨rfl, h2⟩ := hs
    exact hend again _ h2
  · obtain ⟨rfl, h2⟩ := hv
    rw [h again i _ hi h2]
    exact ih _ ⟨rfl, hs i _ hi h2⟩

theorem map_take_succ {α β : Type} {f : α → β} {l : List α} {i : Nat} {a : α} (h : l[i]? = some a) : (l.map f).take (i + 1) = (l.map f).take i ++ [f a] := by
  rw [List.take_add_one, List.getElem?_map, h]
  rfl

theorem getD_is {α : Type} {l : List α} {i : Nat} {a d : α} (h : l[i]? = some a) : l.getD i d = a := by
  rw [List.getD_eq_getElem?_getD, h]
  rfl

theorem gtM (n : Nat) : decide ((n : Int) > 1048576) = !decide (n ≤ 1048576) := by
  rw [Bool.eq_iff_iff]
  simp
  omega

abbrev El := Int × Int × Int × Int

def e0 : El := (0, 0, 0, 0)

theorem i64_addN {n i : Nat} (h : n + i ≤ 1000000) : IntKind.wrap .i64 ((n : Int) + (i : Int)) = ((n + i : Nat) : Int) := by
  rw [i64_in _ (by omega)]
  omega

def sumN : Nat → (Nat → Int) → Int
  | 0, _ => 0
  | n + 1, g => sumN n g + g n

theorem sumN_front (g : Nat → Int) : ∀ n, sumN (n + 1) g = g 0 + sumN n fun t => g (t + 1)
  | 0 => by simp [sumN]
  | n + 1 => by
    rw [sumN, sumN_front g n, sumN]
    omega

theorem sumN_congr {g h : Nat → Int} : ∀ n, (∀ t, t < n → g t = h t) → sumN n g = sumN n h
  | 0, _ => rfl
  | n + 1, e => by rw [sumN, sumN, sumN_congr n fun t ht => e t (by omega), e n (by omega)]

theorem sumN_zero {g : Nat → Int} : ∀ n, (∀ t, t < n → g t = 0) → sumN n g = 0
  | 0, _ => rfl
  | n + 1, e => by rw [sumN, sumN_zero n fun t ht => e t (by omega), e n (by omega)]; rfl

def rowN (n : Nat) (f : Nat → Int) : List Int := (List.range n).map f

theorem rowN_get {n : Nat} {f : Nat → Int} {j : Nat} (h : j < n) : (rowN n f)[j]? = some (f j) := by
  rw [rowN, List.getElem?_map, List.getElem?_range h]
  rfl

theorem rowN_len (n : Nat) (f : Nat → Int) : (rowN n f).length = n := by simp [rowN]

theorem rowN_zero (n : Nat) : rowN n (fun _ => 0) = List.replicate n 0 := by
  refine List.ext_getElem? fun j => ?_
  rw [List.getElem?_replicate]
  split
  · rename_i h
    exact rowN_get h
  · rw [List.getElem?_eq_none (by rw [rowN_len]; omega)]

theorem rowN_set {n a : Nat} {f : Nat → Int} {v : Int} : (rowN n f).set a v = rowN n fun k => if k = a then v else f k := by
  refine List.ext_getElem? fun t => ?_
  by_cases ht : t < n
  · rw [rowN_get ht, List.getElem?_set]
    by_cases hat : a = t
    · subst hat
      rw [if_pos rfl, if_pos (by rw [rowN_len]; exact ht), if_pos rfl]
    · rw [if_neg hat, rowN_get ht, if_neg (fun h => hat h.symm)]
  · rw [List.getElem?_eq_none (by rw [List.length_set, rowN_len]; omega), List.getElem?_eq_none (by rw [rowN_len]; omega)]

theorem prime_one {q d : Int} (hq : IsP q) (h1 : 1 ≤ d) (h2 : d < q) (h3 : d ∣ q) : d = 1 := by
  obtain ⟨hq2, hd⟩ := hq
  obtain ⟨c, hc⟩ := h3
  have hc1 : 2 ≤ c := by
    rcases Int.lt_or_le c 2 with h | h
    · rcases Int.lt_or_le c 1 with h' | h'
      · have : d * c ≤ d * 0 := Int.mul_le_mul_of_nonneg_left (by omega) (by omega)
        rw [Int.mul_zero] at this
        omega
      · obtain rfl : c = 1 := by omega
        rw [Int.mul_one] at hc
        omega
    · exact h
  by_cases hd1 : d = 1
  · exact hd1
  · exfalso
    rcases Int.le_total d c with h | h
    · refine hd d (by omega) ?_ (by rw [hc]; exact Int.mul_emod_right d c)
      rw [hc]
      exact Int.mul_le_mul_of_nonneg_left h (by omega)
    · refine hd c hc1 ?_ (by rw [hc]; exact Int.mul_emod_left d c)
      rw [hc]
      exact Int.mul_le_mul_of_nonneg_right h (by omega)

/-- Euclid's invariant. -/
def EuOK (q a : Int) (s : Int × Int × Int × Int) : Prop :=
  (0 ≤ s.2.1 ∧ s.2.1 < s.1 ∧ s.1 ≤ q) ∧ ((s.2.2.1 ≤ 0 ∧ 0 ≤ s.2.2.2 ∧ s.1 * s.2.2.2 - s.2.1 * s.2.2.1 = q) ∨ (0 ≤ s.2.2.1 ∧ s.2.2.2 ≤ 0 ∧ s.2.1 * s.2.2.1 - s.1 * s.2.2.2 = q)) ∧
  (∃ u, s.1 = a * s.2.2.1 + q * u) ∧ (∃ v, s.2.1 = a * s.2.2.2 + q * v) ∧ ∀ d, d ∣ s.1 → d ∣ s.2.1 → d ∣ a ∧ d ∣ q

theorem eu_bound {r n y x q : Int} (hr : 1 ≤ r) (hn : 1 ≤ n) (hy : 0 ≤ y) (hx : 0 ≤ x) (h : r * y + n * x = q) : y ≤ q ∧ x ≤ q ∧ r * y ≤ q ∧ n * x ≤ q := by
  have h1 : 1 * y ≤ r * y := Int.mul_le_mul_of_nonneg_right hr hy
  have h2 : 1 * x ≤ n * x := Int.mul_le_mul_of_nonneg_right hn hx
  have h3 : 0 ≤ r * y := Int.mul_nonneg (by omega) hy
  have h4 : 0 ≤ n * x := Int.mul_nonneg (by omega) hx
  omega

theorem eu_step {q a : Int} {s : Int × Int × Int × Int} (h : EuOK q a s) (hn : s.2.1 ≠ 0) (hq : q ≤ 2000000000) :
    EuOK q a (s.2.1, s.1 - s.1 / s.2.1 * s.2.1, s.2.2.2, s.2.2.1 - s.1 / s.2.1 * s.2.2.2) ∧ s.1 - s.1 / s.2.1 * s.2.1 = s.1 % s.2.1 ∧ (0 ≤ s.1 / s.2.1 ∧ s.1 / s.2.1 ≤ q) ∧ (0 ≤ s.1 / s.2.1 * s.2.1 ∧ s.1 / s.2.1 * s.2.1 ≤ q) ∧
      (-q ≤ s.1 / s.2.1 * s.2.2.2 ∧ s.1 / s.2.1 * s.2.2.2 ≤ q) ∧ -q ≤ s.2.2.1 ∧ s.2.2.1 ≤ q := by
  obtain ⟨r, n, x, y⟩ := s
  obtain ⟨⟨g1, g2, g3⟩, g4, ⟨u, g5⟩, ⟨v, g6⟩, g7⟩ := h
  dsimp only at *
  have hn1 : 1 ≤ n := by omega
  have e1 : r - r / n * n = r % n := by have := Int.emod_def r n; rw [Int.mul_comm] at this; omega
  have e2 := Int.emod_nonneg r hn
  have e3 := Int.emod_lt_of_pos r (show 0 < n by omega)
  have t0 : 0 ≤ r / n := Int.ediv_nonneg (by omega) (by omega)
  have t1 : r / n ≤ r := Int.ediv_le_self _ (by omega)
  generalize ht : r / n = t at *
  have t2 : t * n ≤ r := by omega
  have t3 : 0 ≤ t * n := Int.mul_nonneg t0 (by omega)
  have inv : (y ≤ 0 ∧ 0 ≤ x - t * y ∧ n * (x - t * y) - (r - t * n) * y = q) ∨ (0 ≤ y ∧ x - t * y ≤ 0 ∧ (r - t * n) * y - n * (x - t * y) = q) := by
    rcases g4 with ⟨a1, a2, a3⟩ | ⟨a1, a2, a3⟩
    · right
      have : 0 ≤ t * y := Int.mul_nonneg t0 a2
      refine ⟨a2, by omega, ?_⟩
      rw [← a3]
      grind
    · left
      have : 0 ≤ t * (-y) := Int.mul_nonneg t0 (by omega)
      rw [Int.mul_neg] at this
      refine ⟨a2, by omega, ?_⟩
      rw [← a3]
      grind
  have bnd : (-q ≤ t * y ∧ t * y ≤ q) ∧ -q ≤ x ∧ x ≤ q := by
    rcases g4 with ⟨a1, a2, a3⟩ | ⟨a1, a2, a3⟩
    · have h1 := eu_bound (r := r) (n := n) (y := y) (x := -x) (q := q) (by omega) hn1 a2 (by omega) (by rw [Int.mul_neg]; omega)
      have h2 : t * y ≤ r * y := Int.mul_le_mul_of_nonneg_right t1 a2
      have h3 : 0 ≤ t * y := Int.mul_nonneg t0 a2
      omega
    · have h1 := eu_bound (r := r) (n := n) (y := -y) (x := x) (q := q) (by omega) hn1 (by omega) a1 (by rw [Int.mul_neg]; omega)
      have h2 : t * (-y) ≤ r * (-y) := Int.mul_le_mul_of_nonneg_right t1 (by omega)
      have h3 : 0 ≤ t * (-y) := Int.mul_nonneg t0 (by omega)
      rw [Int.mul_neg] at h2 h3
      omega
  refine ⟨⟨⟨by dsimp only; omega, by dsimp only; omega, by dsimp only; omega⟩, inv, ⟨v, g6⟩, ⟨u - t * v, by dsimp only; rw [g5, g6]; grind⟩, fun d d1 d2 => ?_⟩, e1, ⟨t0, by omega⟩, ⟨t3, by omega⟩, bnd.1, bnd.2⟩
  have : r = (r - t * n) + t * n := by omega
  exact g7 d (by rw [this]; exact Int.dvd_add d2 (Int.dvd_mul_of_dvd_right d1)) d1

theorem euclid_loop {β : Type} {q a : Int} (hq : IsP q) (hq2 : q ≤ 2000000000) (ha : 1 ≤ a ∧ a < q) (fin : Int → Int → Option β) {body : (Int × Int × Int × Int → Option β) → Int × Int × Int × Int → Option β}
    (hb : ∀ again s, body again s = cond (s.2.1 != 0) (bindO (guardO (s.2.1 != 0)) fun _ => bindO (some (IntKind.wrap .i64 (Int.tdiv s.1 s.2.1))) fun a3 => bindO (some (IntKind.wrap .i64 (a3 * s.2.1))) fun a4 => bindO (some (IntKind.wrap .i64 (s.1 - a4))) fun a5 => bindO (some (IntKind.wrap .i64 (a3 * s.2.2.2))) fun a6 => bindO (some (IntKind.wrap .i64 (s.2.2.1 - a6))) fun a7 => again (s.2.1, a5, s.2.2.2, a7)) (fin s.1 s.2.2.1))
    {s0 : Int × Int × Int × Int} (h0 : EuOK q a s0 ∨ s0 = (a, q, 1, 0)) : ∃ x, loopO body s0 = fin 1 x ∧ a * x % q = 1 := by
  refine loopO_ind (fun (_ : Int × Int × Int × Int) (y : Option β) => ∃ x, y = fin 1 x ∧ a * x % q = 1) (fun s => EuOK q a s ∨ s = (a, q, 1, 0)) (fun s => s.2.1.toNat) (fun again s hs ih => ?_) h0 ?_
  · rw [hb]
    rcases hs with hs | rfl
    · by_cases hn : s.2.1 = 0
      · obtain ⟨⟨g1, g2, g3⟩, g4, ⟨u, g5⟩, ⟨v, g6⟩, g7⟩ := hs
        rw [show (s.2.1 != 0) = false from by simpa using hn, cond_false]
        obtain ⟨d1, d2⟩ := g7 s.1 (Int.dvd_refl _) (by rw [hn]; exact Int.dvd_zero _)
        have h1 : s.1 ≤ a := Int.le_of_dvd (by omega) d1
        have h2 : s.1 = 1 := prime_one hq (by omega) (by omega) d2
        refine ⟨s.2.2.1, by rw [h2], ?_⟩
        have h3 : a * s.2.2.1 = 1 + q * (-u) := by rw [h2] at g5; rw [Int.mul_neg]; omega
        rw [h3, Int.add_mul_emod_self_left]
        exact Int.emod_eq_of_lt (by omega) (by omega)
      · obtain ⟨k1, k2, k3, k4, k5, k6⟩ := eu_step hs hn hq2
        have hr := hs.1
        rw [show (s.2.1 != 0) = true from bne_iff_ne.2 hn, cond_true, guardO_of rfl, bindO_some', tdiv_nn (by omega), i64_in _ (by omega), bindO_some', i64_in _ (by omega), bindO_some', i64_in _ (by omega), bindO_some', i64_in _ (by omega), bindO_some', i64_in _ (by omega), bindO_some']
        refine ih _ (.inl k1) ?_
        dsimp only
        rw [k2]
        have := Int.emod_lt_of_pos s.1 (show 0 < s.2.1 by omega)
        have := Int.emod_nonneg s.1 hn
        omega
    · have e1 : a.tdiv q = 0 := by rw [tdiv_nn (by omega)]; exact Int.ediv_eq_zero_of_lt (by omega) ha.2
      dsimp only
      rw [show (q != 0) = true from bne_iff_ne.2 (by omega), cond_true, guardO_of rfl, bindO_some', e1, i64_in 0 (by omega), bindO_some', Int.zero_mul, i64_in 0 (by omega), bindO_some', Int.sub_zero, i64_in a (by omega), bindO_some', Int.zero_mul, i64_in 0 (by omega), bindO_some', Int.sub_zero, i64_in 1 (by omega), bindO_some']
      refine ih _ (.inl ⟨⟨by dsimp only; omega, by dsimp only; omega, by dsimp only; omega⟩, .inl ⟨by dsimp only; omega, by dsimp only; omega, by dsimp only; omega⟩, ⟨1, by dsimp only; omega⟩, ⟨0, by dsimp only; omega⟩, fun d d1 d2 => ⟨d2, d1⟩⟩) ?_
      dsimp only
      omega
  · rcases h0 with h0 | rfl
    · have := h0.1
      omega
    · dsimp only
      omega

/-- The inverse of a modulo a prime. -/
theorem inv_both {q a : Int} (hq : IsP q) (hq2 : q ≤ 2000000000) (ha : 1 ≤ a ∧ a < q) : ∃ b, (0 ≤ b ∧ b < q) ∧ a * b % q = 1 ∧ M_I_inverse (a, q) = some b ∧ M_S_nInverse (a, q) = some (b, true) := by
  have hq1 := hq.1
  obtain ⟨x, x1, x2⟩ := euclid_loop hq hq2 ha (fun r x => cond (r != 1) (some 0) (bindO (M_I_mod (x, q)) fun a8 => some a8)) (s0 := (q, a, 0, 1)) (fun _ _ => rfl) (.inl ⟨⟨by dsimp only; omega, by dsimp only; omega, by dsimp only; omega⟩, .inl ⟨by dsimp only; omega, by dsimp only; omega, by dsimp only; omega⟩, ⟨1, by dsimp only; omega⟩, ⟨0, by dsimp only; omega⟩, fun d d1 d2 => ⟨d2, d1⟩⟩)
  obtain ⟨y, y1, y2⟩ := euclid_loop hq hq2 ha (fun r x => bindO (M_S_nMod (x, q)) fun a9 => some (a9, (r == (1 : Int)))) (s0 := (a, q, 1, 0)) (fun _ _ => rfl) (.inr rfl)
  have hx := Int.emod_nonneg x (show q ≠ 0 by omega)
  have hx' := Int.emod_lt_of_pos x (show 0 < q by omega)
  have heq : x % q = y % q := by
    have e1 : x % q = x * (a * y) % q := by rw [Int.mul_emod x (a * y), y2, Int.mul_one, Int.emod_emod_of_dvd _ (Int.dvd_refl q)]
    have e2 : y % q = y * (a * x) % q := by rw [Int.mul_emod y (a * x), x2, Int.mul_one, Int.emod_emod_of_dvd _ (Int.dvd_refl q)]
    rw [e1, e2]
    congr 1
    grind
  refine ⟨x % q, ⟨hx, hx'⟩, by rw [← x2]; rw [Int.mul_emod, Int.emod_emod_of_dvd _ (Int.dvd_refl q), ← Int.mul_emod], ?_, ?_⟩
  · unfold M_I_inverse
    dsimp only
    refine x1.trans ?_
    rw [mod_eq, nMod_eq (by omega) (by omega), bindO_some']
    rfl
  · unfold M_S_nInverse
    dsimp only
    rw [nMod_eq (by omega) (by omega), Int.emod_eq_of_lt (by omega) ha.2, bindO_some']
    refine y1.trans ?_
    rw [nMod_eq (by omega) (by omega), bindO_some', heq]
    rfl

/-- A product of what a prime does not divide. -/
theorem mul_ne {q a b : Int} (hq : IsP q) (hq2 : q ≤ 2000000000) (ha : a % q ≠ 0) (hb : b % q ≠ 0) : a * b % q ≠ 0 := by
  have hq1 := hq.1
  have h1 := Int.emod_nonneg a (show q ≠ 0 by omega)
  have h2 := Int.emod_lt_of_pos a (show 0 < q by omega)
  obtain ⟨c, c1, c2, _, _⟩ := inv_both hq hq2 (a := a % q) (by omega)
  intro h0
  apply hb
  have e : b % q = b * (a % q * c) % q := by rw [Int.mul_emod b, c2, Int.mul_one, Int.emod_emod_of_dvd _ (Int.dvd_refl q)]
  rw [e, show b * (a % q * c) = c * (a % q * b) by grind, Int.mul_emod, show a % q * b % q = a * b % q from by rw [Int.mul_emod, Int.emod_emod_of_dvd _ (Int.dvd_refl q), ← Int.mul_emod], h0, Int.mul_zero]
  rfl

/-- Equal modulo q. -/
def Cg (q a b : Int) : Prop := ∃ u, a = b + q * u

theorem Cg_refl {q : Int} (a : Int) : Cg q a a := ⟨0, by omega⟩

theorem Cg_mod {q : Int} (a : Int) : Cg q (a % q) a := ⟨-(a / q), by have := Int.emod_def a q; rw [Int.mul_neg]; omega⟩

theorem Cg_trans {q a b c : Int} (h1 : Cg q a b) (h2 : Cg q b c) : Cg q a c := by
  obtain ⟨u, h1⟩ := h1
  obtain ⟨v, h2⟩ := h2
  exact ⟨u + v, by rw [h1, h2]; grind⟩

theorem Cg_symm {q a b : Int} (h : Cg q a b) : Cg q b a := by
  obtain ⟨u, h⟩ := h
  exact ⟨-u, by rw [h]; grind⟩

theorem Cg_add {q a b c d : Int} (h1 : Cg q a b) (h2 : Cg q c d) : Cg q (a + c) (b + d) := by
  obtain ⟨u, h1⟩ := h1
  obtain ⟨v, h2⟩ := h2
  exact ⟨u + v, by rw [h1, h2]; grind⟩

theorem Cg_mul {q a b c d : Int} (h1 : Cg q a b) (h2 : Cg q c d) : Cg q (a * c) (b * d) := by
  obtain ⟨u, h1⟩ := h1
  obtain ⟨v, h2⟩ := h2
  exact ⟨b * v + u * d + q * u * v, by rw [h1, h2]; grind⟩

theorem Cg_eq {q a b : Int} (h : Cg q a b) : a % q = b % q := by
  obtain ⟨u, h⟩ := h
  rw [h, Int.add_mul_emod_self_left]

theorem Cg_of {q a b : Int} (h : a % q = b % q) : Cg q a b := Cg_trans (Cg_symm (Cg_mod a)) (h ▸ Cg_mod b)

theorem sumN_mulL (c : Int) (g : Nat → Int) : ∀ n, sumN n (fun t => c * g t) = c * sumN n g
  | 0 => by simp [sumN]
  | n + 1 => by rw [sumN, sumN, sumN_mulL c g n, Int.mul_add]

theorem sumN_upd (g : Nat → Int) (j : Nat) (v : Int) : ∀ n, sumN n (fun t => if t = j then v else g t) = sumN n g + if j < n then v - g j else 0
  | 0 => by simp [sumN]
  | n + 1 => by
    rw [sumN, sumN, sumN_upd g j v n]
    by_cases h : n = j
    · subst h
      simp
      omega
    · by_cases h2 : j < n
      · simp [h, h2, show j < n + 1 by omega]
        omega
      · simp [h, h2, show ¬ j < n + 1 by omega]

def polyv (f : List Int) (x : Int) : Int := sumN f.length fun i => f.getD i 0 * x ^ i

def evC (n : Nat) (C : Nat → Int) (x : Int) : Int := sumN n fun t => C t * x ^ t

theorem polyv_row {n : Nat} {C : Nat → Int} {x : Int} : polyv (rowN n C) x = evC n C x := by
  unfold polyv evC
  rw [rowN_len]
  exact sumN_congr n fun t ht => by rw [getD_is (rowN_get ht)]

/-- Coefficients below q. -/
def inF (q : Int) (f : List Int) : Prop := ∀ a ∈ f, 0 ≤ a ∧ a < q

theorem inF_get {q : Int} {f : List Int} (h : inF q f) {i : Nat} (hi : i < f.length) : 0 ≤ f.getD i 0 ∧ f.getD i 0 < q := h _ (List.mem_of_getElem? (getD_at hi))

theorem horner {f : List Int} {x : Int} {k : Nat} (hk : k < f.length) : (sumN (k + 1) fun t => f.getD (f.length - (k + 1) + t) 0 * x ^ t) = (sumN k fun t => f.getD (f.length - k + t) 0 * x ^ t) * x + f.getD (f.length - 1 - k) 0 := by
  rw [sumN_front]
  have e : (fun t => f.getD (f.length - (k + 1) + (t + 1)) 0 * x ^ (t + 1)) = fun t => x * (f.getD (f.length - k + t) 0 * x ^ t) := by
    funext t
    rw [show f.length - (k + 1) + (t + 1) = f.length - k + t by omega, Int.pow_succ]
    grind
  rw [e, sumN_mulL, show f.length - (k + 1) + 0 = f.length - 1 - k by omega, Int.pow_zero]
  grind

theorem prod_small {q a b : Int} (hq : q ≤ 2000000000) (ha : 0 ≤ a ∧ a < q) (hb : 0 ≤ b ∧ b < q) : 0 ≤ a * b ∧ a * b ≤ 4000000000000000000 := by
  refine ⟨Int.mul_nonneg ha.1 hb.1, ?_⟩
  have : a * b ≤ 2000000000 * 2000000000 := Int.mul_le_mul (by omega) (by omega) hb.1 (by omega)
  omega

theorem evalPoly_eq {q x : Int} {f : List Int} (hq : 2 ≤ q ∧ q ≤ 2000000000) (hx : 0 ≤ x ∧ x < q) (hf : inF q f) (hl : f.length < 2 ^ 30) : M_I_evalPoly (q, f, x) = some (polyv f x % q) := by
  unfold M_I_evalPoly
  dsimp only
  rw [i64_in _ (by omega), bindO_some']
  have key := iter_loop (fun k (s : Int) => (s * x % q + f.getD (f.length - 1 - k) 0) % q) 0 f.length (fun i s => (s, (f.length : Int) - 1 - i)) (fun s => some s) (fun k s => s = (sumN k fun t => f.getD (f.length - k + t) 0 * x ^ t) % q)
    (body := fun (again1 : (Int × Int) → Option Int) (s2 : Int × Int) => cond (decide (s2.2 ≥ 0)) (bindO (some (IntKind.wrap .i64 (s2.1 * x))) fun a3 => bindO (guardO (q != 0)) fun _ => bindO (some (Int.tmod a3 q)) fun a5 => bindO (getI f s2.2) fun a6 => bindO (some (IntKind.wrap .i64 (a5 + a6))) fun a7 => bindO (guardO (q != 0)) fun _ => bindO (some (Int.tmod a7 q)) fun a9 => bindO (some (IntKind.wrap .i64 (s2.2 - 1))) fun a10 => again1 (a9, a10)) (some s2.1))
    (by omega) (by simp [sumN]) (fun k s hk hv => ?_) (fun again k s hk hv => ?_) (fun again s hv => ?_)
  · rw [Int.sub_zero] at key
    refine key.trans ?_
    have := iterN_inv (f := fun k (s : Int) => (s * x % q + f.getD (f.length - 1 - k) 0) % q) (s0 := 0) (Inv := fun k s => s = (sumN k fun t => f.getD (f.length - k + t) 0 * x ^ t) % q) (by simp [sumN]) f.length (fun k s hk hv => ?_)
    · rw [this, Nat.sub_self]
      unfold polyv
      congr 3
      funext t
      rw [Nat.zero_add]
    · subst hv
      rw [horner hk]
      exact Cg_eq (Cg_add (Cg_trans (Cg_mod _) (Cg_mul (Cg_mod _) (Cg_refl _))) (Cg_refl _))
  · subst hv
    rw [horner hk]
    exact Cg_eq (Cg_add (Cg_trans (Cg_mod _) (Cg_mul (Cg_mod _) (Cg_refl _))) (Cg_refl _))
  · have hs : 0 ≤ s ∧ s < q := by
      subst hv
      exact ⟨Int.emod_nonneg _ (by omega), Int.emod_lt_of_pos _ (by omega)⟩
    have hp := prod_small hq.2 hs hx
    have hi : f.length - 1 - k < f.length := by omega
    have hfi := inF_get hf hi
    have hg : getI f ((f.length : Int) - 1 - (k : Int)) = some (f.getD (f.length - 1 - k) 0) := by
      rw [show (f.length : Int) - 1 - (k : Int) = ((f.length - 1 - k : Nat) : Int) by omega, getI_nat, getD_at hi]
    have r1 := Int.emod_nonneg (s * x) (show q ≠ 0 by omega)
    have r2 := Int.emod_lt_of_pos (s * x) (show 0 < q by omega)
    have hg0 : guardO (q != 0) = some () := guardO_of (bne_iff_ne.2 (by omega))
    dsimp only
    rw [decide_eq_true (show (f.length : Int) - 1 - (k : Int) ≥ 0 by omega), cond_true, i64_in (s * x) (by omega), bindO_some', hg0, bindO_some', bindO_some', tmod_nn hp.1, hg, bindO_some', i64_in _ (by omega), bindO_some', bindO_some', tmod_nn (by omega), bindO_some', i64_in _ (by omega), bindO_some']
    congr 2
    omega
  · dsimp only
    rw [decide_eq_false (show ¬ (f.length : Int) - 1 - (f.length : Int) ≥ 0 by omega), cond_false]

def mp2 (q : Int) (f g : List Int) (i k : Nat) (C : Nat → Int) : Nat → Int := fun t => if t = i + k then (C (i + k) + f.getD i 0 * g.getD k 0 % q) % q else C t

def mp1 (q : Int) (f g : List Int) (i : Nat) (C : Nat → Int) : Nat → Int := iterN (mp2 q f g i) C g.length

def mpN (q : Int) (f g : List Int) : Nat → Int := iterN (mp1 q f g) (fun _ => 0) f.length

def mulP (q : Int) (f g : List Int) : List Int := rowN (f.length + g.length - 1) (mpN q f g)

def rngC (q : Int) (C : Nat → Int) : Prop := ∀ t, 0 ≤ C t ∧ C t < q

theorem mp2_rng {q : Int} {f g : List Int} {i k : Nat} {C : Nat → Int} (hq : 2 ≤ q) (h : rngC q C) : rngC q (mp2 q f g i k C) := fun t => by
  unfold mp2
  split
  · exact ⟨Int.emod_nonneg _ (by omega), Int.emod_lt_of_pos _ (by omega)⟩
  · exact h t

theorem mp2_ev {q x : Int} {f g : List Int} {i k n : Nat} {C : Nat → Int} (hn : i + k < n) : Cg q (evC n (mp2 q f g i k C) x) (evC n C x + f.getD i 0 * x ^ i * (g.getD k 0 * x ^ k)) := by
  have e : evC n (mp2 q f g i k C) x = evC n C x + ((C (i + k) + f.getD i 0 * g.getD k 0 % q) % q - C (i + k)) * x ^ (i + k) := by
    unfold evC mp2
    have : (fun t => (if t = i + k then (C (i + k) + f.getD i 0 * g.getD k 0 % q) % q else C t) * x ^ t) = fun t => if t = i + k then (C (i + k) + f.getD i 0 * g.getD k 0 % q) % q * x ^ (i + k) else C t * x ^ t := by
      funext t
      by_cases h : t = i + k
      · rw [if_pos h, if_pos h, h]
      · rw [if_neg h, if_neg h]
    rw [this, sumN_upd (fun t => C t * x ^ t), if_pos hn]
    grind
  rw [e, show f.getD i 0 * x ^ i * (g.getD k 0 * x ^ k) = f.getD i 0 * g.getD k 0 * x ^ (i + k) by rw [Int.pow_add]; grind]
  refine Cg_add (Cg_refl _) (Cg_mul ?_ (Cg_refl _))
  have h1 : Cg q ((C (i + k) + f.getD i 0 * g.getD k 0 % q) % q) (C (i + k) + f.getD i 0 * g.getD k 0) := Cg_trans (Cg_mod _) (Cg_add (Cg_refl _) (Cg_mod _))
  obtain ⟨u, h1⟩ := h1
  exact ⟨u, by rw [h1]; grind⟩

theorem mp1_ev {q x : Int} {f g : List Int} {i n : Nat} {C : Nat → Int} (hn : i + g.length ≤ n) : Cg q (evC n (mp1 q f g i C) x) (evC n C x + f.getD i 0 * x ^ i * polyv g x) := by
  have := iterN_inv (f := mp2 q f g i) (s0 := C) (Inv := fun k D => k ≤ g.length → Cg q (evC n D x) (evC n C x + f.getD i 0 * x ^ i * sumN k fun j => g.getD j 0 * x ^ j)) (fun _ => by simp only [sumN]; rw [Int.mul_zero, Int.add_zero]; exact Cg_refl _) g.length (fun k D hk hv _ => by
    refine Cg_trans (mp2_ev (by omega)) ?_
    rw [sumN, Int.mul_add, ← Int.add_assoc]
    exact Cg_add (hv (by omega)) (Cg_refl _))
  exact this (Nat.le_refl _)

theorem mpN_ev {q x : Int} {f g : List Int} (hg : 1 ≤ g.length) : Cg q (polyv (mulP q f g) x) (polyv f x * polyv g x) := by
  rw [mulP, polyv_row]
  have := iterN_inv (f := mp1 q f g) (s0 := fun _ => 0) (Inv := fun i D => i ≤ f.length → Cg q (evC (f.length + g.length - 1) D x) ((sumN i fun j => f.getD j 0 * x ^ j) * polyv g x)) (fun _ => by
    have e0 : evC (f.length + g.length - 1) (fun _ => 0) x = 0 := sumN_zero _ fun t _ => by simp
    rw [e0]; simp only [sumN]; rw [Int.zero_mul]; exact Cg_refl _) f.length (fun i D hi hv _ => by
    refine Cg_trans (mp1_ev (by omega)) ?_
    rw [sumN, Int.add_mul]
    exact Cg_add (hv (by omega)) (Cg_refl _))
  exact this (Nat.le_refl _)

theorem mulP_inF {q : Int} {f g : List Int} (hq : 2 ≤ q) : inF q (mulP q f g) := by
  have h1 : rngC q (mpN q f g) := iterN_inv (Inv := fun _ C => rngC q C) (fun t => ⟨by omega, by omega⟩) _ fun i C _ hv => iterN_inv (Inv := fun _ C => rngC q C) hv _ fun k C _ hw => mp2_rng hq hw
  intro a ha
  obtain ⟨t, _, rfl⟩ := List.mem_map.1 ha
  exact h1 t

theorem mulP_len {q : Int} {f g : List Int} : (mulP q f g).length = f.length + g.length - 1 := rowN_len ..

theorem mulPolys_eq {q : Int} {f g : List Int} (hq : 2 ≤ q ∧ q ≤ 2000000000) (hf : inF q f) (hg : inF q g) (hfl : 1 ≤ f.length ∧ f.length ≤ 1000) (hgl : 1 ≤ g.length ∧ g.length ≤ 1000) : M_I_mulPolys (q, f, g) = some (mulP q f g) := by
  unfold M_I_mulPolys
  dsimp only
  have hg0 : guardO (q != 0) = some () := guardO_of (bne_iff_ne.2 (by omega))
  have hN : IntKind.wrap .i64 (IntKind.wrap .i64 ((f.length : Int) + (g.length : Int)) - 1) = ((f.length + g.length - 1 : Nat) : Int) := by
    rw [i64_in ((f.length : Int) + (g.length : Int)) (by omega), i64_in _ (by omega)]
    omega
  have hlim : (((f.length + g.length - 1 : Nat) : Int)) ≤ ((lim : Nat) : Int) := by rw [lim_eq]; omega
  rw [show (((f.length : Nat) : Int) == 0) = false from beq_eq_false_iff_ne.2 (by omega), show (((g.length : Nat) : Int) == 0) = false from beq_eq_false_iff_ne.2 (by omega), cond_false, cond_false, bindO_some', bindO_some', hN, guardO_of (by simpa using hlim), bindO_some', Int.toNat_natCast, ← rowN_zero]
  unfold mulP
  generalize hn : f.length + g.length - 1 = n
  refine iter_loop (mp1 q f g) (fun _ => 0) f.length (fun i C => (i, rowN n C)) (fun C => some (rowN n C)) (fun _ C => rngC q C) (by omega) (fun t => ⟨Int.le_refl 0, show (0 : Int) < q by omega⟩) (fun i C _ hv => iterN_inv (Inv := fun _ C => rngC q C) hv _ fun k C _ hw => mp2_rng hq.1 hw) (fun again i C hi hv => ?_) (fun again C hv => ?_)
  · have hfi := getD_at (d := (0 : Int)) hi
    have hfr := inF_get hf hi
    simp only [lt_yes hi, cond_true, getI_nat, hfi, bindO_some']
    refine iter_loop (mp2 q f g i) C g.length (fun k C => (k, rowN n C)) (fun C => again (((i + 1 : Nat) : Int), rowN n C)) (fun _ C => rngC q C) (by omega) hv (fun k C _ hw => mp2_rng hq.1 hw) (fun again2 k C hk hw => ?_) (fun again2 C hw => ?_)
    · have hgk := getD_at (d := (0 : Int)) hk
      have hgr := inF_get hg hk
      have hik : i + k < n := by omega
      have hp := prod_small hq.2 hfr hgr
      have hC := hw (i + k)
      have r1 := Int.emod_nonneg (f.getD i 0 * g.getD k 0) (show q ≠ 0 by omega)
      have r2 := Int.emod_lt_of_pos (f.getD i 0 * g.getD k 0) (show 0 < q by omega)
      simp only [lt_yes hk, cond_true, getI_nat, hgk, bindO_some', i64_addN (show i + k ≤ 1000000 by omega), rowN_get hik, i64_in (f.getD i 0 * g.getD k 0) (by omega), hg0, tmod_nn hp.1, i64_in (C (i + k) + f.getD i 0 * g.getD k 0 % q) (by omega), tmod_nn (show 0 ≤ C (i + k) + f.getD i 0 * g.getD k 0 % q by omega), Int.toNat_natCast, i64_succ (show k < 2 ^ 62 by omega), rowN_set]
      rfl
    · simp only [lt_no, cond_false, i64_succ (show i < 2 ^ 62 by omega)]
  · simp only [lt_no, cond_false]

def prodT (l : List Int) (x : Int) (t : Nat) : Int := iterN (fun j p => p * (x - l.getD j 0)) 1 t

def skipT (l : List Int) (i : Nat) (x : Int) (t : Nat) : Int := iterN (fun j p => if j = i then p else p * (x - l.getD j 0)) 1 t

def othersL (l : List Int) (i : Nat) : List Int := l.take i ++ l.drop (i + 1)

theorem others_len {l : List Int} {i : Nat} (hi : i < l.length) : (othersL l i).length = l.length - 1 := by
  simp only [othersL, List.length_append, List.length_take, List.length_drop]
  omega

theorem others_get {l : List Int} {i j : Nat} (hi : i < l.length) : (othersL l i).getD j 0 = if j < i then l.getD j 0 else l.getD (j + 1) 0 := by
  unfold othersL
  rw [List.getD_eq_getElem?_getD]
  by_cases h : j < i
  · rw [if_pos h, List.getElem?_append_left (by rw [List.length_take]; omega), List.getElem?_take, if_pos h, List.getD_eq_getElem?_getD]
  · rw [if_neg h, List.getElem?_append_right (by rw [List.length_take]; omega), List.getElem?_drop, List.length_take, show i + 1 + (j - min i l.length) = j + 1 by omega, List.getD_eq_getElem?_getD]

theorem skip_others {l : List Int} {i : Nat} {x : Int} (hi : i < l.length) : ∀ t, skipT l i x t = prodT (othersL l i) x (if t ≤ i then t else t - 1)
  | 0 => rfl
  | t + 1 => by
    have e : skipT l i x (t + 1) = if t = i then skipT l i x t else skipT l i x t * (x - l.getD t 0) := rfl
    rw [e, skip_others hi t]
    by_cases h1 : t = i
    · subst h1
      rw [if_pos rfl, if_pos (Nat.le_refl _), if_neg (by omega), Nat.add_sub_cancel]
    · rw [if_neg h1]
      by_cases h2 : t < i
      · rw [if_pos (by omega), if_pos (by omega)]
        show _ = prodT (othersL l i) x t * (x - (othersL l i).getD t 0)
        rw [others_get hi, if_pos h2]
      · rw [if_neg (by omega), if_neg (by omega), show t + 1 - 1 = (t - 1) + 1 by omega]
        show _ = prodT (othersL l i) x (t - 1) * (x - (othersL l i).getD (t - 1) 0)
        rw [others_get hi, if_neg (by omega), show t - 1 + 1 = t by omega]

theorem skip_all {l : List Int} {i : Nat} {x : Int} (hi : i < l.length) : skipT l i x l.length = prodT (othersL l i) x (othersL l i).length := by
  rw [skip_others hi, if_neg (by omega), others_len hi]

/-- Distinct points do not meet. -/
theorem skip_ne {q : Int} {l : List Int} {i : Nat} (hq : IsP q) (hq2 : q ≤ 2000000000) (hl : inF q l) (hn : l.Nodup) (hi : i < l.length) : ∀ t, t ≤ l.length → skipT l i (l.getD i 0) t % q ≠ 0
  | 0, _ => by
    show (1 : Int) % q ≠ 0
    have := hq.1
    rw [Int.emod_eq_of_lt (by omega) (by omega)]
    omega
  | t + 1, ht => by
    have e : skipT l i (l.getD i 0) (t + 1) = if t = i then skipT l i (l.getD i 0) t else skipT l i (l.getD i 0) t * (l.getD i 0 - l.getD t 0) := rfl
    rw [e]
    split
    · exact skip_ne hq hq2 hl hn hi t (by omega)
    · rename_i hti
      refine mul_ne hq hq2 (skip_ne hq hq2 hl hn hi t (by omega)) fun h0 => ?_
      have a1 := inF_get hl hi
      have a2 := inF_get hl (show t < l.length by omega)
      have hne : l.getD i 0 ≠ l.getD t 0 := fun he => by
        have g1 := getD_at (d := (0 : Int)) hi
        have g2 := getD_at (d := (0 : Int)) (show t < l.length by omega)
        rw [he, ← g2] at g1
        exact hti (((List.getElem?_inj hi hn).1 g1).symm)
      obtain ⟨u, hu⟩ := Int.dvd_of_emod_eq_zero h0
      rcases Int.lt_trichotomy u 0 with h | h | h
      · have : q * u ≤ q * (-1) := Int.mul_le_mul_of_nonneg_left (by omega) (by omega)
        omega
      · rw [h, Int.mul_zero] at hu
        omega
      · have : q * 1 ≤ q * u := Int.mul_le_mul_of_nonneg_left (by omega) (by omega)
        omega

def frN (q : Int) (roots : List Int) : List Int := iterN (fun j acc => mulP q acc [(-(roots.getD j 0)) % q, 1]) [1] roots.length

theorem pair_inF {q c : Int} (hq : 2 ≤ q) : inF q [c % q, 1] := by
  intro a ha
  simp only [List.mem_cons, List.not_mem_nil, or_false] at ha
  rcases ha with rfl | rfl
  · exact ⟨Int.emod_nonneg _ (by omega), Int.emod_lt_of_pos _ (by omega)⟩
  · omega

def FrOK (q : Int) (roots : List Int) (t : Nat) (acc : List Int) : Prop := acc.length = t + 1 ∧ inF q acc ∧ ∀ x, Cg q (polyv acc x) (prodT roots x t)

theorem fr_step {q : Int} {roots acc : List Int} {t : Nat} (hq : 2 ≤ q) (h : FrOK q roots t acc) : FrOK q roots (t + 1) (mulP q acc [(-(roots.getD t 0)) % q, 1]) := by
  obtain ⟨h1, h2, h3⟩ := h
  refine ⟨by rw [mulP_len, h1]; rfl, mulP_inF hq, fun x => Cg_trans (mpN_ev (by simp)) ?_⟩
  refine Cg_mul (h3 x) ?_
  have e : polyv [(-(roots.getD t 0)) % q, 1] x = (-(roots.getD t 0)) % q + x := by
    simp [polyv, sumN, Int.pow_succ]
  rw [e, show x - roots.getD t 0 = -(roots.getD t 0) + x by omega]
  exact Cg_add (Cg_mod _) (Cg_refl _)

theorem fr_zero {q : Int} (hq : 2 ≤ q) (roots : List Int) : FrOK q roots 0 [1] := ⟨rfl, fun a ha => by simp only [List.mem_cons, List.not_mem_nil, or_false] at ha; omega, fun x => by
  have e : polyv [1] x = 1 := by simp [polyv, sumN]
  rw [e]
  exact Cg_refl _⟩

theorem frN_ok {q : Int} (hq : 2 ≤ q) (roots : List Int) : FrOK q roots roots.length (frN q roots) := iterN_inv (Inv := fun t acc => FrOK q roots t acc) (fr_zero hq roots) roots.length fun _ _ _ hv => fr_step hq hv

theorem fromRoots_eq {q : Int} {roots : List Int} (hq : 2 ≤ q ∧ q ≤ 2000000000) (hr : ∀ a ∈ roots, -2000000000 ≤ a ∧ a ≤ 2000000000) (hl : roots.length ≤ 100) : M_I_fromRoots (q, roots) = some (frN q roots) := by
  unfold M_I_fromRoots
  dsimp only
  refine iter_loop (fun j acc => mulP q acc [(-(roots.getD j 0)) % q, 1]) [1] roots.length (fun i acc => (acc, i)) (fun acc => some acc) (fun t acc => FrOK q roots t acc) (by omega) (fr_zero hq.1 roots) (fun _ _ _ hv => fr_step hq.1 hv) (fun again i acc hi hv => ?_) (fun again acc hv => ?_)
  · obtain ⟨h1, h2, h3⟩ := hv
    have ha := getD_at (d := (0 : Int)) hi
    have hr := hr _ (List.mem_of_getElem? ha)
    simp only [lt_yes hi, cond_true, getI_nat, ha, bindO_some', Int.zero_sub, i64_in (-(roots.getD i 0)) (by omega), mod_eq, nMod_eq (show 1 ≤ q by omega) (show q ≤ 4611686018427387903 by omega), mulPolys_eq hq h2 (pair_inF (c := -(roots.getD i 0)) hq.1) (show 1 ≤ acc.length ∧ acc.length ≤ 1000 by omega) (show 1 ≤ [(-(roots.getD i 0)) % q, 1].length ∧ [(-(roots.getD i 0)) % q, 1].length ≤ 1000 by simp), i64_succ (show i < 2 ^ 62 by omega)]
  · simp only [lt_no, cond_false]

theorem delete_eq {l : List Int} {i : Nat} (hi : i < l.length) : M_slices_Delete_sint_int (l, (i : Int), ((i + 1 : Nat) : Int)) = some (othersL l i) := by
  unfold M_slices_Delete_sint_int
  dsimp only
  rw [if_pos ⟨⟨by omega, by omega⟩, by omega, by omega⟩, Int.toNat_natCast, Int.toNat_natCast]
  rfl

theorem mem_others {l : List Int} {i : Nat} {a : Int} (h : a ∈ othersL l i) : a ∈ l := by
  rcases List.mem_append.1 h with h | h
  · exact List.mem_of_mem_take h
  · exact List.mem_of_mem_drop h

/-- The basis polynomial at point i: 1 there, 0 at the othersL. -/
theorem basisAt_eq {q : Int} {xs : List Int} {i : Nat} (hq : IsP q) (hq2 : q ≤ 2000000000) (hx : inF q xs) (hn : xs.Nodup) (hl : xs.length ≤ 100) (hi : i < xs.length) :
    ∃ h c, M_I_basisAt (q, xs, (i : Int)) = some h ∧ h.length = xs.length ∧ inF q h ∧ (∀ x, Cg q (polyv h x) (skipT xs i x xs.length * c)) ∧ (0 ≤ c ∧ c < q) ∧ Cg q (skipT xs i (xs.getD i 0) xs.length * c) 1 ∧ M_S_nInverse (skipT xs i (xs.getD i 0) xs.length % q, q) = some (c, true) := by
  have hq1 := hq.1
  have hxi := inF_get hx hi
  have hne := skip_ne hq hq2 hx hn hi xs.length (Nat.le_refl _)
  have r1 := Int.emod_nonneg (skipT xs i (xs.getD i 0) xs.length) (show q ≠ 0 by omega)
  have r2 := Int.emod_lt_of_pos (skipT xs i (xs.getD i 0) xs.length) (show 0 < q by omega)
  obtain ⟨c, c1, c2, c3, c4⟩ := inv_both hq hq2 (a := skipT xs i (xs.getD i 0) xs.length % q) (by omega)
  have hol := others_len hi
  have hoe : ∀ a ∈ othersL xs i, -2000000000 ≤ a ∧ a ≤ 2000000000 := fun a ha => by have := hx a (mem_others ha); omega
  obtain ⟨f1, f2, f3⟩ := frN_ok (q := q) hq1 (othersL xs i)
  have hev := Cg_eq (f3 (xs.getD i 0))
  rw [← skip_all hi] at hev
  have hc : inF q [c] := fun a ha => by simp only [List.mem_cons, List.not_mem_nil, or_false] at ha; omega
  refine ⟨mulP q (frN q (othersL xs i)) [c], c, ?_, ?_, mulP_inF hq1, fun x => ?_, c1, ?_, c4⟩
  · unfold M_I_basisAt
    dsimp only
    rw [clone_eq (by omega), bindO_some', i64_succ (by omega), bindO_some', delete_eq hi, bindO_some', fromRoots_eq ⟨hq1, hq2⟩ hoe (by omega), bindO_some', getI_nat, getD_at (d := (0 : Int)) hi, bindO_some', evalPoly_eq ⟨hq1, hq2⟩ hxi f2 (by omega), bindO_some', hev, c3, bindO_some',
      mulPolys_eq ⟨hq1, hq2⟩ f2 hc (by omega) (by simp), bindO_some']
  · rw [mulP_len, f1, hol]
    simp
    omega
  · refine Cg_trans (mpN_ev (by simp)) ?_
    rw [skip_all hi]
    refine Cg_mul (f3 x) ?_
    have e : polyv [c] x = c := by simp [polyv, sumN]
    rw [e]
    exact Cg_refl _
  · refine Cg_of ?_
    rw [Int.mul_emod] at c2
    rw [Int.emod_emod_of_dvd _ (Int.dvd_refl q), ← Int.mul_emod] at c2
    rw [c2, Int.emod_eq_of_lt (by omega) (by omega)]

noncomputable def cI (q : Int) (xs : List Int) (i : Nat) : Int := ((M_S_nInverse (skipT xs i (xs.getD i 0) xs.length % q, q)).getD (0, false)).1

theorem basisAt_c {q : Int} {xs : List Int} {i : Nat} (hq : IsP q) (hq2 : q ≤ 2000000000) (hx : inF q xs) (hn : xs.Nodup) (hl : xs.length ≤ 100) (hi : i < xs.length) :
    ∃ h, M_I_basisAt (q, xs, (i : Int)) = some h ∧ h.length = xs.length ∧ inF q h ∧ (∀ x, Cg q (polyv h x) (skipT xs i x xs.length * cI q xs i)) ∧ (0 ≤ cI q xs i ∧ cI q xs i < q) ∧ Cg q (skipT xs i (xs.getD i 0) xs.length * cI q xs i) 1 ∧ M_S_nInverse (skipT xs i (xs.getD i 0) xs.length % q, q) = some (cI q xs i, true) := by
  obtain ⟨h, c, h1, h2, h3, h4, h5, h6, h7⟩ := basisAt_eq hq hq2 hx hn hl hi
  have hc : cI q xs i = c := by unfold cI; rw [h7]; rfl
  rw [hc]
  exact ⟨h, h1, h2, h3, h4, h5, h6, h7⟩

noncomputable def lagL (q : Int) (xs : List Int) (x : Int) : List Int := (List.range xs.length).map fun i => skipT xs i x xs.length * cI q xs i % q

theorem lagL_len {q : Int} {xs : List Int} {x : Int} : (lagL q xs x).length = xs.length := by simp [lagL]

theorem lagL_get {q : Int} {xs : List Int} {x : Int} {i : Nat} (hi : i < xs.length) : (lagL q xs x)[i]? = some (skipT xs i x xs.length * cI q xs i % q) := by
  rw [lagL, List.getElem?_map, List.getElem?_range hi]
  rfl

theorem lagrange_eq {q x : Int} {xs : List Int} (hq : IsP q) (hq2 : q ≤ 2000000000) (hx : inF q xs) (hn : xs.Nodup) (hl : xs.length ≤ 100) (hxr : 0 ≤ x ∧ x < q) : M_I_lagrange (q, xs, x) = some (lagL q xs x) := by
  unfold M_I_lagrange
  dsimp only
  refine append_loop (lagL q xs x) some (fun again i a s ha hi hs => ?_) (fun again s hs => ?_) (by rw [lagL_len]; omega)
  · rw [lagL_len] at hi
    rw [lagL_get hi] at ha
    cases ha
    obtain ⟨h, h1, h2, h3, h4, _⟩ := basisAt_c hq hq2 hx hn hl hi
    have g3 : ∀ z : Int, guardO (lenOk (s.length + [z].length)) = some () := fun z => guardO_of (lenOk_of (by simp only [List.length_cons, List.length_nil]; omega))
    simp only [lt_yes hi, cond_true, h1, bindO_some', evalPoly_eq ⟨hq.1, hq2⟩ hxr h3 (show h.length < 2 ^ 30 by omega), Cg_eq (h4 x), g3, i64_succ (show i < 2 ^ 62 by omega)]
  · rw [lagL_len]
    simp only [lt_no, cond_false]

theorem skipT_succ {l : List Int} {i : Nat} {x : Int} {t : Nat} : skipT l i x (t + 1) = if t = i then skipT l i x t else skipT l i x t * (x - l.getD t 0) := rfl

theorem yLagrange_eq {q x : Int} {xs : List Int} (hq : IsP q) (hq2 : q ≤ 2000000000) (hx : inF q xs) (hn : xs.Nodup) (hl : xs.length ≤ 100) (hxr : 0 ≤ x ∧ x < q) : M_S_yLagrange (q, xs, x) = some (lagL q xs x) := by
  have hq1 := hq.1
  have hg0 : guardO (q != 0) = some () := guardO_of (bne_iff_ne.2 (by omega))
  unfold M_S_yLagrange
  dsimp only
  refine append_loop (lagL q xs x) some (fun again i a s ha hi hs => ?_) (fun again s hs => ?_) (by rw [lagL_len]; omega)
  · rw [lagL_len] at hi
    rw [lagL_get hi] at ha
    cases ha
    obtain ⟨h, h1, h2, h3, h4, h5, h6, h7⟩ := basisAt_c hq hq2 hx hn hl hi
    have hxi := getD_at (d := (0 : Int)) hi
    have hai := inF_get hx hi
    have g3 : ∀ z : Int, guardO (lenOk (s.length + [z].length)) = some () := fun z => guardO_of (lenOk_of (by simp only [List.length_cons, List.length_nil]; omega))
    simp only [lt_yes hi, cond_true, getI_nat, hxi, bindO_some']
    have e0 : ((1 : Int), (1 : Int), (0 : Int)) = (skipT xs i x 0 % q, skipT xs i (xs.getD i 0) 0 % q, ((0 : Nat) : Int)) := by
      have : (1 : Int) % q = 1 := Int.emod_eq_of_lt (by omega) (by omega)
      show _ = ((1 : Int) % q, (1 : Int) % q, (0 : Int))
      rw [this]
    rw [e0]
    refine (loopO_for (σ := Unit) (fun j _ => (skipT xs i x j % q, skipT xs i (xs.getD i 0) j % q, (j : Int))) xs.length (fun _ _ => again (s ++ [skipT xs i x xs.length * cI q xs i % q], ((i + 1 : Nat) : Int))) (fun _ _ => True) (fun again3 _ _ => ?_) (fun again3 j _ hj _ ih => ?_) (by omega) (i := 0) (s := ()) (Nat.zero_le _) trivial).trans rfl
    · have r1 := Int.emod_nonneg (skipT xs i x xs.length) (show q ≠ 0 by omega)
      have r2 := Int.emod_lt_of_pos (skipT xs i x xs.length) (show 0 < q by omega)
      have hp := prod_small hq2 ⟨r1, r2⟩ h5
      have he : skipT xs i x xs.length % q * cI q xs i % q = skipT xs i x xs.length * cI q xs i % q := Cg_eq (Cg_mul (Cg_mod _) (Cg_refl _))
      simp only [lt_no, cond_false, h7, bindO_some', i64_in (skipT xs i x xs.length % q * cI q xs i) (by omega), hg0, tmod_nn hp.1, he, g3, i64_succ (show i < 2 ^ 62 by omega)]
    · rw [← ih () trivial]
      have hxj := getD_at (d := (0 : Int)) hj
      have haj := inF_get hx hj
      simp only [lt_yes hj, cond_true, getI_nat, hxj, bindO_some']
      rw [skipT_succ, skipT_succ]
      by_cases hji : j = i
      · rw [if_pos hji, if_pos hji, show (((j : Nat) : Int) != ((i : Nat) : Int)) = false from by rw [hji]; exact bne_self_eq_false _, cond_false, i64_succ (by omega)]
      · have r1 := Int.emod_nonneg (skipT xs i x j) (show q ≠ 0 by omega)
        have r2 := Int.emod_lt_of_pos (skipT xs i x j) (show 0 < q by omega)
        have r3 := Int.emod_nonneg (skipT xs i (xs.getD i 0) j) (show q ≠ 0 by omega)
        have r4 := Int.emod_lt_of_pos (skipT xs i (xs.getD i 0) j) (show 0 < q by omega)
        have r5 := Int.emod_nonneg (x - xs.getD j 0) (show q ≠ 0 by omega)
        have r6 := Int.emod_lt_of_pos (x - xs.getD j 0) (show 0 < q by omega)
        have r7 := Int.emod_nonneg (xs.getD i 0 - xs.getD j 0) (show q ≠ 0 by omega)
        have r8 := Int.emod_lt_of_pos (xs.getD i 0 - xs.getD j 0) (show 0 < q by omega)
        have p1 := prod_small hq2 ⟨r1, r2⟩ ⟨r5, r6⟩
        have p2 := prod_small hq2 ⟨r3, r4⟩ ⟨r7, r8⟩
        have e1 : skipT xs i x j % q * ((x - xs.getD j 0) % q) % q = skipT xs i x j * (x - xs.getD j 0) % q := (Int.mul_emod _ _ _).symm
        have e2 : skipT xs i (xs.getD i 0) j % q * ((xs.getD i 0 - xs.getD j 0) % q) % q = skipT xs i (xs.getD i 0) j * (xs.getD i 0 - xs.getD j 0) % q := (Int.mul_emod _ _ _).symm
        rw [if_neg hji, if_neg hji, show (((j : Nat) : Int) != ((i : Nat) : Int)) = true from bne_iff_ne.2 (by omega), cond_true, i64_in (x - xs.getD j 0) (by omega), nMod_eq (by omega) (by omega), bindO_some', i64_in (skipT xs i x j % q * ((x - xs.getD j 0) % q)) (by omega), hg0, bindO_some', tmod_nn p1.1, e1,
          i64_in (xs.getD i 0 - xs.getD j 0) (by omega), nMod_eq (by omega) (by omega), bindO_some', i64_in (skipT xs i (xs.getD i 0) j % q * ((xs.getD i 0 - xs.getD j 0) % q)) (by omega), bindO_some', tmod_nn p2.1, e2, i64_succ (by omega)]
  · rw [lagL_len]
    simp only [lt_no, cond_false]

abbrev Pa := Int × Int × Pf

def lPart : ByteArray := bytesOf [112, 97, 114, 116, 105, 97, 108]

theorem isEl_one {p q g : Int} (h : Gr p q g) : isEl p q 1 = true := by
  have h3 := h.p3
  unfold isEl
  rw [Int.one_pow, Int.emod_eq_of_lt (by omega) (by omega)]
  simp
  omega

def atF (p q : Int) (cs : List Int) (i : Int) (k : Nat) (s : Int × Int) : Int × Int := (prodM p 1 [s.1, pw p q (cs.getD k 0) s.2], s.2 * i % q)

def atV (p q : Int) (cs : List Int) (i : Int) : Int := (iterN (atF p q cs i) (1, 1) cs.length).1

theorem atF_ok {p q g : Int} {cs : List Int} {i : Int} (h : Gr p q g) (hc : cs.all (isEl p q) = true) {k : Nat} {s : Int × Int} (hk : k < cs.length) (hs : isEl p q s.1 = true ∧ 0 ≤ s.2 ∧ s.2 < q) : isEl p q (atF p q cs i k s).1 = true ∧ 0 ≤ (atF p q cs i k s).2 ∧ (atF p q cs i k s).2 < q := by
  have hq := h.q2
  exact ⟨isEl_mul h hs.1 (isEl_pw h (List.all_eq_true.1 hc _ (List.mem_of_getElem? (getD_at hk)))), Int.emod_nonneg _ (by omega), Int.emod_lt_of_pos _ (by omega)⟩

theorem atV_el {p q g : Int} {cs : List Int} {i : Int} (h : Gr p q g) (hc : cs.all (isEl p q) = true) : isEl p q (atV p q cs i) = true := by
  have hq := h.q2
  exact (iterN_inv (f := atF p q cs i) (s0 := (1, 1)) (Inv := fun _ s => isEl p q s.1 = true ∧ 0 ≤ s.2 ∧ s.2 < q) ⟨isEl_one h, by dsimp only; omega, by dsimp only; omega⟩ cs.length fun k s hk hv => atF_ok h hc hk hv).1

theorem sAt_eq {p q g : Int} {cs : List Int} {i : Int} (h : Gr p q g) (hc : cs.all (isEl p q) = true) (hl : cs.length ≤ 100) (hi : 1 ≤ i ∧ i ≤ 7) : M_S_sAt ((p, q, g), cs, i) = some (atV p q cs i) := by
  have hp := h.p3; have hq := h.q2; have hqp := h.qp; have hpm := h.pm
  have hg0 : guardO (q != 0) = some () := guardO_of (bne_iff_ne.2 (by omega))
  unfold M_S_sAt
  dsimp only
  refine iter_loop (atF p q cs i) (1, 1) cs.length (fun i s => (s.1, s.2, i)) (fun s => some s.1) (fun _ s => isEl p q s.1 = true ∧ 0 ≤ s.2 ∧ s.2 < q) (by omega) ⟨isEl_one h, by dsimp only; omega, by dsimp only; omega⟩ (fun k s hk hv => atF_ok h hc hk hv) (fun again k s hk hv => ?_) (fun again s hv => ?_)
  · have hck := getD_at (d := (0 : Int)) hk
    have hce := isEl_in (List.all_eq_true.1 hc _ (List.mem_of_getElem? hck))
    have r := pw_range (q := q) (x := cs.getD k 0) (e := s.2) (show 1 ≤ p by omega)
    have m0 : 0 ≤ s.2 * i := Int.mul_nonneg hv.2.1 (by omega)
    have m1 : s.2 * i ≤ 2000000000 * 7 := Int.mul_le_mul (by omega) hi.2 (by omega) (by omega)
    simp only [lt_yes hk, cond_true, getI_nat, hck, bindO_some', gExp_pw h hce.1 hce.2, mul2 h (isEl_in hv.1) ⟨r.1, Int.le_of_lt r.2⟩, i64_in (s.2 * i) (by omega), hg0, tmod_nn m0, i64_succ (show k < 2 ^ 62 by omega)]
    rfl
  · simp only [lt_no, cond_false]

theorem commitAt_eq {p q g : Int} {cs : List Int} {i : Int} (h : Gr p q g) (hc : cs.all (isEl p q) = true) (hl : cs.length ≤ 100) (hi : 1 ≤ i ∧ i ≤ 7) : M_I_Group_commitAt ((p, q, g), cs, i) = some (atV p q cs i) := by
  have hp := h.p3; have hq := h.q2; have hqp := h.qp; have hpm := h.pm
  unfold M_I_Group_commitAt
  dsimp only
  refine iter_loop (atF p q cs i) (1, 1) cs.length (fun i s => (s.1, s.2, i)) (fun s => some s.1) (fun _ s => isEl p q s.1 = true ∧ 0 ≤ s.2 ∧ s.2 < q) (by omega) ⟨isEl_one h, by dsimp only; omega, by dsimp only; omega⟩ (fun k s hk hv => atF_ok h hc hk hv) (fun again k s hk hv => ?_) (fun again s hv => ?_)
  · have hck := getD_at (d := (0 : Int)) hk
    have hce := isEl_in (List.all_eq_true.1 hc _ (List.mem_of_getElem? hck))
    have r := pw_range (q := q) (x := cs.getD k 0) (e := s.2) (show 1 ≤ p by omega)
    have m0 : 0 ≤ s.2 * i := Int.mul_nonneg hv.2.1 (by omega)
    have m1 : s.2 * i ≤ 2000000000 * 7 := Int.mul_le_mul (by omega) hi.2 (by omega) (by omega)
    simp only [lt_yes hk, cond_true, getI_nat, hck, bindO_some', pow_pw h hce.1 hce.2, mul2' h (isEl_in hv.1) ⟨r.1, Int.le_of_lt r.2⟩, i64_in (s.2 * i) (by omega), exp_eq h, i64_succ (show k < 2 ^ 62 by omega)]
    rfl
  · simp only [lt_no, cond_false]

def partB (p q g : Int) (cs : List Int) (c : Int × Int) (a : Pa) : Bool := decide (1 ≤ a.1 ∧ a.1 ≤ 7) && (isEl p q a.2.1 && linB p q g lPart [[g], [c.1]] [atV p q cs a.1, a.2.1] a.2.2)

theorem tVerify_eq {p q g : Int} {cs : List Int} {c : Int × Int} {a : Pa} (h : Gr p q g) (hc : cs.all (isEl p q) = true) (hl : cs.length ≤ 100) (hci : isCi p q c = true) (hp : Pf.small a.2.2 1048576) : M_S_tVerify ((p, q, g), cs, c, a) = some (partB p q g cs c a) := by
  unfold M_S_tVerify partB
  dsimp only
  rw [in_eq, bindO_some', gIs_eq h (by simp), bindO_some', show [a.2.1].all (isEl p q) = isEl p q a.2.1 from by simp]
  by_cases hi : 1 ≤ a.1 ∧ a.1 ≤ 7
  · rw [decide_eq_true hi]
    cases hv : isEl p q a.2.1
    · rfl
    simp only [isCi, Bool.and_eq_true] at hci
    rw [sAt_eq h hc hl hi]
    simp only [Bool.not_true, cond_false, bindO_some', Bool.true_and]
    rw [show M_S_sVerifyEq ((p, q, g), bytesOf [112, 97, 114, 116, 105, 97, 108], (g, atV p q cs a.1, c.1, a.2.1), a.2.2.1, a.2.2.2.1, a.2.2.2.2) = _ from sVerifyEq_eq h (show lPart.size ≤ 40 by decide) (eqRows_ok (isEl_g h) (atV_el h hc) hci.1 hv) hp, bindO_some']
    rfl
  · rw [decide_eq_false hi]
    rfl

theorem isPartial_eq {p q g : Int} {cs : List Int} {c : Int × Int} {a : Pa} (h : Gr p q g) (hc : cs.all (isEl p q) = true) (hl : cs.length ≤ 100) (hci : isCi p q c = true) (hp : Pf.small a.2.2 1048576) : M_I_Group_isPartial ((p, q, g), cs, c, a) = some (partB p q g cs c a) := by
  unfold M_I_Group_isPartial partB
  dsimp only
  rw [isTrustee_eq, bindO_some', has_eq' h, bindO_some']
  by_cases hi : 1 ≤ a.1 ∧ a.1 ≤ 7
  · rw [decide_eq_true hi]
    cases hv : isEl p q a.2.1
    · rfl
    simp only [isCi, Bool.and_eq_true] at hci
    rw [commitAt_eq h hc hl hi]
    simp only [Bool.not_true, cond_false, bindO_some', Bool.true_and]
    rw [show M_I_Group_verifyLinear ((p, q, g), bytesOf [112, 97, 114, 116, 105, 97, 108], [[g], [c.1]], [atV p q cs a.1, a.2.1], a.2.2.1, a.2.2.2.1, a.2.2.2.2) = _ from verifyLinear_eq h (show lPart.size ≤ 40 by decide) (eqRows_ok (isEl_g h) (atV_el h hc) hci.1 hv) hp, bindO_some']
    rfl
  · rw [decide_eq_false hi]
    rfl

def paZ : Pa := (0, 0, [], [], [])

def goodS (p q g : Int) (cs : List Int) (c : Int × Int) (l : List Pa) (k : Nat) (s : List Int × List Int) : List Int × List Int := bif !(s.2.any (· == (l.getD k paZ).1)) && partB p q g cs c (l.getD k paZ) then (s.1 ++ [(k : Int)], s.2 ++ [(l.getD k paZ).1]) else s

def goodN (p q g : Int) (cs : List Int) (c : Int × Int) (l : List Pa) : List Int := (iterN (goodS p q g cs c l) ([], []) l.length).1

/-- What is known of the good ones. -/
structure GoodOK (p q g : Int) (cs : List Int) (c : Int × Int) (l : List Pa) (k : Nat) (s : List Int × List Int) : Prop where
  len : s.1.length ≤ k
  who : s.2 = s.1.map fun i => (l.getD i.toNat paZ).1
  nodup : s.2.Nodup
  mem : ∀ i ∈ s.1, (0 ≤ i ∧ i < (l.length : Int)) ∧ partB p q g cs c (l.getD i.toNat paZ) = true

theorem goodS_ok {p q g : Int} {cs : List Int} {c : Int × Int} {l : List Pa} {k : Nat} {s : List Int × List Int} (hk : k < l.length) (h : GoodOK p q g cs c l k s) : GoodOK p q g cs c l (k + 1) (goodS p q g cs c l k s) := by
  obtain ⟨h1, h2, h3, h4⟩ := h
  unfold goodS
  cases hc : !(s.2.any (· == (l.getD k paZ).1)) && partB p q g cs c (l.getD k paZ)
  · rw [cond_false]
    exact ⟨by omega, h2, h3, h4⟩
  · rw [cond_true]
    rw [Bool.and_eq_true] at hc
    obtain ⟨hc1, hc2⟩ := hc
    refine ⟨by simp; omega, by simp only [List.map_append, List.map_cons, List.map_nil, Int.toNat_natCast, ← h2], ?_, fun i hi => ?_⟩
    · rw [List.nodup_append]
      refine ⟨h3, by simp, fun a ha b hb => ?_⟩
      simp only [List.mem_cons, List.not_mem_nil, or_false] at hb
      subst hb
      intro he
      subst he
      rw [Bool.not_eq_true', List.any_eq_false] at hc1
      exact absurd (beq_self_eq_true _) (hc1 _ ha)
    · simp only [List.mem_append, List.mem_singleton] at hi
      rcases hi with hi | rfl
      · exact h4 i hi
      · exact ⟨by omega, by rw [Int.toNat_natCast]; exact hc2⟩

theorem good_zero (p q g : Int) (cs : List Int) (c : Int × Int) (l : List Pa) : GoodOK p q g cs c l 0 ([], []) := ⟨by simp, rfl, by simp, fun i hi => by simp at hi⟩

theorem tGood_eq {p q g : Int} {cs : List Int} {c : Int × Int} {l : List Pa} (h : Gr p q g) (hc : cs.all (isEl p q) = true) (hcl : cs.length ≤ 100) (hci : isCi p q c = true) (hl : l.length ≤ 14) (hr : ∀ a ∈ l, Pf.small a.2.2 1048576) : M_S_tGood ((p, q, g), cs, c, l) = some (goodN p q g cs c l) := by
  unfold M_S_tGood
  dsimp only
  refine iter_loop (goodS p q g cs c l) ([], []) l.length (fun i s => (s.1, s.2, i)) (fun s => some s.1) (fun k s => GoodOK p q g cs c l k s) (by omega) (good_zero ..) (fun k s hk hv => goodS_ok hk hv) (fun again k s hk hv => ?_) (fun again s hv => ?_)
  · have hg := getD_at (d := paZ) hk
    have hsm := hr _ (List.mem_of_getElem? hg)
    have hl1 := hv.len
    have hl2 : s.2.length = s.1.length := by rw [hv.who]; simp
    unfold goodS
    generalize l.getD k paZ = a at hg hsm
    have g3 : ∀ z : Int, guardO (lenOk (s.1.length + [z].length)) = some () := fun z => guardO_of (lenOk_of (by simp only [List.length_cons, List.length_nil]; omega))
    have g4 : ∀ z : Int, guardO (lenOk (s.2.length + [z].length)) = some () := fun z => guardO_of (lenOk_of (by simp only [List.length_cons, List.length_nil]; omega))
    simp only [lt_yes hk, cond_true, getI_nat, hg, bindO_some', has_eq (show s.2.length < 2 ^ 62 by omega), show M_S_tVerify ((p, q, g), cs, (c.1, c.2), a.1, a.2.1, a.2.2.1, a.2.2.2.1, a.2.2.2.2) = _ from tVerify_eq h hc hcl hci hsm, g3, g4, i64_succ (show k < 2 ^ 62 by omega)]
    cases s.2.any (· == a.1)
    · cases partB p q g cs c a <;> rfl
    · rfl
  · simp only [lt_no, cond_false]

theorem good_eq {p q g : Int} {cs : List Int} {c : Int × Int} {l : List Pa} (h : Gr p q g) (hc : cs.all (isEl p q) = true) (hcl : cs.length ≤ 100) (hci : isCi p q c = true) (hl : l.length ≤ 14) (hr : ∀ a ∈ l, Pf.small a.2.2 1048576) : M_I_Group_good ((p, q, g), cs, c, l) = some (goodN p q g cs c l) := by
  unfold M_I_Group_good
  dsimp only
  refine iter_loop (goodS p q g cs c l) ([], []) l.length (fun i s => (s.1, s.2, i)) (fun s => some s.1) (fun k s => GoodOK p q g cs c l k s) (by omega) (good_zero ..) (fun k s hk hv => goodS_ok hk hv) (fun again k s hk hv => ?_) (fun again s hv => ?_)
  · have hg := getD_at (d := paZ) hk
    have hsm := hr _ (List.mem_of_getElem? hg)
    have hl1 := hv.len
    have hl2 : s.2.length = s.1.length := by rw [hv.who]; simp
    unfold goodS
    generalize l.getD k paZ = a at hg hsm
    have g3 : ∀ z : Int, guardO (lenOk (s.1.length + [z].length)) = some () := fun z => guardO_of (lenOk_of (by simp only [List.length_cons, List.length_nil]; omega))
    have g4 : ∀ z : Int, guardO (lenOk (s.2.length + [z].length)) = some () := fun z => guardO_of (lenOk_of (by simp only [List.length_cons, List.length_nil]; omega))
    simp only [lt_yes hk, cond_true, getI_nat, hg, bindO_some', contains_eq (show s.2.length < 2 ^ 62 by omega), show M_I_Group_isPartial ((p, q, g), cs, (c.1, c.2), a.1, a.2.1, a.2.2.1, a.2.2.2.1, a.2.2.2.2) = _ from isPartial_eq h hc hcl hci hsm, g3, g4, i64_succ (show k < 2 ^ 62 by omega)]
    cases s.2.any (· == a.1)
    · cases partB p q g cs c a <;> rfl
    · rfl
  · simp only [lt_no, cond_false]

def idxL (l : List Pa) (ks : List Int) : List Int := ks.map fun k => (l.getD k.toNat paZ).1

def valL (l : List Pa) (ks : List Int) : List Int := ks.map fun k => (l.getD k.toNat paZ).2.1

theorem pick_loop {β : Type} {l : List Pa} {ks : List Int} (fin : List Int × List Int → Option β) (hk : ∀ k ∈ ks, 0 ≤ k ∧ k < (l.length : Int)) (hl : ks.length ≤ 1000) {n : Int} (hn : n = (ks.length : Int)) {body : (List Int × List Int × Int → Option β) → List Int × List Int × Int → Option β}
    (hb : ∀ again s, body again s = cond (decide (s.2.2 < n)) (bindO (getI ks s.2.2) fun a4 => bindO (getI l a4) fun a5 => bindO (guardO (lenOk (s.1.length + [a5.1].length))) fun _ => bindO (some (s.1 ++ [a5.1])) fun a7 => bindO (getI l a4) fun a8 => bindO (guardO (lenOk (s.2.1.length + [a8.2.1].length))) fun _ => bindO (some (s.2.1 ++ [a8.2.1])) fun a10 => bindO (some (IntKind.wrap .i64 (s.2.2 + 1))) fun a11 => again (a7, a10, a11)) (fin (s.1, s.2.1))) :
    loopO body ([], [], 0) = fin (idxL l ks, valL l ks) := by
  subst hn
  have e1 : (idxL l ks).length = ks.length := List.length_map ..
  have e2 : (valL l ks).length = ks.length := List.length_map ..
  refine (loopO_for (σ := Unit) (fun i _ => ((idxL l ks).take i, (valL l ks).take i, (i : Int))) ks.length (fun _ _ => fin (idxL l ks, valL l ks)) (fun _ _ => True) (fun again _ _ => ?_) (fun again i _ hi _ ih => ?_) (by omega) (i := 0) (s := ()) (Nat.zero_le _) trivial).trans rfl
  · rw [hb]
    simp only [lt_no, cond_false]
    rw [List.take_of_length_le (by omega), List.take_of_length_le (by omega)]
  · have ha := List.getElem?_eq_getElem hi
    obtain ⟨k1, k2⟩ := hk _ (List.getElem_mem hi)
    rw [hb, ← ih () trivial]
    generalize ks[i] = k at ha k1 k2
    obtain ⟨K, rfl⟩ := Int.eq_ofNat_of_zero_le k1
    have hK := getD_at (d := paZ) (show K < l.length by omega)
    have t1 : (idxL l ks).take (i + 1) = (idxL l ks).take i ++ [(l.getD K paZ).1] := map_take_succ ha
    have t2 : (valL l ks).take (i + 1) = (valL l ks).take i ++ [(l.getD K paZ).2.1] := map_take_succ ha
    have g1 : ∀ z : Int, guardO (lenOk (((idxL l ks).take i).length + [z].length)) = some () := fun z => guardO_of (lenOk_of (by simp only [List.length_cons, List.length_nil, List.length_take]; omega))
    have g2 : ∀ z : Int, guardO (lenOk (((valL l ks).take i).length + [z].length)) = some () := fun z => guardO_of (lenOk_of (by simp only [List.length_cons, List.length_nil, List.length_take]; omega))
    simp only [lt_yes hi, cond_true, getI_nat, ha, hK, bindO_some', g1, g2, i64_succ (show i < 2 ^ 62 by omega), t1, t2]

noncomputable def partR (p q g : Int) (cs : List Int) (c : Int × Int) (l : List Pa) : Int :=
  prodM p 1 [c.2, gpf p q (valL l ((goodN p q g cs c l).take cs.length)) (lagL q (idxL l ((goodN p q g cs c l).take cs.length)) 0) ^ (q - 1).toNat % p]

theorem good_facts (p q g : Int) (cs : List Int) (c : Int × Int) (l : List Pa) : ∃ w, GoodOK p q g cs c l l.length (goodN p q g cs c l, w) := by
  have := iterN_inv (f := goodS p q g cs c l) (s0 := ([], [])) (Inv := fun k s => GoodOK p q g cs c l k s) (good_zero ..) l.length (fun k s hk hv => goodS_ok hk hv)
  exact ⟨_, this⟩

theorem part_facts {p q g : Int} {cs : List Int} {c : Int × Int} {l : List Pa} (hq7 : 7 < q) (t : Nat) (hl : l.length ≤ 14) :
    (idxL l ((goodN p q g cs c l).take t)).Nodup ∧ inF q (idxL l ((goodN p q g cs c l).take t)) ∧ (idxL l ((goodN p q g cs c l).take t)).length = ((goodN p q g cs c l).take t).length ∧ (valL l ((goodN p q g cs c l).take t)).length = ((goodN p q g cs c l).take t).length ∧
      (valL l ((goodN p q g cs c l).take t)).all (isEl p q) = true ∧ (∀ k ∈ (goodN p q g cs c l).take t, 0 ≤ k ∧ k < (l.length : Int)) ∧ ((goodN p q g cs c l).take t).length ≤ 14 := by
  obtain ⟨w, h1, h2, h3, h4⟩ := good_facts p q g cs c l
  dsimp only at h1 h2 h3 h4
  generalize goodN p q g cs c l = G at h1 h2 h4
  have hpb : ∀ k ∈ G.take t, partB p q g cs c (l.getD k.toNat paZ) = true := fun k hk => (h4 k (List.mem_of_mem_take hk)).2
  refine ⟨?_, fun a ha => ?_, List.length_map .., List.length_map .., ?_, fun k hk => (h4 k (List.mem_of_mem_take hk)).1, by rw [List.length_take]; omega⟩
  · rw [h2] at h3
    unfold idxL
    rw [List.map_take]
    exact List.Sublist.nodup (List.take_sublist _ _) h3
  · obtain ⟨k, hk, rfl⟩ := List.mem_map.1 ha
    have := hpb k hk
    simp only [partB, Bool.and_eq_true, decide_eq_true_eq] at this
    omega
  · rw [List.all_eq_true]
    intro a ha
    obtain ⟨k, hk, rfl⟩ := List.mem_map.1 ha
    have := hpb k hk
    simp only [partB, Bool.and_eq_true] at this
    exact this.2.1

theorem tCombine_eq {p q g : Int} {cs : List Int} {c : Int × Int} {l : List Pa} (h : Gr p q g) (hq7 : 7 < q) (hc : cs.all (isEl p q) = true) (hcl : cs.length ≤ 7) (hci : isCi p q c = true) (hl : l.length ≤ 14) (hr : ∀ a ∈ l, Pf.small a.2.2 1048576) :
    M_S_tCombine ((p, q, g), cs, c, l) = some (bif decide ((goodN p q g cs c l).length < cs.length) then (0, false) else (partR p q g cs c l, true)) := by
  have hp := h.p3; have hpm := h.pm; have hqp := h.qp
  have hprime := isP_spec h.pq
  unfold M_S_tCombine
  dsimp only
  rw [show M_S_tGood ((p, q, g), cs, (c.1, c.2), l) = _ from tGood_eq h hc (by omega) hci hl hr, bindO_some']
  by_cases ht : (goodN p q g cs c l).length < cs.length
  · rw [decide_eq_true ht, decide_eq_true (show ((goodN p q g cs c l).length : Int) < (cs.length : Int) by omega)]
    rfl
  · rw [decide_eq_false ht, decide_eq_false (show ¬ ((goodN p q g cs c l).length : Int) < (cs.length : Int) by omega), cond_false, cond_false, sliceNH_nat (show cs.length ≤ (goodN p q g cs c l).length by omega), bindO_some']
    obtain ⟨f1, f2, f3, f4, f5, f6, f7⟩ := part_facts (p := p) (g := g) (cs := cs) (c := c) hq7 cs.length hl
    have hlt : ((goodN p q g cs c l).take cs.length).length = cs.length := by rw [List.length_take]; omega
    refine (pick_loop (l := l) (ks := (goodN p q g cs c l).take cs.length) (fun o => bindO (M_S_yLagrange (q, (o.1, (0 : Int)))) fun a12 => bindO (M_S_gProd ((p, q, g), o.2, a12)) fun a13 => bindO (M_S_gInv ((p, q, g), a13)) fun a14 => bindO (M_S_gMul ((p, q, g), [c.2, a14])) fun a15 => some (a15, true)) f6 (by omega) (by rw [hlt]) (fun _ _ => rfl)).trans ?_
    dsimp only
    have r1 := gpf_range (q := q) (show 2 ≤ p by omega) (valL l ((goodN p q g cs c l).take cs.length)) (lagL q (idxL l ((goodN p q g cs c l).take cs.length)) 0)
    have r2 := inv_range (p := p) (q := q) (x := gpf p q (valL l ((goodN p q g cs c l).take cs.length)) (lagL q (idxL l ((goodN p q g cs c l).take cs.length)) 0)) (by omega)
    rw [yLagrange_eq hprime (by omega) f2 f1 (by omega) (by omega), bindO_some', gProd_eq h (by rw [lagL_len, f3, f4]) (all_in f5) (by omega), bindO_some', gInv_eq h r1.1 (by omega), bindO_some', mul2 h (isCi_in hci).2 ⟨r2.1, by omega⟩, bindO_some']
    rfl

theorem CombinePartials_eq {p q g : Int} {cs : List Int} {c : Int × Int} {l : List Pa} (hok : okG p q g = true) (hq7 : 7 < q) (hc : cs.all (isEl p q) = true) (hcl : 1 ≤ cs.length ∧ cs.length ≤ 7) (hci : isCi p q c = true) (hl : l.length ≤ 14) (hr : ∀ a ∈ l, Pf.small a.2.2 1048576) :
    M_I_CombinePartials ((p, q, g), cs, c, l) = some (bif decide ((goodN p q g cs c l).length < cs.length) then (0, false) else (partR p q g cs c l, true)) := by
  have h := okG_spec hok
  have hp := h.p3; have hpm := h.pm; have hqp := h.qp
  have hprime := isP_spec h.pq
  unfold M_I_CombinePartials M_I_GoodPartials M_I_isDecryption M_I_isSharing M_I_Group_areCommits
  dsimp only
  rw [decide_eq_true (show q > 7 by omega), IsValidGroup_eq, hok, within_eq, decide_eq_true (show (1 : Int) ≤ (cs.length : Int) ∧ (cs.length : Int) ≤ 7 by omega), hasAll_eq h (by omega), hc, show M_I_Group_hasCipher ((p, q, g), c.1, c.2) = _ from hasCipher_eq h, hci]
  simp only [cond_true, bindO_some', Bool.not_true, cond_false]
  rw [gt14, decide_eq_true hl]
  simp only [Bool.not_true, cond_false]
  rw [show M_I_Group_good ((p, q, g), cs, (c.1, c.2), l) = _ from good_eq h hc (by omega) hci hl hr, bindO_some', bindO_some']
  simp only [Bool.not_true, cond_false]
  by_cases ht : (goodN p q g cs c l).length < cs.length
  · rw [decide_eq_true ht, decide_eq_true (show ((goodN p q g cs c l).length : Int) < (cs.length : Int) by omega)]
    rfl
  · rw [decide_eq_false ht, decide_eq_false (show ¬ ((goodN p q g cs c l).length : Int) < (cs.length : Int) by omega), cond_false, cond_false, sliceNH_nat (show cs.length ≤ (goodN p q g cs c l).length by omega), bindO_some']
    obtain ⟨f1, f2, f3, f4, f5, f6, f7⟩ := part_facts (p := p) (g := g) (cs := cs) (c := c) hq7 cs.length hl
    have hlt : ((goodN p q g cs c l).take cs.length).length = cs.length := by rw [List.length_take]; omega
    refine (pick_loop (l := l) (ks := (goodN p q g cs c l).take cs.length) (fun o => bindO (M_I_lagrange (q, (o.1, (0 : Int)))) fun a12 => bindO (M_I_Group_powers ((p, q, g), o.2, a12)) fun a13 => bindO (M_I_Group_inv ((p, q, g), a13)) fun a14 => bindO (M_I_Group_mul ((p, q, g), [c.2, a14])) fun a15 => some (a15, true)) f6 (by omega) (by rw [hlt]) (fun _ _ => rfl)).trans ?_
    dsimp only
    have r1 := gpf_range (q := q) (show 2 ≤ p by omega) (valL l ((goodN p q g cs c l).take cs.length)) (lagL q (idxL l ((goodN p q g cs c l).take cs.length)) 0)
    have r2 := inv_range (p := p) (q := q) (x := gpf p q (valL l ((goodN p q g cs c l).take cs.length)) (lagL q (idxL l ((goodN p q g cs c l).take cs.length)) 0)) (by omega)
    rw [lagrange_eq hprime (by omega) f2 f1 (by omega) (by omega), bindO_some', powers_eq h (by rw [lagL_len, f3, f4]) (all_in f5) (by omega), bindO_some', Group_inv_eq h r1.1 (by omega), bindO_some', mul2' h (isCi_in hci).2 ⟨r2.1, by omega⟩, bindO_some']
    rfl

theorem comb_ci {p q g : Int} {c : Int × Int} (h : Gr p q g) : ∀ (l : List Bl) (s : List Int × Int × Int), isCi p q s.2 = true → isCi p q (l.foldl (combS p q g c) s).2 = true
  | [], s, hs => hs
  | b :: l, s, hs => by
    refine comb_ci h l _ ?_
    unfold combS
    cases hb : !(s.1.any (· == b.1)) && blindB p q g c b
    · exact hs
    · rw [Bool.and_eq_true] at hb
      exact isCi_mulC h hs (blind_value hb.2)

noncomputable def testEq (p q g : Int) (cs : List Int) (a b : Int × Int) (l : List Bl) (ps : List Pa) : Bool × Bool :=
  bif (okG p q g && decide (q > 7)) && ((decide (1 ≤ cs.length ∧ cs.length ≤ 7) && cs.all (isEl p q)) && (isCi p q a && (decide (ps.length ≤ 14) && isCi p q b))) then
    bif (combine p q g (over p q a.1 b.1, over p q a.2 b.2) l).2.2 then
      bif decide ((goodN p q g cs (combine p q g (over p q a.1 b.1, over p q a.2 b.2) l).1 ps).length < cs.length) then (false, false) else (partR p q g cs (combine p q g (over p q a.1 b.1, over p q a.2 b.2) l).1 ps == 1, true)
    else (false, false) else (false, false)

theorem cast_in7 (n : Nat) : decide ((1 : Int) ≤ (n : Int) ∧ (n : Int) ≤ 7) = decide (1 ≤ n ∧ n ≤ 7) := decide_eq_decide.2 (by omega)

theorem le14 (n : Nat) : decide ((n : Int) ≤ 14) = decide (n ≤ 14) := decide_eq_decide.2 (by omega)

theorem combine_ci {p q g : Int} {c : Int × Int} {l : List Bl} (hc : (combine p q g c l).2.2 = true) : isCi p q (combine p q g c l).1 = true := by
  unfold combine at hc ⊢
  cases hok : okG p q g && (isCi p q c && (decide (l.length ≤ 14) && !(((l.foldl (combS p q g c) ([], 1, 1)).1.length : Int) == 0)))
  · rw [hok] at hc
    cases hc
  · rw [Bool.and_eq_true] at hok
    have h := okG_spec hok.1
    rw [cond_true]
    exact comb_ci h l ([], 1, 1) (by simp only [isCi, isEl_one h, Bool.and_self])

theorem S_TestEqual_eq {p q g : Int} {cs : List Int} {a b : Int × Int} {l : List Bl} {ps : List Pa} (hcl : cs.length < 2 ^ 62) (hr : ∀ r ∈ l, Pf.small r.2.2 1048576) (hp : ∀ r ∈ ps, Pf.small r.2.2 1048576) : M_S_TestEqual ((p, q, g), cs, a, b, l, ps) = some (testEq p q g cs a b l ps) := by
  unfold M_S_TestEqual M_S_tInput M_S_sGroup M_S_sCommits testEq
  dsimp only
  rw [l2Good_eq, bindO_some']
  cases hok : okG p q g
  · rfl
  have h := okG_spec hok
  rw [in_eq, cast_in7, gIs_eq h hcl, show M_S_eGood ((p, q, g), [(a.1, a.2)]) = some (isCi p q a) from eGood1_eq h, show M_S_eGood ((p, q, g), [(b.1, b.2)]) = some (isCi p q b) from eGood1_eq h, le14]
  simp only [cond_true, bindO_some', Bool.true_and]
  by_cases hq7 : q > 7
  · rw [decide_eq_true hq7]
    by_cases hc17 : 1 ≤ cs.length ∧ cs.length ≤ 7
    · rw [decide_eq_true hc17]
      cases hca : cs.all (isEl p q)
      · rfl
      cases ha : isCi p q a
      · rfl
      by_cases hps : ps.length ≤ 14
      · rw [decide_eq_true hps]
        cases hb : isCi p q b
        · rfl
        simp only [cond_true, bindO_some', Bool.not_true, cond_false, Bool.and_self]
        rw [show M_S_qQuo ((p, q, g), (a.1, a.2), b.1, b.2) = _ from qQuo_eq h ha hb, bindO_some', S_CombineBlinds_eq hr, bindO_some']
        dsimp only
        cases hcb : (combine p q g (over p q a.1 b.1, over p q a.2 b.2) l).2.2
        · rfl
        have hci := combine_ci hcb
        simp only [Bool.not_true, cond_false]
        rw [show M_S_tCombine ((p, q, g), cs, ((combine p q g (over p q a.1 b.1, over p q a.2 b.2) l).1.1, (combine p q g (over p q a.1 b.1, over p q a.2 b.2) l).1.2), ps) = _ from tCombine_eq h hq7 hca hc17.2 hci hps hp, bindO_some']
        cases decide ((goodN p q g cs (combine p q g (over p q a.1 b.1, over p q a.2 b.2) l).1 ps).length < cs.length) <;> rfl
      · rw [decide_eq_false hps]
        rfl
    · rw [decide_eq_false hc17]
      rfl
  · rw [decide_eq_false hq7]
    rfl

theorem I_TestEqual_eq {p q g : Int} {cs : List Int} {a b : Int × Int} {l : List Bl} {ps : List Pa} (hcl : cs.length < 2 ^ 62) (hr : ∀ r ∈ l, Pf.small r.2.2 1048576) (hp : ∀ r ∈ ps, Pf.small r.2.2 1048576) : M_I_TestEqual ((p, q, g), cs, a, b, l, ps) = some (testEq p q g cs a b l ps) := by
  unfold M_I_TestEqual M_I_QuotientOf testEq
  dsimp only
  rw [IsValidGroup_eq, bindO_some']
  cases hok : okG p q g
  · rfl
  have h := okG_spec hok
  have hsh : M_I_isSharing (p, q, g) = some (decide (q > 7)) := by
    unfold M_I_isSharing
    dsimp only
    rw [IsValidGroup_eq, hok, bindO_some']
    cases decide (q > 7) <;> rfl
  rw [show M_I_Group_hasCipher ((p, q, g), a.1, a.2) = some (isCi p q a) from hasCipher_eq h, show M_I_Group_hasCipher ((p, q, g), b.1, b.2) = some (isCi p q b) from hasCipher_eq h, hsh]
  simp only [bindO_some', Bool.true_and]
  cases ha : isCi p q a
  · cases decide (q > 7) <;> cases (decide (1 ≤ cs.length ∧ cs.length ≤ 7) && cs.all (isEl p q)) <;> rfl
  cases hb : isCi p q b
  · cases decide (q > 7) <;> cases (decide (1 ≤ cs.length ∧ cs.length ≤ 7) && cs.all (isEl p q)) <;> cases decide (ps.length ≤ 14) <;> rfl
  simp only [Bool.not_true, cond_false, Bool.and_true]
  rw [show M_I_Group_quotient ((p, q, g), (a.1, a.2), b.1, b.2) = _ from quotient_eq h ha hb, bindO_some', bindO_some']
  simp only [Bool.not_true, cond_false]
  by_cases hq7 : q > 7
  · rw [decide_eq_true hq7]
    simp only [Bool.not_true, cond_false]
    rw [I_CombineBlinds_eq hr, bindO_some']
    cases hcb : (combine p q g (over p q a.1 b.1, over p q a.2 b.2) l).2.2
    · cases (decide (1 ≤ cs.length ∧ cs.length ≤ 7) && cs.all (isEl p q)) <;> cases decide (ps.length ≤ 14) <;> rfl
    have hci := combine_ci hcb
    simp only [Bool.not_true, cond_false]
    generalize (combine p q g (over p q a.1 b.1, over p q a.2 b.2) l).1 = c at hci
    by_cases hall : (1 ≤ cs.length ∧ cs.length ≤ 7) ∧ cs.all (isEl p q) = true ∧ ps.length ≤ 14
    · obtain ⟨hc17, hca, hps⟩ := hall
      rw [decide_eq_true hc17, hca, decide_eq_true hps, show M_I_CombinePartials ((p, q, g), cs, (c.1, c.2), ps) = _ from CombinePartials_eq hok hq7 hca hc17 hci hps hp, bindO_some']
      cases decide ((goodN p q g cs c ps).length < cs.length) <;> rfl
    · have hfail : M_I_CombinePartials ((p, q, g), cs, (c.1, c.2), ps) = some (0, false) := by
        unfold M_I_CombinePartials M_I_GoodPartials M_I_isDecryption M_I_Group_areCommits
        dsimp only
        rw [hsh, decide_eq_true hq7, within_eq, cast_in7, hasAll_eq h hcl, show M_I_Group_hasCipher ((p, q, g), c.1, c.2) = _ from hasCipher_eq h, hci]
        simp only [bindO_some', cond_true]
        by_cases hc17 : 1 ≤ cs.length ∧ cs.length ≤ 7
        · rw [decide_eq_true hc17]
          cases hca : cs.all (isEl p q)
          · rfl
          · have hps : ¬ ps.length ≤ 14 := fun hps => hall ⟨hc17, hca, hps⟩
            rw [gt14, decide_eq_false hps]
            rfl
        · rw [decide_eq_false hc17]
          rfl
      rw [hfail, bindO_some']
      have : ((decide (1 ≤ cs.length ∧ cs.length ≤ 7) && cs.all (isEl p q)) && decide (ps.length ≤ 14)) = false := by
        rw [Bool.eq_false_iff]
        intro hh
        simp only [Bool.and_eq_true, decide_eq_true_eq] at hh
        exact hall ⟨hh.1.1, hh.1.2, hh.2⟩
      simp only [Bool.true_and]
      rw [this]
      rfl
  · rw [decide_eq_false hq7]
    rfl

def wPa (a : Pa) : Nat := wPf a.2.2

theorem szPartialS_eq {x : List Pa} {left : Int} (h0 : 0 ≤ left) (h1 : left ≤ 1048576) (hx : x.length < 2 ^ 63) (hr : ∀ r ∈ x, Pf.small r.2.2 (2 ^ 63 - 1)) : ∃ k, M_L_szPartialS (x, left) = some k ∧ k ≤ left ∧ (0 ≤ k → k = left - x.length - wsum wPa x) := by
  unfold M_L_szPartialS M_L_szPartial
  simp only [i64_in (left - (x.length : Int)) (by omega), bindO_some']
  by_cases hk : left - (x.length : Int) < 0
  · rw [decide_eq_true hk]
    exact ⟨-1, rfl, by omega, fun h => by omega⟩
  · rw [decide_eq_false hk, cond_false]
    refine Exists.imp (fun k hk => ⟨hk.1, by have := hk.2.1; omega, hk.2.2⟩) (sz_loop wPa x (left := left - x.length) (by omega) (by omega) (by omega) (fun again i a l ha hi g0 g1 => ?_) (fun again l => ?_))
    · obtain ⟨k, e1, e2, e3⟩ := szProof_eq (a := a.2.2) (left := l) g0 g1 (hr a (List.mem_of_getElem? ha))
      refine ⟨k, e2, fun h => by have := e3 h; simp only [wPa, wPf]; omega, ?_⟩
      simp only [lt_yes hi, cond_true, getI_nat, ha, bindO_some', show M_L_szProof ((a.2.2.1, a.2.2.2.1, a.2.2.2.2), l) = some k from e1, i64_succ (show i < 2 ^ 62 by omega)]
      by_cases hk : k < 0 <;> simp [hk]
    · simp only [lt_no, cond_false]

theorem toPartial_eq {b : Pa} (h : Pf.small b.2.2 1048576) : M_L_toPartial b = some b := by
  unfold M_L_toPartial
  rw [show M_L_toProof (b.2.2.1, b.2.2.2.1, b.2.2.2.2) = some b.2.2 from toProof_eq h, bindO_some']

theorem eqPartial_eq {a : Pa} (h : Pf.small a.2.2 (2 ^ 40)) : M_L_eqPartial (a, a) = some true := by
  obtain ⟨i, v, pf⟩ := a
  unfold M_L_eqPartial
  dsimp only
  rw [show M_L_eqProof ((pf.1, pf.2.1, pf.2.2), pf.1, pf.2.1, pf.2.2) = some (decide (pf = pf)) from eqProof_eq h, bindO_some']
  simp

theorem toPartialS_eq {x : List Pa} (h : x.length ≤ 1048576) (hr : ∀ r ∈ x, Pf.small r.2.2 1048576) : M_L_toPartialS x = some x := by
  unfold M_L_toPartialS
  have hx : (x.length : Int) ≤ ((lim : Nat) : Int) := by rw [lim_eq]; omega
  rw [guardO_of (by simpa using hx), bindO_some', Int.toNat_natCast]
  refine copy_loop x (0, 0, [], [], []) (fun again i a s ha hi hs => ?_) (fun again s hs => ?_) (by omega)
  · have hsi := List.getElem?_eq_getElem (l := s) (show i < s.length by omega)
    simp only [lt_yes hi, cond_true, getI_nat, ha, hsi, bindO_some', show M_L_toPartial (a.1, a.2.1, a.2.2.1, a.2.2.2.1, a.2.2.2.2) = some a from toPartial_eq (hr a (List.mem_of_getElem? ha)), Int.toNat_natCast, i64_succ (show i < 2 ^ 62 by omega)]
  · simp

theorem eqPartialS_eq {a : List Pa} (h : a.length < 2 ^ 62) (hr : ∀ r ∈ a, Pf.small r.2.2 (2 ^ 40)) : M_L_eqPartialS (a, a) = some true := by
  unfold M_L_eqPartialS
  have e1 : ((a.length : Int) != (a.length : Int)) = false := by simp
  dsimp only
  rw [e1, cond_false]
  refine (eq_loop a a rfl (fun again i x y hx hy hi => ?_) (fun again => by simp) h).trans (by simp)
  obtain rfl : x = y := by rw [hx] at hy; exact Option.some.inj hy
  simp only [lt_yes hi, cond_true, getI_nat, hx, bindO_some', show M_L_eqPartial ((x.1, x.2.1, x.2.2.1, x.2.2.2.1, x.2.2.2.2), x.1, x.2.1, x.2.2.1, x.2.2.2.1, x.2.2.2.2) = some true from eqPartial_eq (hr x (List.mem_of_getElem? hx)), i64_succ (show i < 2 ^ 62 by omega)]
  simp

theorem wf_pas {l : List Pa} (h : WF (.sl (.cons (.int .i64) (.cons (.int .i64) (.one (.cons (.sl (.int .i64)) (.cons (.sl (.int .i64)) (.one (.sl (.int .i64))))))))) l) : l.length < 2 ^ 63 ∧ ∀ r ∈ l, Pf.small r.2.2 (2 ^ 63 - 1) := by
  have hm : maxLen < 2 ^ 63 := by decide
  refine ⟨Nat.lt_of_le_of_lt h.1 hm, fun r hr => ?_⟩
  have hw : WF (.cons (.sl (.int .i64)) (.cons (.sl (.int .i64)) (.one (.sl (.int .i64))))) r.2.2 := (h.2 r hr).2.2
  have h1 := hw.1.1
  have h2 := hw.2.1.1
  have h3 := hw.2.2.1
  exact ⟨by omega, by omega, by omega⟩

theorem law_FnExactTestEqual (x : (Int × Int × Int) × List Int × (Int × Int) × (Int × Int) × List Bl × List Pa) (h : WFI [.data (.cons (.int .i64) (.cons (.int .i64) (.one (.int .i64)))), .data (.sl (.int .i64)), .data (.cons (.int .i64) (.one (.int .i64))), .data (.cons (.int .i64) (.one (.int .i64))), .data (.sl (.cons (.int .i64) (.cons (.cons (.int .i64) (.one (.int .i64))) (.one (.cons (.sl (.int .i64)) (.cons (.sl (.int .i64)) (.one (.sl (.int .i64))))))))), .data (.sl (.cons (.int .i64) (.cons (.int .i64) (.one (.cons (.sl (.int .i64)) (.cons (.sl (.int .i64)) (.one (.sl (.int .i64)))))))))] x) : M_L_FnExactTestEqual x = some true := by
  obtain ⟨⟨p, q, g⟩, cs, a, b, l, ps⟩ := x
  obtain ⟨w1, w2⟩ := wf_bl (l := l) h.2.2.2.2.1
  obtain ⟨w3, w4⟩ := wf_pas (l := ps) h.2.2.2.2.2
  unfold M_L_FnExactTestEqual
  dsimp only
  rw [gtM]
  by_cases hs : cs.length ≤ 1048576
  · rw [decide_eq_true hs, Bool.not_true, cond_false]
    obtain ⟨k1, e1, e2, e3⟩ := szBlindS_eq (x := l) (left := 1048576) (by omega) (by omega) w1 w2
    rw [e1, bindO_some']
    by_cases hk1 : k1 < 0
    · rw [decide_eq_true hk1]
      rfl
    · rw [decide_eq_false hk1, cond_false]
      have hk1' := e3 (by omega)
      obtain ⟨k, f1, f2, f3⟩ := szPartialS_eq (x := ps) (left := k1) (by omega) (by omega) w3 w4
      rw [f1, bindO_some']
      by_cases hk : k < 0
      · rw [decide_eq_true hk]
        rfl
      · have hk' := f3 (by omega)
        have hlen : l.length ≤ 1048576 := by omega
        have hsum : wsum wBl l ≤ 1048576 := by omega
        have hr : ∀ r ∈ l, Pf.small r.2.2 1048576 := fun r hm => by
          have := wsum_mem (w := wBl) hm
          simp only [wBl, wPf] at this hsum
          exact ⟨by omega, by omega, by omega⟩
        have hsum2 : wsum wPa ps ≤ 1048576 := by omega
        have hp : ∀ r ∈ ps, Pf.small r.2.2 1048576 := fun r hm => by
          have := wsum_mem (w := wPa) hm
          simp only [wPa, wPf] at this hsum2
          exact ⟨by omega, by omega, by omega⟩
        have hS := S_TestEqual_eq (p := p) (q := q) (g := g) (cs := cs) (a := a) (b := b) (l := l) (ps := ps) (by omega) hr hp
        have hI := I_TestEqual_eq (p := p) (q := q) (g := g) (cs := cs) (a := a) (b := b) (l := l) (ps := ps) (by omega) hr hp
        generalize testEq p q g cs a b l ps = o at hS hI
        obtain ⟨o1, o2⟩ := o
        have he := eqBlindS_eq (a := l) (by omega) (fun r hm => ⟨by have := (hr r hm).1; omega, by have := (hr r hm).2.1; omega, by have := (hr r hm).2.2; omega⟩)
        have he2 := eqPartialS_eq (a := ps) (by omega) (fun r hm => ⟨by have := (hp r hm).1; omega, by have := (hp r hm).2.1; omega, by have := (hp r hm).2.2; omega⟩)
        rw [decide_eq_false hk, cond_false]
        simp [toGroup_eq, toIntS_eq hs, toCipher_eq, toBlindS_eq hlen hr, toPartialS_eq (show ps.length ≤ 1048576 by omega) hp, hS, hI, he, he2, eqIntS_eq (show cs.length < 2 ^ 62 by omega)]
  · rw [decide_eq_false hs]
    rfl

end Go.Proofs.YtnpjjdijhfejdaaGreat.Vd
